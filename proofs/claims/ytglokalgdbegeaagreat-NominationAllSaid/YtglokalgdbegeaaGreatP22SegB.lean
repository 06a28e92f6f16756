/- Laws of the printed functions. -/
import Derived.Test.YtglokalgdbegeaaGreatP22SegA
import Derived.Test.YtglokalgdbegeaaGreatRows
import Derived.ProofKit
import Derived.LaidMore
import Derived.OpenShut
import Derived.Stop.Joined
namespace Go.Proofs.YtglokalgdbegeaaGreat
open Go Go.Ab
def sayN (n : Nominator) : Nomination := ⟨n.Node, n.Seq, n.Trust, n.Votes, n.Accepts⟩
def nomB (m : Nomination) : Bool := inR m.Node && (decide (1 <= m.Seq) && (valid m.Trust && (q0y m.Votes && q0y m.Accepts)))
theorem q1z {m : Nomination} : nomB m = true ↔ inR m.Node = true /\ 1 <= m.Seq /\ valid m.Trust = true /\ q0y m.Votes = true /\ q0y m.Accepts = true := by simp [nomB]
def q3q (n : Int) : Option Int -> List Nomination -> Bool
 | _, [] => true
 | none, m :: r => nomB m && (!decide (m.Node = n) && q3q n (some m.Node) r)
 | some q, m :: r => nomB m && (!decide (m.Node = n) && (decide (q < m.Node) && q3q n (some m.Node) r))
theorem q2r {n : Int} : ∀ {l : List Nomination} {q : Option Int}, q3q n q l = true ↔ (∀ m ∈ l, nomB m = true /\ m.Node ≠ n) /\ (∀ k, q = some k -> ∀ m ∈ l, k < m.Node) /\ l.Pairwise (fun a b => a.Node < b.Node)
 | [], q => by cases q <;> simp [q3q]
 | m :: r, q => by
  have ih := q2r (n := n) (l := r) (q := some m.Node);have h1 : q3q n q (m :: r) = true ↔ nomB m = true /\ m.Node ≠ n /\ (∀ k, q = some k -> k < m.Node) /\ q3q n (some m.Node) r = true := by
   cases q <;> simp [q3q]
  rw [h1, ih, List.pairwise_cons];constructor
  .rintro ⟨g1, g2, g3, g4, g5, g6⟩;refine ⟨fun x hx => ?_, fun k hk x hx => ?_, g5 _ rfl, g6⟩
   .rcases List.mem_cons.1 hx with e | hx
    .subst e; exact ⟨g1, g2⟩
    .exact g4 x hx
   .rcases List.mem_cons.1 hx with e | hx
    .subst e; exact g3 k hk
    .exact Int.lt_trans (g3 k hk) (g5 _ rfl x hx)
  .rintro ⟨g1, g2, g3, g4⟩;exact ⟨(g1 m (by simp)).1, (g1 m (by simp)).2, fun k hk => g2 k hk m (by simp), fun x hx => g1 x (by simp [hx]), fun k hk x hx => by cases hk; exact g3 x hx, g4⟩
theorem quq {n : Int} {l : List Nomination} (h : q3q n none l = true) : l.length <= 10 := by
 obtain ⟨h1, _, h3⟩ := q2r.1 h;have := qzj (m := 10) (l := l.map (·.Node)) (by decide) (fun k hk => by
  obtain ⟨m, hm, rfl⟩ := List.mem_map.1 hk;have := (q1z.1 (h1 m hm).1).1;simpa [inR] using this) (List.pairwise_map.2 h3)
 simp at this; omega
def numsN (n : Nominator) : Bool := inR n.Node && (decide (0 <= n.Slot) && (decide (n.Slot <= 1000000) && (decide (1 <= n.Round) && (decide (n.Round <= 1000) && (decide (1 <= n.Seq) && decide (n.Seq <= 1000000))))))
def qkl (n : Nominator) : Bool := numsN n && (valid n.Trust && (decide (n.Own.length <= 200) && (q0y n.Votes && (q0y n.Accepts && (q0y n.Candidates && (n.Candidates.all (fun x => decide (x ∈ n.Accepts)) && q3q n.Node none n.Heard))))))
structure ReadyN (n : Nominator) : Prop where
 node : inR n.Node = true
 slot : 0 <= n.Slot /\ n.Slot <= 1000000
 round : 1 <= n.Round /\ n.Round <= 1000
 seq : 1 <= n.Seq /\ n.Seq <= 1000000
 tr : valid n.Trust = true
 own : n.Own.length <= 200
 votes : q0y n.Votes = true
 accs : q0y n.Accepts = true
 cands : q0y n.Candidates = true
 sub : ∀ x ∈ n.Candidates, x ∈ n.Accepts
 heard : q3q n.Node none n.Heard = true
theorem qel {n : Nominator} : qkl n = true ↔ ReadyN n := by
 simp only [qkl, numsN, aT, dT', List.all_eq_true];constructor
 .rintro ⟨⟨h1, h2, h3, h4, h5, h6, h7⟩, h8, h9, h10, h11, h12, h13, h14⟩;exact ⟨h1, ⟨h2, h3⟩, ⟨h4, h5⟩, ⟨h6, h7⟩, h8, h9, h10, h11, h12, h13, h14⟩
 .rintro ⟨h1, ⟨h2, h3⟩, ⟨h4, h5⟩, ⟨h6, h7⟩, h8, h9, h10, h11, h12, h13, h14⟩;exact ⟨⟨h1, h2, h3, h4, h5, h6, h7⟩, h8, h9, h10, h11, h12, h13, h14⟩
def allN (n : Nominator) : List Nomination := n.Heard ++ [sayN n]
section
variable {n : Nominator} (h : ReadyN n)
include h
theorem ReadyN.msg : ∀ m ∈ n.Heard, nomB m = true /\ m.Node ≠ n.Node := (q2r.1 h.heard).1
theorem ReadyN.asc : n.Heard.Pairwise (fun a b => a.Node < b.Node) := (q2r.1 h.heard).2.2
theorem ReadyN.say : nomB (sayN n) = true := q1z.2 ⟨h.node, h.seq.1, h.tr, h.votes, h.accs⟩
theorem ReadyN.all : ∀ m ∈ allN n, nomB m = true := fun m hm => by
 rcases List.mem_append.1 hm with hm | hm
 .exact (h.msg m hm).1
 .simp at hm; subst hm; exact h.say
theorem ReadyN.hlen : n.Heard.length <= 10 := quq h.heard
theorem ReadyN.len : (allN n).length <= 11 := by have := h.hlen; simp [allN]; omega
theorem ReadyN.alen : n.Accepts.length <= 40 := (q0i.1 h.accs).2.2
theorem ReadyN.vlen : n.Votes.length <= 40 := (q0i.1 h.votes).2.2
theorem ReadyN.clen : n.Candidates.length <= 40 := (q0i.1 h.cands).2.2
theorem ReadyN.node' : n.Node.toNat < 10 /\ ((n.Node.toNat : Nat) : Int) = n.Node := by have := q3y h.node; omega
theorem ReadyN.avv : ∀ z ∈ n.Accepts, vvl z = true := (q0i.1 h.accs).1
end
structure SmallN (m : Nomination) : Prop where
 tr : Small m.Trust
 votes : m.Votes.length < 1000000
 accs : m.Accepts.length < 1000000
structure SmallR (n : Nominator) : Prop where
 tr : Small n.Trust
 own : n.Own.length < 1000000
 votes : n.Votes.length < 1000000
 accs : n.Accepts.length < 1000000
 cands : n.Candidates.length < 1000000
 heard : n.Heard.length < 1000000
 msgs : ∀ m ∈ n.Heard, SmallN m
theorem q5i {m : Nomination} (h : nomB m = true) : SmallN m := by
 obtain ⟨_, _, h1, h2, h3⟩ := q1z.1 h;have := (q0i.1 h2).2.2;have := (q0i.1 h3).2.2;exact ⟨q25 h1, by omega, by omega⟩
theorem ReadyN.small {n : Nominator} (h : ReadyN n) : SmallR n := ⟨q25 h.tr, by have := h.own; omega, by have := h.vlen; omega, by have := h.alen; omega, by have := h.clen; omega, by have := h.hlen; omega, fun m hm => q5i (h.msg m hm).1⟩
def q3u (l : List Nomination) : List Val := l.flatMap fun m => m.Votes ++ m.Accepts
def qba (n : Nominator) : List Val := setV (q3u (allN n))
theorem q7l {x : Val} {l : List Nomination} : x ∈ q3u l ↔ ∃ m ∈ l, x ∈ m.Votes \/ x ∈ m.Accepts := by simp [q3u]
theorem qgl {m : Nomination} (h : nomB m = true) : ∀ x ∈ m.Votes ++ m.Accepts, vvl x = true := fun x hx => by
 obtain ⟨_, _, _, h1, h2⟩ := q1z.1 h;rcases List.mem_append.1 hx with hx | hx
 .exact (q0i.1 h1).1 x hx
 .exact (q0i.1 h2).1 x hx
theorem qpz {n : Nominator} (h : ReadyN n) {x : Val} (hx : x ∈ qba n) : vvl x = true := by
 obtain ⟨m, hm, hx⟩ := q7l.1 (q2a.1 hx);exact qgl (h.all m hm) x (List.mem_append.2 hx)
def q7d (V l : List Val) : List Val := l.foldl putV V
def leadV (n : Nominator) (V : List Val) (u : Int) : List Val :=
 if u = n.Node then (if n.Own = [] then V else putV V n.Own)
 else n.Heard.foldl (fun V m => if m.Node = u then q7d V (setV (m.Votes ++ m.Accepts)) else V) V
def qd7 (L : List Int) (n : Nominator) : List Val := L.foldl (leadV n) n.Votes
theorem q68 : ∀ {l V : List Val}, q0y V = true -> (∀ x ∈ l, vvl x = true) -> q0y (q7d V l) = true
 | [], V, h, _ => h
 | x :: l, V, h, hl => by
  have h1 := q4d h (hl x (by simp));exact q68 (l := l) (V := putV V x) h1 fun y hy => hl y (by simp [hy])
theorem qep : ∀ {l V : List Val} {x : Val}, x ∈ V -> x ∈ q7d V l
 | [], _V, _x, h => h
 | _y :: l, _V, _x, h => qep (l := l) (qac h)
theorem qer : ∀ {l V : List Val} {x : Val}, x ∈ q7d V l -> x ∈ V \/ x ∈ l
 | [], V, x, h => .inl h
 | y :: l, V, x, h => by
  rcases qer (l := l) h with h | h
  .rcases q67 h with h | h
   .exact .inl h
   .exact .inr (by simp [h])
  .exact .inr (by simp [h])
theorem qfs {u : Int} : ∀ {l : List Nomination} {V : List Val}, q0y V = true -> (∀ m ∈ l, nomB m = true) -> q0y (l.foldl (fun V m => if m.Node = u then q7d V (setV (m.Votes ++ m.Accepts)) else V) V) = true
 | [], V, h, _ => h
 | m :: l, V, h, hm => by
  rw [List.foldl_cons];refine qfs ?_ fun k hk => hm k (by simp [hk])
  split
  .exact q68 h fun x hx => qgl (hm m (by simp)) x (q2a.1 hx)
  .exact h
theorem qek {u : Int} : ∀ {l : List Nomination} {V : List Val} {x : Val}, x ∈ V -> x ∈ l.foldl (fun V m => if m.Node = u then q7d V (setV (m.Votes ++ m.Accepts)) else V) V
 | [], V, x, h => h
 | m :: l, V, x, h => by
  rw [List.foldl_cons];refine qek ?_;split
  .exact qep h
  .exact h
theorem qeh {u : Int} : ∀ {l : List Nomination} {V : List Val} {x : Val}, x ∈ l.foldl (fun V m => if m.Node = u then q7d V (setV (m.Votes ++ m.Accepts)) else V) V -> x ∈ V \/ ∃ m ∈ l, m.Node = u /\ (x ∈ m.Votes \/ x ∈ m.Accepts)
 | [], V, x, h => .inl h
 | m :: l, V, x, h => by
  rw [List.foldl_cons] at h;rcases qeh h with h | ⟨k, h1, h2⟩
  .split at h
   .rename_i hu;rcases qer h with h | h
    .exact .inl h
    .exact .inr ⟨m, by simp, hu, List.mem_append.1 (q2a.1 h)⟩
   .exact .inl h
  .exact .inr ⟨k, by simp [h1], h2⟩
section
variable {n : Nominator} (h : ReadyN n)
include h
theorem qib {V : List Val} {u : Int} (hV : q0y V = true) : q0y (leadV n V u) = true := by
 unfold leadV;split
 .split
  .exact hV
  .rename_i ho;have := h.own;have : n.Own.length ≠ 0 := fun e => ho (List.length_eq_zero_iff.1 e)
   exact q4d hV (qmn.2 ⟨by omega, by omega⟩)
 .exact qfs hV fun m hm => (h.msg m hm).1
theorem qj4 : ∀ {L : List Int} {V : List Val}, q0y V = true -> q0y (L.foldl (leadV n) V) = true
 | [], _V, hV => hV
 | _u :: L, _V, hV => qj4 (L := L) (qib h hV)
theorem qoc (L : List Int) : q0y (qd7 L n) = true := qj4 h h.votes
theorem ReadyN.withV {V : List Val} (hV : q0y V = true) : ReadyN { n with Votes := V } := ⟨h.node, h.slot, h.round, h.seq, h.tr, h.own, hV, h.accs, h.cands, h.sub, h.heard⟩
end
theorem qyy {n : Nominator} {V : List Val} {u : Int} {x : Val} (hx : x ∈ V) : x ∈ leadV n V u := by
 unfold leadV;split
 .split
  .exact hx
  .exact qac hx
 .exact qek hx
theorem qnp {n : Nominator} {x : Val} : ∀ {L : List Int} {V : List Val}, x ∈ V -> x ∈ L.foldl (leadV n) V
 | [], _V, hV => hV
 | _u :: L, _V, hV => qnp (L := L) (qyy hV)
theorem quh {n : Nominator} {x : Val} (L : List Int) (hx : x ∈ n.Votes) : x ∈ qd7 L n := qnp hx
def msgOf (m : Nomination) : Message := ⟨m.Node, m.Seq, m.Trust, [], []⟩
def viewN (n : Nominator) : Config := viewC n.Node n.Trust (n.Heard.map msgOf)
theorem y2e {m : Nomination} (h : nomB m = true) : msgB (msgOf m) = true := by
 obtain ⟨h1, h2, h3, _⟩ := q1z.1 h;exact qlk.2 ⟨h1, h2, h3, rfl, rfl⟩
theorem ReadyN.msgs {n : Nominator} (h : ReadyN n) : ∀ m ∈ n.Heard.map msgOf, msgB m = true /\ m.Node ≠ n.Node := fun m hm => by
 obtain ⟨k, hk, rfl⟩ := List.mem_map.1 hm;exact ⟨y2e (h.msg k hk).1, (h.msg k hk).2⟩
theorem ReadyN.view {n : Nominator} (h : ReadyN n) : q8o (viewN n) := qrv h.tr fun m hm => (h.msgs m hm).1
def whoN (p : Nomination -> Bool) (s : Nat) (l : List Nomination) : Nat := l.foldl (fun s m => if p m then s ||| bit m.Node else s) s
def q6l (l : List Nomination) (x : Val) : Nat := whoN (fun m => decide (x ∈ m.Votes)) 0 l
def accsN (l : List Nomination) (x : Val) : Nat := whoN (fun m => decide (x ∈ m.Accepts)) 0 l
theorem qd2 (p : Nomination -> Bool) (s : Nat) (m : Nomination) (l : List Nomination) : whoN p s (m :: l) = whoN p (if p m then s ||| bit m.Node else s) l := rfl
theorem qqa (p : Nomination -> Bool) : ∀ (l : List Nomination) (s : Nat), s < 1024 -> (∀ m ∈ l, inR m.Node = true) -> whoN p s l < 1024
 | [], s, h, _ => h
 | m :: l, s, h, hm => by
  rw [qd2];refine qqa p l _ ?_ fun m hm' => hm m (by simp [hm'])
  split
  .exact or_lt h (qfp (hm m (by simp)))
  .exact h
theorem qp7 {l : List Nomination} (hm : ∀ m ∈ l, nomB m = true) (x : Val) : q6l l x < 1024 := qqa _ l 0 (by decide) fun m h => (q1z.1 (hm m h)).1
theorem qa9 {l : List Nomination} (hm : ∀ m ∈ l, nomB m = true) (x : Val) : accsN l x < 1024 := qqa _ l 0 (by decide) fun m h => (q1z.1 (hm m h)).1
def canN (n : Nominator) (x : Val) : Bool := !decide (x ∈ n.Accepts) && (decide (n.Accepts.length < 40) && accB (viewN n) n.Node.toNat (q6l (allN n) x) (accsN (allN n) x))
def nextN (n : Nominator) : Option Val := (qba n).find? (canN n)
theorem qad {n : Nominator} {x : Val} (h : nextN n = some x) : x ∈ qba n /\ x ∉ n.Accepts /\ n.Accepts.length < 40 /\ accB (viewN n) n.Node.toNat (q6l (allN n) x) (accsN (allN n) x) = true := by
 have h1 := List.mem_of_find?_eq_some h;have h2 := List.find?_some h;simp only [canN, aT, Bool.not_eq_true', dT', decide_eq_false_iff_not] at h2;exact ⟨h1, h2⟩
theorem qkk {n : Nominator} (h : nextN n = none) : ∀ x ∈ qba n, canN n x = false := fun x hx => by
 have := List.find?_eq_none.1 h x hx;simpa using this
def qcj (n : Nominator) (x : Val) : Nominator := { n with Accepts := putV n.Accepts x }
def q2s : Nat -> Nominator -> Nominator
 | 0, n => n
 | k + 1, n => match nextN n with
  | none => n
  | some x => q2s k (qcj n x)
theorem ReadyN.withA {n : Nominator} (h : ReadyN n) {x : Val} (hx : vvl x = true) : ReadyN (qcj n x) := ⟨h.node, h.slot, h.round, h.seq, h.tr, h.own, h.votes, q4d h.accs hx, h.cands, fun y hy => qac (h.sub y hy), h.heard⟩
theorem q9r : ∀ (k : Nat) (n : Nominator), ReadyN n -> 40 - n.Accepts.length < k -> ReadyN (q2s k n) /\ nextN (q2s k n) = none
 | 0, n, h, hn => by omega
 | k + 1, n, h, hn => by
  rw [q2s];cases hx : nextN n with
  | none => exact ⟨h, hx⟩
  | some x =>
   obtain ⟨h1, h2, h3, _⟩ := qad hx;have hv := qpz h h1;have hl := qt3 h3 h2;exact q9r k (qcj n x) (h.withA hv) (by show 40 - (putV n.Accepts x).length < k; omega)
theorem q9n : ∀ (k : Nat) (n : Nominator), ∃ A, q2s k n = { n with Accepts := A } /\ ∀ x ∈ n.Accepts, x ∈ A
 | 0, n => ⟨n.Accepts, rfl, fun _ h => h⟩
 | k + 1, n => by
  rw [q2s];cases nextN n with
  | none => exact ⟨n.Accepts, rfl, fun _ h => h⟩
  | some x =>
   obtain ⟨A, h1, h2⟩ := q9n k (qcj n x);exact ⟨A, h1, fun y hy => h2 y (qac hy)⟩
def candN (n : Nominator) (C : List Val) (l : List Val) : List Val := l.foldl (fun C x => if confB (viewN n) n.Node.toNat (accsN (allN n) x) then putV C x else C) C
def qhh (n : Nominator) : Nominator := { n with Candidates := candN n n.Candidates n.Accepts }
def q0n (L : List Int) (n : Nominator) : Nominator := if n.Candidates = [] then { n with Votes := qd7 L n } else n
def q0m (L : List Int) (n : Nominator) : Nominator := qhh (q2s 60 (q0n L n))
theorem qj3 (n : Nominator) : ∀ (l C : List Val), q0y C = true -> (∀ x ∈ l, vvl x = true) -> q0y (candN n C l) = true
 | [], C, h, _ => h
 | x :: l, C, h, hl => by
  show q0y (candN n (if _ then _ else _) l) = true;refine qj3 n l _ ?_ fun y hy => hl y (by simp [hy])
  split
  .exact q4d h (hl x (by simp))
  .exact h
theorem q8g (n : Nominator) {y : Val} : ∀ (l C : List Val), y ∈ C -> y ∈ candN n C l
 | [], C, h => h
 | x :: l, C, h => by
  show y ∈ candN n (if _ then _ else _) l;refine q8g n l _ ?_;split
  .exact qac h
  .exact h
theorem q9p (n : Nominator) {y : Val} : ∀ (l C : List Val), y ∈ candN n C l -> y ∈ C \/ y ∈ l /\ confB (viewN n) n.Node.toNat (accsN (allN n) y) = true
 | [], C, h => .inl h
 | x :: l, C, h => by
  have h' : y ∈ candN n (if confB (viewN n) n.Node.toNat (accsN (allN n) x) then putV C x else C) l := h;rcases q9p n l _ h' with g | g
  .split at g
   .rename_i hc;rcases q67 g with g | g
    .exact .inl g
    .exact .inr ⟨by simp [g], by rw [g]; exact hc⟩
   .exact .inl g
  .exact .inr ⟨by simp [g.1], g.2⟩
theorem q58 : ∀ {A B : List Val}, A.Nodup -> (∀ x ∈ A, x ∈ B) -> A.length <= B.length
 | [], B, _, _ => by simp
 | x :: A, B, hA, h => by
  obtain ⟨h1, h2⟩ := List.nodup_cons.1 hA;have hx := h x (by simp);have ih := q58 (B := B.erase x) h2 fun y hy => (List.mem_erase_of_ne (fun e => h1 (by rw [<- e]; exact hy))).2 (h y (by simp [hy]))
  rw [List.length_erase_of_mem hx] at ih;have := List.length_pos_of_mem hx;simp; omega
theorem q8e {A B : List Val} (hA : Asc A) (h : ∀ x ∈ A, x ∈ B) : A.length <= B.length := q58 (qef hA) h
theorem qpp (n : Nominator) {A : List Val} (hA : A.length <= 40) (hsA : ∀ x ∈ A, vvl x = true) {y : Val} : ∀ (l C : List Val), q0y C = true -> (∀ x ∈ C, x ∈ A) -> (∀ x ∈ l, x ∈ A) -> y ∈ l -> confB (viewN n) n.Node.toNat (accsN (allN n) y) = true -> y ∈ candN n C l
 | [], C, _, _, _, h, _ => by simp at h
 | x :: l, C, hC, hCA, hl, hy, hc => by
  show y ∈ candN n (if _ then _ else _) l;have hxA := hl x (by simp);by_cases e : y = x
  .subst e;refine q8g n l _ ?_;rw [if_pos hc];by_cases g : y ∈ C
   .exact qac g
   .refine qth ?_;have h1 : Asc (insV C y) := qgg (q0i.1 hC).2.1 g;have h2 := q8e h1 (B := A) fun z hz => by
     rcases q8i.1 hz with hz | hz
     .rw [hz]; exact hxA
     .exact hCA z hz
    rw [qgr] at h2;omega
  .refine qpp n hA hsA l _ ?_ ?_ (fun z hz => hl z (by simp [hz])) (by simpa [e] using hy) hc
   .split
    .exact q4d hC (hsA x hxA)
    .exact hC
   .split
    .intro z hz;rcases q67 hz with hz | hz
     .exact hCA z hz
     .rw [hz]; exact hxA
    .exact hCA
theorem ReadyN.finish {n : Nominator} (h : ReadyN n) : ReadyN (qhh n) :=
 ⟨h.node, h.slot, h.round, h.seq, h.tr, h.own, h.votes, h.accs, qj3 n _ _ h.cands h.avv, fun x hx => by
  rcases q9p n _ _ hx with hx | hx
  .exact h.sub x hx
  .exact hx.1, h.heard⟩
theorem ReadyN.listen {n : Nominator} (h : ReadyN n) (L : List Int) : ReadyN (q0n L n) := by
 unfold q0n;split
 .exact h.withV (qoc h L)
 .exact h
theorem ReadyN.settle {n : Nominator} (h : ReadyN n) (L : List Int) : ReadyN (q0m L n) := ((q9r 60 _ (h.listen L) (by omega)).1).finish
noncomputable def turnN (b w : Nominator) : Nominator := if b.Trust = w.Trust /\ b.Votes = w.Votes /\ b.Accepts = w.Accepts then w else { w with Seq := w.Seq + 1 }
def q19 (m : Nomination) : List Nomination -> List Nomination
 | [] => [m]
 | x :: r => if x.Node < m.Node then x :: q19 m r else if x.Node = m.Node then m :: r else m :: x :: r
def oldN (l : List Nomination) (m : Nomination) : Bool := l.any fun x => decide (x.Node = m.Node) && decide (m.Seq <= x.Seq)
theorem q7p {m x : Nomination} : ∀ {l : List Nomination}, x ∈ q19 m l -> x = m \/ x ∈ l
 | [], h => by simp [q19] at h; exact .inl h
 | y :: r, h => by
  rw [q19] at h;split at h
  .rcases List.mem_cons.1 h with h | h
   .exact .inr (by simp [h])
   .rcases q7p h with h | h
    .exact .inl h
    .exact .inr (by simp [h])
  .split at h
   .rcases List.mem_cons.1 h with h | h
    .exact .inl h
    .exact .inr (by simp [h])
   .rcases List.mem_cons.1 h with h | h
    .exact .inl h
    .exact .inr h
theorem qg2 {n : Int} {m : Nomination} (hm : nomB m = true) (hn : m.Node ≠ n) : ∀ {l : List Nomination} {q : Option Int}, q3q n q l = true -> (∀ k, q = some k -> k < m.Node) -> q3q n q (q19 m l) = true
 | [], q, _, hq => by
  cases q with
  | none => simp [q19, q3q, hm, hn]
  | some k => simp [q19, q3q, hm, hn, hq k rfl]
 | y :: r, q, h, hq => by
  have hi := q2r.1 h;rw [q19];split
  .rename_i hlt;have hr : q3q n (some y.Node) r = true := by
    rw [List.pairwise_cons] at hi;exact q2r.2 ⟨fun x hx => hi.1 x (by simp [hx]), fun k hk x hx => by cases hk; exact hi.2.2.1 x hx, hi.2.2.2⟩
   have ih := qg2 hm hn hr (fun k hk => by cases hk; exact hlt);have hj := q2r.1 ih;refine q2r.2 ⟨fun x hx => ?_, fun k hk x hx => ?_, List.pairwise_cons.2 ⟨fun x hx => hj.2.1 _ rfl x hx, hj.2.2⟩⟩
   .rcases List.mem_cons.1 hx with e | hx
    .subst e; exact hi.1 x (by simp)
    .exact hj.1 x hx
   .have hy := hi.2.1 k hk y (by simp);rcases List.mem_cons.1 hx with e | hx
    .subst e; exact hy
    .exact Int.lt_trans hy (hj.2.1 _ rfl x hx)
  .rename_i hge;rw [List.pairwise_cons] at hi;split
   .rename_i heq;refine q2r.2 ⟨fun x hx => ?_, fun k hk x hx => ?_, List.pairwise_cons.2 ⟨fun x hx => by rw [<- heq]; exact hi.2.2.1 x hx, hi.2.2.2⟩⟩
    .rcases List.mem_cons.1 hx with e | hx
     .subst e; exact ⟨hm, hn⟩
     .exact hi.1 x (by simp [hx])
    .rcases List.mem_cons.1 hx with e | hx
     .subst e; exact hq k hk
     .exact hi.2.1 k hk x (by simp [hx])
   .rename_i hne;have hlt : m.Node < y.Node := by omega
    refine q2r.2 ⟨fun x hx => ?_, fun k hk x hx => ?_, List.pairwise_cons.2 ⟨fun x hx => ?_, List.pairwise_cons.2 hi.2.2⟩⟩
    .rcases List.mem_cons.1 hx with e | hx
     .subst e; exact ⟨hm, hn⟩
     .exact hi.1 x hx
    .rcases List.mem_cons.1 hx with e | hx
     .subst e; exact hq k hk
     .exact hi.2.1 k hk x hx
    .rcases List.mem_cons.1 hx with e | hx
     .subst e; exact hlt
     .exact Int.lt_trans hlt (hi.2.2.1 x hx)
def posN (k : Int) : List Nomination -> Nat
 | [] => 0
 | x :: r => if x.Node < k then posN k r + 1 else 0
theorem qs4 (k : Int) : ∀ l : List Nomination, posN k l <= l.length
 | [] => Nat.le_refl _
 | x :: r => by
  rw [posN]; split
  .simp; exact qs4 k r
  .simp
theorem qeu {k : Int} : ∀ {l : List Nomination}, l.Pairwise (fun a b => a.Node < b.Node) -> ∀ (i : Nat) (x : Nomination), l[i]? = some x -> (x.Node < k ↔ i < posN k l)
 | [], _, i, x, h => by simp at h
 | y :: r, hp, i, x, h => by
  rw [List.pairwise_cons] at hp;rw [posN];cases i with
  | zero =>
   simp at h; subst h;split <;> simp_all
  | succ i =>
   have h' : r[i]? = some x := by simpa using h
   have hyx := hp.1 x (List.mem_of_getElem? h');split
   .rw [qeu hp.2 i x h']; omega
   .constructor
    .intro g; omega
    .intro g; omega
def q72 (k : Int) (l : List Nomination) : Bool := match l[posN k l]? with | some x => decide (x.Node = k) | none => false
theorem qil {m : Nomination} : ∀ {l : List Nomination}, q19 m l = if q72 m.Node l = true then l.set (posN m.Node l) m else l.take (posN m.Node l) ++ m :: l.drop (posN m.Node l)
 | [] => by simp [q19, q72, posN]
 | x :: r => by
  rw [q19];by_cases h1 : x.Node < m.Node
  .have hp : posN m.Node (x :: r) = posN m.Node r + 1 := by rw [posN, if_pos h1]
   have hf : q72 m.Node (x :: r) = q72 m.Node r := by simp [q72, hp]
   rw [if_pos h1, qil (l := r), hp, hf];split <;> simp
  .have hp : posN m.Node (x :: r) = 0 := by rw [posN, if_neg h1]
   have hf : q72 m.Node (x :: r) = decide (x.Node = m.Node) := by simp [q72, hp]
   rw [if_neg h1, hp, hf];by_cases h2 : x.Node = m.Node <;> simp [h2]
theorem qkf {m : Nomination} {l : List Nomination} (hp : l.Pairwise (fun a b => a.Node < b.Node)) : oldN l m = match l[posN m.Node l]? with | some x => decide (x.Node = m.Node) && decide (m.Seq <= x.Seq) | none => false := by
 cases hx : l[posN m.Node l]? with
 | none =>
  rw [oldN, List.any_eq_false];intro x hx';obtain ⟨i, hi, rfl⟩ := List.mem_iff_getElem.1 hx';have h1 := (qeu (k := m.Node) hp i l[i] (by simp [hi]));have h2 := List.getElem?_eq_none_iff.1 hx;have : l[i].Node < m.Node := h1.2 (by omega);simp; omega
 | some y =>
  show oldN l m = (decide (y.Node = m.Node) && decide (m.Seq <= y.Seq));rw [oldN, Bool.eq_iff_iff, List.any_eq_true];constructor
  .rintro ⟨x, hx', h⟩;simp only [aT, dT'] at h;obtain ⟨i, hi, rfl⟩ := List.mem_iff_getElem.1 hx';have h1 := (qeu (k := m.Node) hp i l[i] (by simp [hi]));have h3 := (qeu (k := m.Node) hp _ y hx);have hge : posN m.Node l <= i := by
    have : ¬ l[i].Node < m.Node := by omega
    rw [h1] at this; omega
   have hpl := (List.getElem?_eq_some_iff.1 hx).1;have : i = posN m.Node l := by
    by_cases e : i = posN m.Node l
    .exact e
    .have hlt : posN m.Node l < i := by omega
     have := List.pairwise_iff_getElem.1 hp _ _ hpl hi hlt;have h4 : l[posN m.Node l] = y := (List.getElem?_eq_some_iff.1 hx).2;rw [h4] at this;have : ¬ y.Node < m.Node := by rw [h3]; omega
     omega
   subst this;have h4 : l[posN m.Node l] = y := (List.getElem?_eq_some_iff.1 hx).2;rw [h4] at h;simp [h]
  .intro h;exact ⟨y, List.mem_of_getElem? hx, h⟩
theorem q4g {m : Nomination} : ∀ {l : List Nomination}, m ∈ q19 m l
 | [] => by simp [q19]
 | x :: r => by
  rw [q19]; split
  .exact List.mem_cons_of_mem _ q4g
  .split <;> simp
theorem qbx {m x : Nomination} (hx : x.Node ≠ m.Node) : ∀ {l : List Nomination}, x ∈ l -> x ∈ q19 m l
 | [], h => by simp at h
 | y :: r, h => by
  rw [q19];rcases List.mem_cons.1 h with e | h
  .subst e;split
   .simp
   .simp
  .split
   .exact List.mem_cons_of_mem _ (qbx hx h)
   .split
    .exact List.mem_cons_of_mem _ h
    .simp [h]
theorem ReadyN.withH {n : Nominator} (h : ReadyN n) {m : Nomination} (hm : nomB m = true) (hn : m.Node ≠ n.Node) : ReadyN { n with Heard := q19 m n.Heard } :=
 ⟨h.node, h.slot, h.round, h.seq, h.tr, h.own, h.votes, h.accs, h.cands, h.sub, qg2 hm hn h.heard (fun k hk => by cases hk)⟩
theorem ReadyN.withS {n : Nominator} (h : ReadyN n) {s : Int} (h1 : 1 <= s) (h2 : s <= 1000000) : ReadyN { n with Seq := s } := ⟨h.node, h.slot, h.round, ⟨h1, h2⟩, h.tr, h.own, h.votes, h.accs, h.cands, h.sub, h.heard⟩
theorem qvz (n : Nominator) (x : Val) : q6l (allN n) x = if x ∈ n.Votes then q6l n.Heard x ||| bit n.Node else q6l n.Heard x := by
 simp [q6l, whoN, allN, List.foldl_append, sayN]
theorem qq8 (n : Nominator) (x : Val) : accsN (allN n) x = if x ∈ n.Accepts then accsN n.Heard x ||| bit n.Node else accsN n.Heard x := by
 simp [accsN, whoN, allN, List.foldl_append, sayN]
theorem quv (n : Nominator) : q3u (allN n) = q3u n.Heard ++ (n.Votes ++ n.Accepts) := by simp [q3u, allN, sayN]
theorem qwc {n w : Nominator} (h1 : n.Node = w.Node) (h2 : n.Trust = w.Trust) (h3 : n.Votes = w.Votes) (h4 : n.Accepts = w.Accepts) (h5 : n.Heard = w.Heard) (x : Val) : canN n x = canN w x := by
 simp only [canN, viewN, qvz, qq8, h1, h2, h3, h4, h5]
theorem ql1 {n w : Nominator} (h1 : n.Node = w.Node) (h2 : n.Trust = w.Trust) (h3 : n.Votes = w.Votes) (h4 : n.Accepts = w.Accepts) (h5 : n.Heard = w.Heard) : nextN n = nextN w := by
 simp only [nextN, qba, quv, h3, h4, h5];congr 1
 funext x; exact qwc h1 h2 h3 h4 h5 x
def confN (n : Nominator) (x : Val) : Bool := confB (viewN n) n.Node.toNat (accsN (allN n) x)
theorem qah {n w : Nominator} (h1 : n.Node = w.Node) (h2 : n.Trust = w.Trust) (h4 : n.Accepts = w.Accepts) (h5 : n.Heard = w.Heard) (x : Val) : confN n x = confN w x := by
 simp only [confN, viewN, qq8, h1, h2, h4, h5]
structure SetN (n : Nominator) : Prop where
 next : nextN n = none
 conf : ∀ x ∈ n.Accepts, confN n x = true -> x ∈ n.Candidates
theorem q5f (L : List Int) (n : Nominator) : ∃ A C, q0m L n = { n with Votes := (q0n L n).Votes, Accepts := A, Candidates := C } /\ (∀ x ∈ n.Votes, x ∈ (q0n L n).Votes) /\ (∀ x ∈ n.Accepts, x ∈ A) /\ (∀ x ∈ n.Candidates, x ∈ C) := by
 obtain ⟨A, h1, h2⟩ := q9n 60 (q0n L n);have h3 : q0n L n = { n with Votes := (q0n L n).Votes } := by unfold q0n; split <;> rfl
 refine ⟨A, candN (q2s 60 (q0n L n)) (q2s 60 (q0n L n)).Candidates (q2s 60 (q0n L n)).Accepts, ?_, fun x hx => ?_, fun x hx => h2 x (by rw [h3]; exact hx), fun x hx => q8g _ _ _ ?_⟩
 .show qhh (q2s 60 (q0n L n)) = _;unfold qhh;rw [h1, h3]
 .unfold q0n; split
  .exact quh L hx
  .exact hx
 .rw [h1, h3]; exact hx
theorem q9x {n : Nominator} (h : ReadyN n) (L : List Int) : SetN (q0m L n) := by
 obtain ⟨h1, h2⟩ := q9r 60 _ (h.listen L) (by omega);refine ⟨?_, fun x hx hc => ?_⟩
 .rw [<- h2]; exact ql1 rfl rfl rfl rfl rfl
 .have hc' : confN (q2s 60 (q0n L n)) x = true := by rw [<- hc]; exact qah rfl rfl rfl rfl x
  exact qpp _ h1.alen h1.avv _ _ h1.cands h1.sub (fun _ g => g) hx hc'
theorem qlw {n : Nominator} (L : List Int) {x : Val} (hx : x ∈ (q0m L n).Candidates) : x ∈ n.Candidates \/ x ∈ (q0m L n).Accepts /\ confN (q0m L n) x = true := by
 obtain ⟨A, h1, h2⟩ := q9n 60 (q0n L n);have h3 : (q0n L n).Candidates = n.Candidates := by unfold q0n; split <;> rfl
 rcases q9p _ _ _ hx with g | g
 .left; rw [h1] at g; rw [<- h3]; exact g
 .right; refine ⟨g.1, ?_⟩;rw [<- g.2]; exact qah rfl rfl rfl rfl x
theorem SetN.cong {n w : Nominator} (h : SetN n) (h1 : n.Node = w.Node) (h2 : n.Trust = w.Trust) (h3 : n.Votes = w.Votes) (h4 : n.Accepts = w.Accepts) (h5 : n.Heard = w.Heard) (h6 : n.Candidates = w.Candidates) : SetN w :=
 ⟨by rw [<- ql1 h1 h2 h3 h4 h5]; exact h.next, fun x hx hc => by rw [<- h6]; exact h.conf x (by rw [h4]; exact hx) (by rw [<- hc]; exact qah h1 h2 h4 h5 x)⟩
def qfx : Nominator := ⟨0, 0, 0, 0, ⟨0, [], []⟩, [], [], [], [], []⟩
theorem q4e (b w : Nominator) : ∃ s : Int, (s = w.Seq \/ s = w.Seq + 1) /\ turnN b w = { w with Seq := s } /\ (s = w.Seq ↔ b.Trust = w.Trust /\ b.Votes = w.Votes /\ b.Accepts = w.Accepts) := by
 unfold turnN;split
 .rename_i h;exact ⟨w.Seq, .inl rfl, rfl, fun _ => h, fun _ => rfl⟩
 .rename_i h;exact ⟨w.Seq + 1, .inr rfl, rfl, fun e => by omega, fun e => absurd e h⟩
structure StepN (n w : Nominator) : Prop where
 node : w.Node = n.Node
 slot : w.Slot = n.Slot
 seq : w.Seq = n.Seq \/ w.Seq = n.Seq + 1
 votes : ∀ x ∈ n.Votes, x ∈ w.Votes
 accs : ∀ x ∈ n.Accepts, x ∈ w.Accepts
 cands : ∀ x ∈ n.Candidates, x ∈ w.Candidates
 ready : w.Seq <= 1000000 -> ReadyN w
 chg : w.Seq = n.Seq ↔ n.Trust = w.Trust /\ n.Votes = w.Votes /\ n.Accepts = w.Accepts
theorem qkr {n u : Nominator} (hu : ReadyN u) (L : List Int) (h1 : u.Node = n.Node) (h2 : u.Slot = n.Slot) (h3 : u.Seq = n.Seq) (h4 : u.Votes = n.Votes) (h5 : u.Accepts = n.Accepts) (h6 : u.Candidates = n.Candidates) : StepN n (turnN n (q0m L u)) /\ SetN (turnN n (q0m L u)) := by
 obtain ⟨s, g1, g2, g3⟩ := q4e n (q0m L u);obtain ⟨A, C, f1, f2, f3, f4⟩ := q5f L u;have hr := hu.settle L;have hs := q9x hu L;have hq := hu.seq;rw [g2];refine ⟨⟨?_, ?_, ?_, ?_, ?_, ?_, fun hle => ?_, ?_⟩, hs.cong rfl rfl rfl rfl rfl rfl⟩
 .show (q0m L u).Node = _; rw [f1]; exact h1
 .show (q0m L u).Slot = _; rw [f1]; exact h2
 .show s = _ \/ s = _; rw [f1] at g1; rw [<- h3]; exact g1
 .intro x hx; show x ∈ (q0m L u).Votes; rw [f1]; exact f2 x (by rw [h4]; exact hx)
 .intro x hx; show x ∈ (q0m L u).Accepts; rw [f1]; exact f3 x (by rw [h5]; exact hx)
 .intro x hx; show x ∈ (q0m L u).Candidates; rw [f1]; exact f4 x (by rw [h6]; exact hx)
 .have e1 : (q0m L u).Seq = u.Seq := by rw [f1]
  refine hr.withS ?_ hle;rw [e1] at g1; omega
 .show s = n.Seq ↔ n.Trust = (q0m L u).Trust /\ _;rw [<- g3, f1]; show s = n.Seq ↔ s = u.Seq; rw [h3]
end Go.Proofs.YtglokalgdbegeaaGreat
namespace Go.Proofs.YtglokalgdbegeaaGreat
open Go Go.Ab Go.Sort
theorem qhp (x : Val) : z3z x = some (vvl x) := by
 apply y88;unfold leB vvl;by_cases h : 1 <= x.length
 .have : (1 : Int) <= ((x.length : Nat) : Int) := by omega
  simp only [h, this, decide_true, cT, tA'];congr 1
  by_cases h2 : x.length <= 200
  .have : ((x.length : Nat) : Int) <= 200 := by omega
   simp [h2, this]
  .have : ¬ ((x.length : Nat) : Int) <= 200 := by omega
   simp [h2, this]
 .have : ¬ (1 : Int) <= ((x.length : Nat) : Int) := by omega
  simp only [h, this, decide_false, cF, Bool.false_and]
theorem qz5 (a b : Val) : z3u a b = some (if a < b then -1 else if a = b then 0 else 1) := by
 have hn : ∀ z, z3o z = some false := fun z => y6w _ _ (by simp [eqS])
 apply y8r;rw [hn, hn];simp only [bS, cF, qww, leS];have h1 : Op.bytesLess a b = decide (a < b) := qww a b;rw [h1];by_cases h : a < b
 .simp [h]
 .by_cases h' : a = b
  .subst h'; simp [ql3]
  .simp [h, h']
theorem qdu (a b : Val) : z06 a b = some (cmpv a b) := by
 apply yb0;rw [qcf, qz5];simp only [bS, qud];congr 1
 unfold cmpv ltv;by_cases h1 : a.length < b.length
 .have : ((a.length : Nat) : Int) < ((b.length : Nat) : Int) := by omega
  simp [h1]
 .by_cases h2 : b.length < a.length
  .have hne : a.length ≠ b.length := by omega
   have hab : a ≠ b := fun e => hne (by rw [e])
   simp [h1, h2, hne, hab]
  .have he : a.length = b.length := by omega
   simp [he]
theorem qt5 (l : List Val) (hl : l.length < 1152921504606846976) : ∀ (suf : List Val) (i : Nat) (z : Val), l[i]? = some z -> l.drop (i + 1) = suf -> z1y l l ((l.length : Nat) : Int) ((i + 1 : Nat) : Int) = some (plV (some z) suf && decide (l.length <= 40))
 | [], i, z, hz, h => by
  apply qtc;rw [q0q h, cF];unfold leB plV;congr 1
  by_cases h2 : l.length <= 40
  .have : ((l.length : Nat) : Int) <= 40 := by omega
   simp [h2, this]
  .have : ¬ ((l.length : Nat) : Int) <= 40 := by omega
   simp [h2, this]
 | y :: suf, i, z, hz, h => by
  have hlt := q0j h;apply qtc;rw [q0c h, cT, q08 h, qhp, bS, q04 (by omega), cT, q42 (by omega) (by omega), q0z (y := z) (by omega) (by rw [show (((i + 1 : Nat) : Int) - 1).toNat = i by omega]; exact hz), qdu, bS, y4x, q00 (by omega),
   qt5 l hl suf (i + 1) y (by have := congrArg (·[0]?) h; simpa using this) (q06 h)]
  rw [plV];cases vvl y <;> by_cases hc : ltv z y <;> simp [hc]
theorem qcy (l : List Val) (hl : l.length < 1152921504606846976) : z2m l = some (q0y l) := by
 apply y9u;unfold q0y;cases l with
 | nil =>
  apply qtc;simp [ltB, plV, leB]
 | cons y r =>
  apply qtc;have h0 : ltB 0 (((y :: r).length : Nat) : Int) = true := q04 (by rw [List.length_cons]; omega);rw [h0, cT, q0z (y := y) (by omega) rfl, qhp, bS, q01 (by omega), cF, show addI .i64 0 1 = ((0 + 1 : Nat) : Int) from rfl, qt5 (y :: r) hl r 0 y rfl rfl, plV];cases vvl y <;> simp
theorem qtf (l : List Val) (hl : l.length < 1152921504606846976) (x : Val) : ∀ (suf : List Val) (i : Nat), l.drop i = suf -> ∃ r : Int, z1f l x ((l.length : Nat) : Int) (i : Int) = some r /\ leB 0 r = decide (x ∈ suf)
 | [], i, h => by
  refine ⟨-1, qzf _ _ _ _ _ ?_, by simp [leB]⟩;rw [q0q h]; simp
 | y :: suf, i, h => by
  have hlt := q0j h;obtain ⟨r, h1, h2⟩ := qtf l hl x suf (i + 1) (q06 h);by_cases hx : x = y
  .refine ⟨i, qzf _ _ _ _ _ ?_, by simp [leB, hx]⟩;rw [q0c h, cT, q08 h]; simp [eqS, hx]
  .refine ⟨r, qzf _ _ _ _ _ ?_, by rw [h2]; simp [hx]⟩;rw [q0c h, cT, q08 h, q00 (by omega), show eqS x y = false by simp [eqS, hx], cF, h1]
theorem qgi (l : List Val) (hl : l.length < 1152921504606846976) (x : Val) : z2w l x = some (decide (x ∈ l)) := by
 obtain ⟨r, h1, h2⟩ := qtf l hl x l 0 rfl;apply y9l;have h3 : z27 l x = some r := ya1 _ _ _ h1;have : z20 l x = some (decide (x ∈ l)) := by
  apply yb4;rw [h3, bS, h2]
 rw [this]; rfl
theorem q7m (l : List Val) (hl : l.length < 1000000) : z1b l = some ((), l) := y87 _ _ (by rw [q10 (by simp [q0k]; omega)]; rfl)
theorem qha (l : List Nomination) (hl : l.length < 1000000) : z1h l = some ((), l) := y8p _ _ (by rw [q10 (by simp [q0k]; omega)]; rfl)
def posV (x : Val) : List Val -> Nat
 | [] => 0
 | y :: r => if ltv y x then posV x r + 1 else 0
theorem qm2 (x : Val) : ∀ l : List Val, posV x l <= l.length
 | [] => Nat.le_refl _
 | y :: r => by
  rw [posV]; split
  .simp; exact qm2 x r
  .simp
theorem qe2 {x : Val} : ∀ {l : List Val}, Asc l -> ∀ (i : Nat) (y : Val), l[i]? = some y -> (ltv y x ↔ i < posV x l)
 | [], _, i, y, h => by simp at h
 | z :: r, hp, i, y, h => by
  have hp := List.pairwise_cons.1 hp;rw [posV];cases i with
  | zero =>
   simp at h; subst h;split <;> simp_all
  | succ i =>
   have h' : r[i]? = some y := by simpa using h
   have hzy := hp.1 y (List.mem_of_getElem? h');split
   .rw [qe2 hp.2 i y h']; omega
   .rename_i hz;constructor
    .intro g; exact absurd (q5r hzy g) hz
    .intro g; omega
theorem qu1 {l : List Val} {x : Val} (h : Asc l) : x ∈ l ↔ ∃ y, l[posV x l]? = some y /\ y = x := by
 constructor
 .intro hx;obtain ⟨i, hi⟩ := List.getElem?_of_mem hx;have h1 := qe2 (x := x) h i x hi;have hge : posV x l <= i := by
   have : ¬ i < posV x l := fun e => q2f x (h1.2 e)
   omega
  have hil : i < l.length := (List.getElem?_eq_some_iff.1 hi).1;have hpl : posV x l < l.length := by omega
  refine ⟨l[posV x l], List.getElem?_eq_getElem hpl, ?_⟩;have h2 := qe2 (x := x) h _ l[posV x l] (List.getElem?_eq_getElem hpl);have h3 : ¬ ltv l[posV x l] x := fun e => by have := h2.1 e; omega
  by_cases e : posV x l = i
  .rw [<- e] at hi; rw [List.getElem?_eq_getElem hpl] at hi; exact Option.some.inj hi
  .have := List.pairwise_iff_getElem.1 h _ _ hpl hil (by omega);have hxe : l[i] = x := (List.getElem?_eq_some_iff.1 hi).2;rw [hxe] at this; exact absurd this h3
 .rintro ⟨y, hy, rfl⟩; exact List.mem_of_getElem? hy
theorem qxv : ∀ i : Fin 41, ∀ j : Fin 41, IntKind.wrap .i64 (shrI .u64 (IntKind.wrap .u64 (addI .i64 ((i.val : Nat) : Int) ((j.val : Nat) : Int))) 1) = (((i.val + j.val) / 2 : Nat) : Int) := by decide +kernel
theorem qqw {l : List Val} (hl : l.length <= 40) (hp : Asc l) (x : Val) : ∀ (n i j : Nat), j - i <= n -> i <= posV x l -> posV x l <= j -> j <= l.length ->
  z0c l x ((l.length : Nat) : Int) (i : Int) (j : Int) = some (((posV x l : Nat) : Int), decide (x ∈ l))
 | n, i, j, hn, hi, hj, hjl => by
  apply y7w;by_cases hij : i < j
  .obtain ⟨n, rfl⟩ : ∃ m, n = m + 1 := ⟨n - 1, by omega⟩;have hmid := qxv ⟨i, by omega⟩ ⟨j, by omega⟩
   dsimp only at hmid
   have hml : (i + j) / 2 < l.length := by omega
   have hg : l[(i + j) / 2]? = some l[(i + j) / 2] := by simp [hml]
   have hpl := qe2 (x := x) hp _ _ hg;rw [q04 (by omega), cT, hmid, q0z (by omega) (by rw [tN]; exact hg), qdu, bS, qqs];by_cases h1 : ltv l[(i + j) / 2] x
   .rw [decide_eq_true h1, cT, q00 (by omega)];exact qqw hl hp x n ((i + j) / 2 + 1) j (by omega) (by have := hpl.1 h1; omega) hj hjl
   .rw [decide_eq_false h1, cF];exact qqw hl hp x n i ((i + j) / 2) (by omega) hi (by have : ¬ (i + j) / 2 < posV x l := fun h => h1 (hpl.2 h); omega) (by omega)
  .have hij' : i = posV x l := by omega
   subst hij';rw [q01 (by omega), cF];by_cases he : posV x l < l.length
   .have hg : l[posV x l]? = some l[posV x l] := List.getElem?_eq_getElem he;rw [q04 (by omega), cT, q0z (by omega) (by rw [tN]; exact hg), qdu, bS, y5t];have : (l[posV x l] = x) ↔ x ∈ l := by rw [qu1 hp, hg]; simp
    rw [decide_eq_decide.2 this]
   .rw [q01 (by omega), cF];have : x ∉ l := fun e => by
     obtain ⟨y, hy, _⟩ := (qu1 hp).1 e;rw [List.getElem?_eq_none (by omega)] at hy; cases hy
    rw [decide_eq_false this]
def encV (x : Val) : D := .v (.string ⟨⟨x⟩⟩)
theorem qzd (l : List Val) : (l.map encV).all (q6b 1) = true := by
 rw [List.all_eq_true]; intro x hx; obtain ⟨y, _, rfl⟩ := List.mem_map.1 hx; rfl
theorem qqj (l : List Val) (hl : l.length < 1000000) (m : Val) (i : Nat) (hi : i <= l.length) : z4t (i : Int) [m] l = some (l.take i ++ m :: l.drop i, ()) := by
 refine qig (T := tn) (m := q2p 1) sigOk (by kernel_rfl) rfl ?_;show libA (q2p 1) [.ref 0, .d (.v (.int .i64 i)), .d (.list [encV m])] [[.own (l.map encV) false]] = some (.d (.list ((l.take i ++ m :: l.drop i).map encV)), [[.undef]]);unfold libA q2p;have h1 : (i : Int) <= ((l.map encV).length : Int) := by simp; omega
 have h2 : (l.map encV).length < q0k := by simp [q0k]; omega
 have h3 : q6b 1 (encV m) = true := rfl;simp only [Int.natCast_nonneg, h1, h2, h3, qzd, and_self, if_true, tN];simp only [List.map_append, List.map_cons, List.map_take, List.map_drop];rfl
theorem qge {l : List Val} {x : Val} (hl : q0y l = true) : z3a l x = some (putV l x) := by
 obtain ⟨_, ha, hlen⟩ := q0i.1 hl;apply y99;have h1 : z0w l x = some (((posV x l : Nat) : Int), decide (x ∈ l)) :=
  y8i _ _ _ (qqw hlen ha x l.length 0 l.length (by omega) (by omega) (qm2 x l) (Nat.le_refl _))
 rw [h1, bS];unfold putV;by_cases hx : x ∈ l
 .simp [hx]
 .simp only [hx, decide_false, cF, false_or];by_cases h40 : 40 <= l.length
  .rw [if_pos h40, show leB 40 ((l.length : Nat) : Int) = true by unfold leB; simp; omega, cT]
  .rw [if_neg h40, show leB 40 ((l.length : Nat) : Int) = false by unfold leB; simp; omega, cF, q7m l (by omega), bS]
   dsimp only
   rw [qqj l (by omega) x _ (qm2 x l), bS];congr 1
   refine (qyq ha (qm2 x l) (fun y hy => ?_) (fun y hy => ?_)).symm
   .obtain ⟨i, hi⟩ := List.getElem?_of_mem hy;rw [List.getElem?_take] at hi;split at hi
    .exact (qe2 ha i y hi).2 (by assumption)
    .cases hi
   .obtain ⟨i, hi⟩ := List.getElem?_of_mem hy;rw [List.getElem?_drop] at hi;refine q9q (fun e => hx (by rw [e]; exact List.mem_of_getElem? hi)) fun g => ?_
    have := (qe2 ha _ y hi).1 g;omega
theorem y0a (a b : Val) (h : encV a = encV b) : a = b := by cases h; rfl
theorem qon (l : List Val) (hl : l.length < 1000000) : z4p l = some (q07 l, ()) := by
 refine qig (T := tn) (m := q47) sigOk (by kernel_rfl) rfl ?_;show libA q47 [.ref 0] [[.own (l.map encV) false]] = some (.d (.list ((q07 l).map encV)), [[.undef]]);have h1 : (l.map encV).length <= q0k := by simp [q0k]; omega
 have key : q47 [.ref 0] [[.own (l.map encV) false]] = some (.d (.list (q07 (l.map encV))), [[.undef]]) := by
  show (if _ /\ _ then _ else _) = _;rw [if_pos ⟨by rw [List.all_eq_true]; intro x hx; obtain ⟨y, _, rfl⟩ := List.mem_map.1 hx; rfl, h1⟩]
 unfold libA;rw [key, q9b (fun a b h => y0a a b h) l];rfl
theorem q6i {x : Val} : ∀ {l : List Val}, x ∈ q07 l ↔ x ∈ l
 | [] => Iff.rfl
 | [y] => Iff.rfl
 | y :: z :: r => by
  rw [q1f];split
  .rename_i e;subst e;rw [q6i (l := y :: r)]; simp
  .simp only [List.mem_cons, q6i (l := z :: r)]
theorem q8u : ∀ {l : List Val}, l.Pairwise (fun x y => ¬ ltv y x) -> Asc (q07 l)
 | [], _ => List.Pairwise.nil
 | [y], _ => by simp [q07]
 | y :: z :: r, h => by
  rw [List.pairwise_cons] at h;rw [q1f];split
  .exact q8u h.2
  .rename_i e;refine List.pairwise_cons.2 ⟨fun u hu => ?_, q8u h.2⟩;have hyz := q9q e (h.1 z (by simp));rcases List.mem_cons.1 (q6i.1 hu) with rfl | hu
   .exact hyz
   .by_cases e2 : z = u
    .subst e2; exact hyz
    .exact q5r hyz (q9q e2 ((List.pairwise_cons.1 h.2).1 u hu))
theorem swoV : SWO (fun x y => ltB (cmpv x y) 0) := by
 refine ⟨fun x => ?_, fun x y z h h' => ?_, fun x y z h h' => ?_⟩ <;> simp only [qqs, dT', decide_eq_false_iff_not] at *
 .exact q2f x
 .exact q5r h h'
 .intro g;by_cases e : x = y
  .subst e; exact h' g
  .by_cases e2 : y = z
   .subst e2; exact h g
   .exact qdt (q5r (q9q (fun e' => e2 e'.symm) h') (q9q (fun e' => e e'.symm) h)) g
theorem qtr (l : List Nomination) (hl : l.length <= 11) (hm : ∀ m ∈ l, nomB m = true) : ∀ (suf : List Nomination) (i : Nat) (acc : List Val), i <= l.length -> l.drop i = suf -> acc.length <= 80 * i -> z31 acc l ((l.length : Nat) : Int) (i : Int) = some (setV (acc ++ q3u suf))
 | [], i, acc, hi, h, ha => by
  apply y3h;rw [q0q h, cF];obtain ⟨ys, h3, h4, h5⟩ := y6j qdu swoV acc (by omega);rw [h3, bS, qon ys (by rw [h4.length_eq]; omega)];show some (q07 ys) = _;congr 1
  refine qwp (q8u (h5.imp fun h => by simpa [qqs] using h)) fun x => ?_
  rw [q6i, h4.mem_iff]; simp [q3u]
 | y :: suf, i, acc, hi, h, ha => by
  have hlt := q0j h;have hy := hm y (List.mem_of_mem_drop (i := i) (by rw [h]; simp));obtain ⟨_, _, _, hv1, hv2⟩ := q1z.1 hy;have hv1 := (q0i.1 hv1).2.2;have hv2 := (q0i.1 hv2).2.2;apply y3h;rw [q0c h, cT, q08 h, q10 (by simp [q0k]; omega), q10 (by simp [q0k]; omega), q00 (by omega),
   qtr l hl hm suf (i + 1) _ (by omega) (q06 h) (by simp; omega)]
  simp [q3u]
theorem qu2 {l : List Nomination} (hl : l.length <= 11) (hm : ∀ m ∈ l, nomB m = true) : z3w l = some (setV (q3u l)) :=
 y78 _ _ (qtr l hl hm l 0 [] (by omega) rfl (by simp))
end Go.Proofs.YtglokalgdbegeaaGreat
namespace Go.Proofs.YtglokalgdbegeaaGreat
open Go Go.Ab
mutual
def wgt (k : Int) : Trust -> Option (Int × Int)
 | ⟨t, ns, is⟩ => if ns.contains k then some (t, ((ns.length + is.length : Nat) : Int)) else (wgts k is).map fun p => (t * p.1, ((ns.length + is.length : Nat) : Int) * p.2)
def wgts (k : Int) : List Trust -> Option (Int × Int)
 | [] => none
 | x :: r => match wgt k x with
  | some p => some p
  | none => wgts k r
end
theorem qoh (k : Int) (t : Trust) : wgt k t = if t.Nodes.contains k then some (t.Threshold, ((t.Nodes.length + t.Inner.length : Nat) : Int)) else (wgts k t.Inner).map fun p => (t.Threshold * p.1, ((t.Nodes.length + t.Inner.length : Nat) : Int) * p.2) := by cases t; simp only [wgt]
theorem qtp {k : Int} {p : Int × Int} : ∀ {l : List Trust}, wgts k l = some p -> ∃ x ∈ l, wgt k x = some p
 | [], h => by simp [wgts] at h
 | x :: r, h => by
  rw [wgts] at h;cases hx : wgt k x with
  | some q => rw [hx] at h; exact ⟨x, by simp, by rw [hx]; exact h⟩
  | none =>
   rw [hx] at h;obtain ⟨y, h1, h2⟩ := qtp h;exact ⟨y, by simp [h1], h2⟩
theorem qei : ∀ {l : List Trust} {x : Trust}, goods l = true -> x ∈ l -> good x = true
 | [], x, _, h => by simp at h
 | y :: r, x, h, hx => by
  rw [goods, aT] at h;rcases List.mem_cons.1 hx with e | hx
  .rw [e]; exact h.1
  .exact qei h.2 hx
theorem qbq : ∀ {l : List Trust} {x : Trust}, x ∈ l -> depth x <= q35 l
 | [], x, h => by simp at h
 | y :: r, x, h => by
  rw [q35];rcases List.mem_cons.1 h with e | h
  .rw [e]; omega
  .have := qbq h; omega
theorem qnu (k : Int) : ∀ (t : Trust), good t = true -> size t <= 200 -> ∀ p, wgt k t = some p -> 1 <= p.1 /\ p.1 <= p.2 /\ p.2 <= ((200 ^ depth t : Nat) : Int) := by
 apply Trust.ind;intro t ih hg hs p hp;rw [qh2] at hg;simp only [aT, dT'] at hg;obtain ⟨g1, g2, _, _, g5⟩ := hg;have hsz := hs;rw [q3i] at hsz;rw [qoh] at hp;rw [qda];split at hp
 .cases hp;refine ⟨g1, g2, ?_⟩;have h1 : 1 <= 200 ^ q35 t.Inner := Nat.one_le_pow _ _ (by decide);have h2 : 200 ^ (q35 t.Inner + 1) = 200 ^ q35 t.Inner * 200 := Nat.pow_succ ..;show ((t.Nodes.length + t.Inner.length : Nat) : Int) <= _;rw [h2];have : t.Nodes.length + t.Inner.length <= 200 ^ q35 t.Inner * 200 := by omega
  exact Int.ofNat_le.2 this
 .cases hw : wgts k t.Inner with
  | none => rw [hw] at hp; cases hp
  | some q =>
   rw [hw] at hp; cases hp;obtain ⟨x, hx, hxw⟩ := qtp hw;have hsx := qgt hx;obtain ⟨a1, a2, a3⟩ := ih x hx (qei g5 hx) (by omega) q hxw;have hdx := qbq hx;have hpow : 200 ^ depth x <= 200 ^ q35 t.Inner := Nat.pow_le_pow_right (by decide) hdx;have a4 : q.2 <= ((200 ^ q35 t.Inner : Nat) : Int) := Int.le_trans a3 (Int.ofNat_le.2 hpow);generalize hn : t.Nodes.length + t.Inner.length = n at *;have hn200 : (n : Int) <= 200 := by omega
   refine ⟨?_, ?_, ?_⟩
   .show 1 <= t.Threshold * q.1;have := Int.mul_le_mul g1 a1 (by omega) (by omega : (0 : Int) <= t.Threshold);omega
   .show t.Threshold * q.1 <= (n : Int) * q.2;exact Int.mul_le_mul g2 a2 (by omega) (by omega)
   .show (n : Int) * q.2 <= _;have := Int.mul_le_mul hn200 a4 (by omega) (by omega : (0 : Int) <= 200);rw [Nat.pow_succ, Nat.mul_comm];rw [Int.natCast_mul];exact this
theorem qp9 {k : Int} {t : Trust} (h : valid t = true) {p : Int × Int} (hp : wgt k t = some p) : 1 <= p.1 /\ p.1 <= p.2 /\ p.2 <= 1600000000 := by
 simp only [valid, aT, dT'] at h;obtain ⟨a, b, c⟩ := qnu k t h.2.2 h.2.1 p hp;refine ⟨a, b, Int.le_trans c ?_⟩;have : 200 ^ depth t <= 200 ^ 4 := Nat.pow_le_pow_right (by decide) h.1;have h4 : 200 ^ 4 = 1600000000 := by decide
 rw [h4] at this;omega
theorem qyr (k s r n : Int) : ∃ h, z3k k s r n = some h /\ 0 <= h /\ h < 4294967296 := by
 have rng : ∀ z : Int, 0 <= IntKind.wrap .u32 z /\ IntKind.wrap .u32 z < 4294967296 := fun z => by
  have : IntKind.wrap .u32 z = z % 4294967296 := by
   show (if (false && decide (z % 4294967296 ≥ 2147483648)) = true then z % 4294967296 - 4294967296 else z % 4294967296) = _;simp
  rw [this]; omega
 exact ⟨_, y3d _ _ _ _ _ rfl, (rng _).1, (rng _).2⟩
noncomputable def hsh (k s r n : Int) : Int := (z3k k s r n).getD 0
theorem qgp (k s r n : Int) : z3k k s r n = some (hsh k s r n) := by
 obtain ⟨h, h1, _⟩ := qyr k s r n;rw [hsh, h1]; rfl
theorem qa0 (k s r n : Int) : 0 <= hsh k s r n /\ hsh k s r n < 4294967296 := by
 obtain ⟨h, h1, h2⟩ := qyr k s r n;rw [hsh, h1]; exact h2
theorem qmj (k s r n : Int) : z55 k s r n = some (hsh k s r n) := by
 refine y8t _ _ _ _ _ ?_;rw [<- qgp];exact (y3d _ _ _ _ _ rfl).symm
theorem qy6 (l : List Int) (hl : l.length < 1152921504606846976) (x : Int) : ∀ (suf : List Int) (i : Nat), l.drop i = suf -> ∃ r : Int, z1l l x ((l.length : Nat) : Int) (i : Int) = some r /\ leB 0 r = suf.contains x
 | [], i, h => by
  refine ⟨-1, qyn _ _ _ _ _ ?_, by simp [leB]⟩;rw [q0q h]; simp
 | y :: suf, i, h => by
  have hlt := q0j h;obtain ⟨r, h1, h2⟩ := qy6 l hl x suf (i + 1) (q06 h);by_cases hx : x = y
  .refine ⟨i, qyn _ _ _ _ _ ?_, by simp [leB, hx]⟩;rw [q0c h, cT, q08 h]; simp [eqB, hx]
  .refine ⟨r, qyn _ _ _ _ _ ?_, by rw [h2]; simp [hx]⟩;rw [q0c h, cT, q08 h, q00 (by omega), q53 hx, cF, h1]
theorem y2b (l : List Int) (hl : l.length < 1152921504606846976) (x : Int) : z2e l x = some (l.contains x) := by
 obtain ⟨r, h1, h2⟩ := qy6 l hl x l 0 rfl;apply ya4;have h3 : z2z l x = some r := y98 _ _ _ h1;rw [h3, bS, h2]
def wFrac : Option (Int × Int) -> Frac × Bool
 | some p => (⟨p.1, p.2⟩, true)
 | none => (⟨0, 0⟩, false)
theorem qnj (k : Int) (x : Trust) (r : List Trust) : wgts k (x :: r) = match wgt k x with | some p => some p | none => wgts k r := by rw [wgts]; first | done | (cases wgt k x <;> rfl)
structure WOk (t : Trust) : Prop where
 gd : good t = true
 sz : size t <= 200
 dp : depth t <= 4
theorem WOk.mem {t x : Trust} (h : WOk t) (hx : x ∈ t.Inner) : WOk x /\ depth x + 1 <= 4 /\ t.Nodes.length + t.Inner.length <= 200 /\ 1 <= t.Threshold /\ t.Threshold <= 200 := by
 obtain ⟨h1, h2, h3⟩ := h;have hsx := qgt hx;have hdx := qbq hx;have h1' := h1;rw [qh2] at h1';simp only [aT, dT'] at h1';obtain ⟨g1, g2, _, _, g5⟩ := h1';have hsz := h2;rw [q3i] at hsz;rw [qda] at h3;exact ⟨⟨qei g5 hx, by omega, by omega⟩, by omega, by omega, g1, by omega⟩
theorem WOk.range {t : Trust} (h : WOk t) {k : Int} {p : Int × Int} (hp : wgt k t = some p) : 1 <= p.1 /\ p.1 <= p.2 /\ p.2 <= ((200 ^ depth t : Nat) : Int) := qnu k t h.gd h.sz p hp
theorem WOk.prod {t x : Trust} (h : WOk t) (hx : x ∈ t.Inner) {k : Int} {p : Int × Int} (hp : wgt k x = some p) :
  mulI .i64 t.Threshold p.1 = t.Threshold * p.1 /\ mulI .i64 ((t.Nodes.length + t.Inner.length : Nat) : Int) p.2 = ((t.Nodes.length + t.Inner.length : Nat) : Int) * p.2 := by
 obtain ⟨hw, hd, hn, ht1, ht2⟩ := h.mem hx;obtain ⟨r1, r2, r3⟩ := hw.range hp;have hpow : 200 ^ depth x <= 200 ^ 3 := Nat.pow_le_pow_right (by decide) (by omega);have h3 : (200 : Nat) ^ 3 = 8000000 := by decide
 generalize 200 ^ depth x = D at *;generalize t.Nodes.length + t.Inner.length = n at *;have b1 : t.Threshold * p.1 <= 200 * 8000000 := Int.mul_le_mul ht2 (by omega) (by omega) (by omega);have b2 : (n : Int) * p.2 <= 200 * 8000000 := Int.mul_le_mul (by omega) (by omega) (by omega) (by omega);have b3 : 0 <= t.Threshold * p.1 := Int.mul_nonneg (by omega) (by omega);have b4 : 0 <= (n : Int) * p.2 := Int.mul_nonneg (by omega) (by omega);exact ⟨wrap64 (by omega) (by omega), wrap64 (by omega) (by omega)⟩
theorem y6d (k : Int) : ∀ t : Trust, WOk t -> z4m t k = some (wFrac (wgt k t)) := by
 apply Trust.ind;intro t ih h;have hsz := h.sz;rw [q3i] at hsz;apply yab;rw [y2b _ (by omega), bS, q3v (by omega) (by omega), qoh];cases hc : t.Nodes.contains k with
 | true => simp [wFrac]
 | false =>
  rw [cF];have l1 : ∀ (suf : List Trust) (i : Nat), t.Inner.drop i = suf -> z32 k t.Inner ((t.Inner.length : Nat) : Int) (i : Int) t.Threshold t.Nodes t.Inner 0 0 t.Threshold ((t.Nodes.length : Int) + (t.Inner.length : Int)) =
    some (wFrac ((wgts k suf).map fun p => (t.Threshold * p.1, ((t.Nodes.length + t.Inner.length : Nat) : Int) * p.2))) := by
   intro suf;induction suf with
   | nil =>
    intro i h';apply y42;rw [q0q h']; simp [wgts, wFrac]
   | cons y suf ihs =>
    intro i h';have hlt := q0j h';have hy : y ∈ t.Inner := List.mem_of_mem_drop (i := i) (by rw [h']; simp);apply y42;rw [q0c h', cT, q08 h', ih y hy (h.mem hy).1, bS, qnj];cases hw : wgt k y with
    | some p =>
     obtain ⟨p1, p2⟩ := h.prod hy hw;have e : ((t.Nodes.length : Int) + (t.Inner.length : Int)) = ((t.Nodes.length + t.Inner.length : Nat) : Int) := by omega
     rw [e];simp only [wFrac, cT];rw [p1, p2]; rfl
    | none => simp only [wFrac, cF]; rw [q00 (by omega)]; exact ihs (i + 1) (q06 h')
  exact (l1 t.Inner 0 rfl).trans (by simp)
theorem y56 (k : Int) : ∀ t : Trust, WOk t -> z51 t k = some (wFrac (wgt k t)) := by
 apply Trust.ind;intro t ih h;have hsz := h.sz;rw [q3i] at hsz;apply yay;rw [q3v (by omega) (by omega), qoh];have e : ((t.Nodes.length : Int) + (t.Inner.length : Int)) = ((t.Nodes.length + t.Inner.length : Nat) : Int) := by omega
 rw [e];have l2 : ∀ (suf : List Trust) (i : Nat), t.Inner.drop i = suf -> z3n k ((t.Nodes.length + t.Inner.length : Nat) : Int) t.Inner ((t.Inner.length : Nat) : Int) (i : Int) t.Threshold t.Nodes t.Inner 0 0 =
   some (wFrac ((wgts k suf).map fun p => (t.Threshold * p.1, ((t.Nodes.length + t.Inner.length : Nat) : Int) * p.2))) := by
  intro suf;induction suf with
  | nil =>
   intro i h';apply y4t;rw [q0q h']; simp [wgts, wFrac]
  | cons y suf ihs =>
   intro i h';have hlt := q0j h';have hy : y ∈ t.Inner := List.mem_of_mem_drop (i := i) (by rw [h']; simp);apply y4t;rw [q0c h', cT, q08 h', ih y hy (h.mem hy).1, bS, qnj];cases hw : wgt k y with
   | some p =>
    obtain ⟨p1, p2⟩ := h.prod hy hw;simp only [wFrac, cT];rw [p1, p2]; rfl
   | none => simp only [wFrac, cF]; rw [q00 (by omega)]; exact ihs (i + 1) (q06 h')
 have l1 : ∀ (suf : List Int) (i : Nat), t.Nodes.drop i = suf -> z3l k ((t.Nodes.length + t.Inner.length : Nat) : Int) t.Nodes ((t.Nodes.length : Nat) : Int) (i : Int) t.Threshold t.Nodes t.Inner 0 0 =
   some (wFrac (if suf.contains k then some (t.Threshold, ((t.Nodes.length + t.Inner.length : Nat) : Int)) else (wgts k t.Inner).map fun p => (t.Threshold * p.1, ((t.Nodes.length + t.Inner.length : Nat) : Int) * p.2))) := by
  intro suf;induction suf with
  | nil =>
   intro i h';apply y4n;rw [q0q h', cF];exact (l2 t.Inner 0 rfl).trans (by simp)
  | cons y suf ihs =>
   intro i h';have hlt := q0j h';apply y4n;rw [q0c h', cT, q08 h'];by_cases hy : y = k
   .subst hy; rw [q3d]; simp [wFrac]
   .rw [q53 hy, cF, q00 (by omega), ihs (i + 1) (q06 h')];have : k ≠ y := fun e => hy e.symm
    simp [this]
 exact l1 t.Nodes 0 rfl
theorem WOk.of {t : Trust} (h : valid t = true) : WOk t := by
 simp only [valid, aT, dT'] at h;exact ⟨h.2.2, h.2.1, h.1⟩
noncomputable def nghB (t : Trust) (v slot round k : Int) : Bool := decide (k = v) || match wgt k t with | some p => decide (hsh 1 slot round k * p.2 < p.1 * 4294967296) | none => false
theorem qpy {n : Int} (h0 : 0 <= n) (h : n < 18446744073709551616) : IntKind.wrap .u64 n = n := by
 show (if (false && decide (n % 18446744073709551616 ≥ 9223372036854775808)) = true then n % 18446744073709551616 - 18446744073709551616 else n % 18446744073709551616) = _;simp only [Bool.false_and, fT, if_false];exact Int.emod_eq_of_lt h0 h
theorem qq6 {t : Trust} (h : valid t = true) {k : Int} {p : Int × Int} (hp : wgt k t = some p) (s r n : Int) : 0 <= hsh 1 s r n * p.2 /\ hsh 1 s r n * p.2 < 9223372036854775808 /\ 0 <= p.1 /\ p.1 * 4294967296 < 9223372036854775808 := by
 obtain ⟨a1, a2, a3⟩ := qp9 h hp;obtain ⟨b1, b2⟩ := qa0 1 s r n;have := Int.mul_le_mul (show hsh 1 s r n <= 4294967296 by omega) a3 (by omega) (by omega : (0 : Int) <= 4294967296);exact ⟨Int.mul_nonneg b1 (by omega), by omega, by omega, by omega⟩
theorem qqv {t : Trust} (h : valid t = true) (v slot round k : Int) : z4g t v slot round k = some (nghB t v slot round k) := by
 apply y8m;unfold nghB;by_cases e : k = v
 .subst e; rw [q3d]; simp
 .rw [q53 e, cF, y6d k t (WOk.of h), bS];cases hw : wgt k t with
  | none => simp [wFrac, e]
  | some p =>
   obtain ⟨c1, c2, c3, c4⟩ := qq6 h hw slot round k;obtain ⟨a1, a2, a3⟩ := qp9 h hw;obtain ⟨b1, b2⟩ := qa0 1 slot round k;simp only [wFrac, cT, qgp, bS];rw [qpy b1 (by omega), qpy (n := p.2) (by omega) (by omega), qpy (n := p.1) c3 (by omega)];have e1 : mulI .u64 (hsh 1 slot round k) p.2 = hsh 1 slot round k * p.2 := qpy c1 (by omega);have e2 : shlI .u64 p.1 32 = p.1 * 4294967296 := by
    show IntKind.wrap .u64 (p.1 * 4294967296) = _;exact qpy (by omega) (by omega)
   rw [e1, e2];simp [ltB, e]
structure AskOk (t : Trust) (v slot round : Int) : Prop where
 tr : valid t = true
 node : inR v = true
 slot : 0 <= slot /\ slot <= 1000000
 round : 1 <= round /\ round <= 1000
theorem y62 {t : Trust} {v slot round : Int} (h : AskOk t v slot round) : z57 t v slot round = some 0 := by
 apply y7y;have h0 : verr t = 0 := (q5l t).2 h.tr;obtain ⟨h1, h2, h3, h4⟩ := h;simp only [inR, aT, dT'] at h2;rw [qag _ (q25 h1), bS, h0, q01 (by omega), q0d (by omega), q01 (by omega), q01 (by omega), q01 (by omega), q01 (by omega)];rfl
theorem qwb {t : Trust} {v slot round : Int} (h : AskOk t v slot round) : z5a t v slot round = some 0 := by
 apply y8f;have h0 : verr t = 0 := (q5l t).2 h.tr;obtain ⟨h1, h2, h3, h4⟩ := h;simp only [inR, aT, dT'] at h2;rw [y2n _ (q25 h1), bS, h0, q01 (by omega), q0d (by omega), q01 (by omega), q01 (by omega), q01 (by omega), q01 (by omega)];rfl
theorem y6n {t : Trust} {v slot round : Int} (h : AskOk t v slot round) {k : Int} (hk : inR k = true) : z4u t v slot round k = some (nghB t v slot round k) := by
 apply y9h;have hk' := hk;simp only [inR, aT, dT'] at hk';unfold nghB;rw [qwb h, bS, q15, cF, q01 (by omega), cF, q0d (by omega), cF, y56 k t (WOk.of h.tr), bS];by_cases e : k = v
 .subst e; rw [q3d]; simp
 .rw [q53 e, cF];cases hw : wgt k t with
  | none => simp [wFrac, e]
  | some p =>
   obtain ⟨c1, c2, c3, c4⟩ := qq6 h.tr hw slot round k;obtain ⟨b1, b2⟩ := qa0 1 slot round k;simp only [wFrac, cT, qmj, bS];rw [wrap64 (n := hsh 1 slot round k) (by omega) (by omega)];have e1 : mulI .i64 (hsh 1 slot round k) p.2 = hsh 1 slot round k * p.2 := wrap64 (by omega) (by omega);have e2 : shlI .i64 p.1 32 = p.1 * 4294967296 := by
    show IntKind.wrap .i64 (p.1 * 4294967296) = _;exact wrap64 (by omega) (by omega)
   rw [e1, e2];simp [ltB, e]
structure Lead (N : Int -> Bool) (h : Int -> Int) (b : Int) : Prop where
 node : inR b = true
 ngh : N b = true
 most : ∀ k, inR k = true -> N k = true -> h k < h b \/ h k = h b /\ k <= b
theorem Lead.uniq {N : Int -> Bool} {h : Int -> Int} {b c : Int} (hb : Lead N h b) (hc : Lead N h c) : b = c := by
 have h1 := hb.most c hc.node hc.ngh;have h2 := hc.most b hb.node hb.ngh;omega
theorem qku {t : Trust} (ht : valid t = true) {v slot round : Int} (hv : inR v = true) : ∀ (n i : Nat) (b m : Int), i + n = 10 -> (∀ k, inR k = true -> k < (i : Int) -> nghB t v slot round k = true -> hsh 2 slot round k < m \/ hsh 2 slot round k = m /\ k <= b) ->
  ((b = v /\ m = 0 /\ (i : Int) <= v) \/ inR b = true /\ b < (i : Int) /\ nghB t v slot round b = true /\ m = hsh 2 slot round b) ->
  ∃ c, z1p v slot round b m (i : Int) t.Threshold t.Nodes t.Inner = some c /\ Lead (nghB t v slot round) (hsh 2 slot round) c
 | 0, i, b, m, hi, hk, hb => by
  have hv' : 0 <= v /\ v < 10 := by simpa [inR] using hv
  refine ⟨b, qu5 _ _ _ _ _ _ _ _ _ _ (by rw [q01 (by omega)]; rfl), ?_⟩;rcases hb with ⟨_, _, h3⟩ | ⟨h1, h2, h3, h4⟩
  .omega
  .refine ⟨h1, h3, fun k hk1 hk2 => ?_⟩;have : 0 <= k /\ k < 10 := by simpa [inR] using hk1
   have := hk k hk1 (by omega) hk2;rw [h4] at this; exact this
 | n + 1, i, b, m, hi, hk, hb => by
  have hv' : 0 <= v /\ v < 10 := by simpa [inR] using hv
  have hin : inR (i : Int) = true := by simp [inR]; omega
  have next : ∀ b' m', (∀ k, inR k = true -> k < ((i + 1 : Nat) : Int) -> nghB t v slot round k = true -> hsh 2 slot round k < m' \/ hsh 2 slot round k = m' /\ k <= b') -> ((b' = v /\ m' = 0 /\ ((i + 1 : Nat) : Int) <= v) \/ inR b' = true /\ b' < ((i + 1 : Nat) : Int) /\ nghB t v slot round b' = true /\ m' = hsh 2 slot round b') ->
    ∃ c, z1p v slot round b' m' ((i + 1 : Nat) : Int) t.Threshold t.Nodes t.Inner = some c /\ Lead (nghB t v slot round) (hsh 2 slot round) c := fun b' m' => qku ht hv n (i + 1) b' m' (by omega)
  have split : ∀ k : Int, k < ((i + 1 : Nat) : Int) -> k < (i : Int) \/ k = (i : Int) := fun k hk => by omega
  have hbv : nghB t v slot round v = true := by simp [nghB]
  cases hN : nghB t v slot round (i : Int) with
  | false =>
   obtain ⟨c, h1, h2⟩ := next b m (fun k hk1 hk2 hk3 => by
    rcases split k hk2 with e | e
    .exact hk k hk1 e hk3
    .subst e; rw [hN] at hk3; cases hk3) (by
    rcases hb with ⟨e1, e2, e3⟩ | ⟨e1, e2, e3, e4⟩
    .refine .inl ⟨e1, e2, ?_⟩;have : (i : Int) ≠ v := fun e => by rw [e, hbv] at hN; cases hN
     omega
    .exact .inr ⟨e1, by omega, e3, e4⟩)
   refine ⟨c, qu5 _ _ _ _ _ _ _ _ _ _ ?_, h2⟩;rw [q04 (by omega), cT, Trust.etaM, qqv ht, bS, hN, q00 (by omega)];exact h1
  | true =>
   have hr := (qa0 2 slot round (i : Int)).1;by_cases hle : m <= hsh 2 slot round (i : Int)
   .obtain ⟨c, h1, h2⟩ := next (i : Int) (hsh 2 slot round (i : Int)) (fun k hk1 hk2 hk3 => by
     rcases split k hk2 with e | e
     .rcases hk k hk1 e hk3 with g | ⟨g, g'⟩
      .exact .inl (by omega)
      .by_cases e' : hsh 2 slot round k = hsh 2 slot round (i : Int)
       .exact .inr ⟨e', by omega⟩
       .exact .inl (by omega)
     .subst e; exact .inr ⟨rfl, by omega⟩) (.inr ⟨hin, by omega, hN, rfl⟩)
    refine ⟨c, qu5 _ _ _ _ _ _ _ _ _ _ ?_, h2⟩;rw [q04 (by omega), cT, Trust.etaM, qqv ht, bS, hN, qgp, q00 (by omega)];simp only [nT, cF, bS, q0g hle, cT];exact h1
   .obtain ⟨c, h1, h2⟩ := next b m (fun k hk1 hk2 hk3 => by
     rcases split k hk2 with e | e
     .exact hk k hk1 e hk3
     .subst e; exact .inl (by omega)) (by
     rcases hb with ⟨e1, e2, e3⟩ | ⟨e1, e2, e3, e4⟩
     .omega
     .exact .inr ⟨e1, by omega, e3, e4⟩)
    refine ⟨c, qu5 _ _ _ _ _ _ _ _ _ _ ?_, h2⟩;rw [q04 (by omega), cT, Trust.etaM, qqv ht, bS, hN, qgp, q00 (by omega)];simp only [nT, cF, bS, q0d (show hsh 2 slot round (i : Int) < m by omega)];exact h1
noncomputable def leadR (t : Trust) (v slot round : Int) : Int := (z42 t v slot round).getD 0
theorem q4b {t : Trust} (ht : valid t = true) {v : Int} (slot round : Int) (hv : inR v = true) : z42 t v slot round = some (leadR t v slot round) /\ Lead (nghB t v slot round) (hsh 2 slot round) (leadR t v slot round) := by
 have hv' : 0 <= v /\ v < 10 := by simpa [inR] using hv
 obtain ⟨c, h1, h2⟩ := qku (slot := slot) (round := round) ht hv 10 0 v 0 rfl (fun k hk hk0 => by
  have : 0 <= k /\ k < 10 := by simpa [inR] using hk
  have : k < 0 := hk0;omega) (.inl ⟨rfl, rfl, hv'.1⟩)
 have h3 : z42 t v slot round = some c := y6v _ _ _ _ _ h1;rw [leadR, h3]; exact ⟨rfl, h2⟩
theorem qeg {t : Trust} {v slot round : Int} (h : AskOk t v slot round) : ∀ (n i : Nat) (b : Int), i + n = 10 -> inR b = true -> nghB t v slot round b = true -> (∀ k, inR k = true -> k < (i : Int) -> nghB t v slot round k = true -> hsh 2 slot round k < hsh 2 slot round b \/ hsh 2 slot round k = hsh 2 slot round b /\ k <= b) ->
  ∃ c, z1g v slot round b (i : Int) t.Threshold t.Nodes t.Inner = some (c, 0) /\ Lead (nghB t v slot round) (hsh 2 slot round) c
 | 0, i, b, hi, hb, hN, hk => by
  refine ⟨b, y3z _ _ _ _ _ _ _ _ _ (by rw [q01 (by omega)]; rfl), hb, hN, fun k hk1 hk2 => ?_⟩;have : 0 <= k /\ k < 10 := by simpa [inR] using hk1
  exact hk k hk1 (by omega) hk2
 | n + 1, i, b, hi, hb, hNb, hk => by
  have hin : inR (i : Int) = true := by simp [inR]; omega
  have split : ∀ k : Int, k < ((i + 1 : Nat) : Int) -> k < (i : Int) \/ k = (i : Int) := fun k hk => by omega
  have stay := fun hkk => qeg h n (i + 1) b (by omega) hb hNb hkk
  have go := fun hN hkk => qeg h n (i + 1) (i : Int) (by omega) hin hN hkk
  have head : ∀ r, (bif (!nghB t v slot round (i : Int)) then z1g v slot round b (addI .i64 (i : Int) 1) t.Threshold t.Nodes t.Inner else Option.bind (some (hsh 2 slot round (i : Int))) fun x1 => Option.bind (some (hsh 2 slot round b)) fun x2 =>
    bif ltB x2 x1 then z1g v slot round (i : Int) (addI .i64 (i : Int) 1) t.Threshold t.Nodes t.Inner else bif eqB x1 x2 then (bif ltB b (i : Int) then z1g v slot round (i : Int) (addI .i64 (i : Int) 1) t.Threshold t.Nodes t.Inner else z1g v slot round b (addI .i64 (i : Int) 1) t.Threshold t.Nodes t.Inner) else z1g v slot round b (addI .i64 (i : Int) 1) t.Threshold t.Nodes t.Inner) = some r ->
    z1g v slot round b (i : Int) t.Threshold t.Nodes t.Inner = some r := fun r hr => by
   apply y3z;rw [q04 (by omega), cT, Trust.etaM, y6n h hin, bS, qmj, qmj];exact hr
  rw [q00 (by omega)] at head;cases hN : nghB t v slot round (i : Int) with
  | false =>
   obtain ⟨c, h1, h2⟩ := stay fun k hk1 hk2 hk3 => by
    rcases split k hk2 with e | e
    .exact hk k hk1 e hk3
    .subst e; rw [hN] at hk3; cases hk3
   exact ⟨c, head _ (by rw [hN]; exact h1), h2⟩
  | true =>
   simp only [hN, nT, cF, bS] at head;by_cases h1 : hsh 2 slot round b < hsh 2 slot round (i : Int)
   .obtain ⟨c, g1, g2⟩ := go hN fun k hk1 hk2 hk3 => by
     rcases split k hk2 with e | e
     .rcases hk k hk1 e hk3 with g | ⟨g, g'⟩
      .exact .inl (by omega)
      .exact .inl (by omega)
     .subst e; exact .inr ⟨rfl, by omega⟩
    exact ⟨c, head _ (by rw [q04 h1]; exact g1), g2⟩
   .by_cases h2 : hsh 2 slot round (i : Int) = hsh 2 slot round b
    .by_cases h3 : b < (i : Int)
     .obtain ⟨c, g1, g2⟩ := go hN fun k hk1 hk2 hk3 => by
       rcases split k hk2 with e | e
       .rcases hk k hk1 e hk3 with g | ⟨g, g'⟩
        .exact .inl (by omega)
        .exact .inr ⟨by omega, by omega⟩
       .subst e; exact .inr ⟨rfl, by omega⟩
      exact ⟨c, head _ (by rw [q01 (by omega), cF, h2, q3d, cT, q04 h3]; exact g1), g2⟩
     .obtain ⟨c, g1, g2⟩ := stay fun k hk1 hk2 hk3 => by
       rcases split k hk2 with e | e
       .exact hk k hk1 e hk3
       .subst e; exact .inr ⟨h2, by omega⟩
      exact ⟨c, head _ (by rw [q01 (by omega), cF, h2, q3d, cT, q01 (by omega)]; exact g1), g2⟩
    .obtain ⟨c, g1, g2⟩ := stay fun k hk1 hk2 hk3 => by
      rcases split k hk2 with e | e
      .exact hk k hk1 e hk3
      .subst e; exact .inl (by omega)
     exact ⟨c, head _ (by rw [q01 (by omega), cF, q53 h2, cF]; exact g1), g2⟩
theorem qup {t : Trust} {v slot round : Int} (h : AskOk t v slot round) : z4y t v slot round = some (leadR t v slot round, 0) := by
 obtain ⟨c, h1, h2⟩ := qeg h 10 0 v rfl h.node (by simp [nghB]) (fun k hk hk0 => by
  have : 0 <= k /\ k < 10 := by simpa [inR] using hk
  have : k < 0 := hk0;omega)
 apply y7o;rw [qwb h, bS, q15, cF, <- h2.uniq (q4b h.tr slot round h.node).2];exact h1
noncomputable def leadF (t : Trust) (v slot : Int) : Nat -> Nat -> Nat -> Nat
 | 0, _, s => s
 | n + 1, i, s => leadF t v slot n (i + 1) (s ||| bit (leadR t v slot ((i + 1 : Nat) : Int)))
noncomputable def leadS (t : Trust) (v slot rounds : Int) : Nat := leadF t v slot rounds.toNat 0 0
theorem qtn {t : Trust} (ht : valid t = true) {v slot : Int} (hv : inR v = true) : ∀ (n i s : Nat), s < 1024 -> leadF t v slot n i s < 1024
 | 0, _, _s, h => h
 | n + 1, i, _s, h => qtn ht hv n (i + 1) _ (or_lt h (qfp (q4b ht slot _ hv).2.node))
theorem y0z {t : Trust} (ht : valid t = true) {v : Int} (slot rounds : Int) (hv : inR v = true) : leadS t v slot rounds < 1024 := qtn ht hv _ _ _ (by decide)
theorem qu9 {t : Trust} {v slot rounds : Int} (h : AskOk t v slot rounds) : ∀ (n i s : Nat), i + n = rounds.toNat -> s < 1024 -> z2s v slot (s : Int) rounds (i : Int) t.Threshold t.Nodes t.Inner = some (((leadF t v slot n i s : Nat) : Int), 0)
 | 0, i, s, hi, hs => by
  have := h.round;apply y4s;rw [q01 (by omega)]; rfl
 | n + 1, i, s, hi, hs => by
  have hr := h.round;have hc := q4b h.tr slot ((i + 1 : Nat) : Int) h.node;have hn := hc.2.node;have hn' : 0 <= leadR t v slot ((i + 1 : Nat) : Int) := (q3y hn).1;apply y4s;rw [q04 (by omega), cT, Trust.etaM, q00 (by omega), hc.1, bS, q1v hn', shlOr hs hn, qu9 h n (i + 1) _ (by omega) (or_lt hs (qfp hn))];rfl
theorem y1e {t : Trust} {v slot rounds : Int} (h : AskOk t v slot rounds) : z4r t v slot rounds = some (((leadS t v slot rounds : Nat) : Int), 0) := by
 apply y72;rw [y62 h, bS, q15, cF];exact qu9 h rounds.toNat 0 0 (by omega) (by decide)
noncomputable def leadL (t : Trust) (v slot rounds : Int) : List Int := (nodes (leadS t v slot rounds)).map Int.ofNat
theorem qm0 (k : Int) : z3g k = some (inR k) := by
 apply y8c;by_cases h : 0 <= k
 .simp [leB, ltB, inR, h]
 .simp [leB, ltB, inR, h]
theorem qqy {m : Nomination} (h : SmallN m) : z3y m = some (nomB m) := by
 apply yac;rw [qm0, qag _ h.tr, qcy _ (by have := h.votes; omega), qcy _ (by have := h.accs; omega)];simp only [bS, qcx, nomB, leB];cases inR m.Node <;> cases decide (1 <= m.Seq) <;> cases valid m.Trust <;> cases q0y m.Votes <;> rfl
theorem qk5 (m : Nomination) : Nomination.mk m.Node m.Seq (Trust.mk m.Trust.Threshold m.Trust.Nodes m.Trust.Inner) m.Votes m.Accepts = m := by rw [Trust.etaM]
theorem qbk (n : Nominator) : Nominator.mk n.Node n.Slot n.Round n.Seq (Trust.mk n.Trust.Threshold n.Trust.Nodes n.Trust.Inner) n.Own n.Votes n.Accepts n.Candidates n.Heard = n := by rw [Trust.etaM]
theorem qt7 (l : List Val) (n : Nominator) (hl : l.length < 1152921504606846976) (ha : n.Accepts.length < 1000000) : ∀ (suf : List Val) (i : Nat), l.drop i = suf -> ∃ r : Int, z0g l ((l.length : Nat) : Int) (i : Int) n.Node n.Slot n.Round n.Seq n.Trust.Threshold n.Trust.Nodes n.Trust.Inner n.Own n.Votes n.Accepts n.Candidates n.Heard = some (r, n.Node, n.Slot, n.Round, n.Seq, n.Trust.Threshold, n.Trust.Nodes, n.Trust.Inner, n.Own, n.Votes, n.Accepts, n.Candidates, n.Heard) /\ leB 0 r = !(suf.all fun x => decide (x ∈ n.Accepts))
 | [], i, h => by
  refine ⟨-1, qxr _ _ _ _ _ _ _ _ _ _ _ _ _ _ _ _ ?_, by simp [leB]⟩;rw [q0q h]; rfl
 | y :: suf, i, h => by
  have hlt := q0j h;obtain ⟨r, h1, h2⟩ := qt7 l n hl ha suf (i + 1) (q06 h);have hf : z46 y n.Node n.Slot n.Round n.Seq n.Trust.Threshold n.Trust.Nodes n.Trust.Inner n.Own n.Votes n.Accepts n.Candidates n.Heard = some (!decide (y ∈ n.Accepts), n.Node, n.Slot, n.Round, n.Seq, n.Trust.Threshold, n.Trust.Nodes, n.Trust.Inner, n.Own, n.Votes, n.Accepts, n.Candidates, n.Heard) := by
   apply y8x;rw [qgi _ (by omega)]; rfl
  by_cases hy : y ∈ n.Accepts
  .refine ⟨r, qxr _ _ _ _ _ _ _ _ _ _ _ _ _ _ _ _ ?_, by rw [h2]; simp [hy]⟩;rw [q0c h, cT, q08 h, hf, bS, q00 (by omega)];simp only [hy, decide_true, nT, cF];exact h1
  .refine ⟨i, qxr _ _ _ _ _ _ _ _ _ _ _ _ _ _ _ _ ?_, by simp [hy, leB]⟩;rw [q0c h, cT, q08 h, hf, bS];simp only [hy, decide_false, Bool.not_false, cT]
theorem qxw (n : Nominator) (hl : n.Heard.length < 1000000) (hm : ∀ m ∈ n.Heard, SmallN m) : ∀ (suf : List Nomination) (i : Nat) (z : Nomination), n.Heard[i]? = some z -> n.Heard.drop (i + 1) = suf ->
  z1o n.Heard ((n.Heard.length : Nat) : Int) ((i + 1 : Nat) : Int) n.Node n.Slot n.Round n.Seq n.Trust.Threshold n.Trust.Nodes n.Trust.Inner n.Own n.Votes n.Accepts n.Candidates n.Heard = some (q3q n.Node (some z.Node) suf)
 | [], i, z, hz, h => by
  apply qt6;rw [q0q h]; rfl
 | y :: suf, i, z, hz, h => by
  have hlt := q0j h;apply qt6;rw [q0c h, cT, q08 h, qqy (hm y (List.mem_of_mem_drop (i := i + 1) (by rw [h]; simp))), bS, q04 (by omega), cT, q42 (by omega) (by omega), q0z (y := z) (by omega) (by rw [show (((i + 1 : Nat) : Int) - 1).toNat = i by omega]; exact hz), q00 (by omega),
   qxw n hl hm suf (i + 1) y (by have := congrArg (·[0]?) h; simpa using this) (q06 h)]
  rw [q3q, show leB y.Node z.Node = !decide (z.Node < y.Node) by by_cases h2 : z.Node < y.Node <;> simp [leB, h2] <;> omega];simp only [eqB];cases nomB y <;> cases decide (y.Node = n.Node) <;> cases decide (z.Node < y.Node) <;> rfl
theorem y51 (n : Nominator) (hl : n.Heard.length < 1000000) (hm : ∀ m ∈ n.Heard, SmallN m) : z1o n.Heard ((n.Heard.length : Nat) : Int) 0 n.Node n.Slot n.Round n.Seq n.Trust.Threshold n.Trust.Nodes n.Trust.Inner n.Own n.Votes n.Accepts n.Candidates n.Heard = some (q3q n.Node none n.Heard) := by
 cases hh : n.Heard with
 | nil =>
  apply qt6;simp [ltB, q3q]
 | cons y r =>
  have h1 := qxw n hl hm r 0 y (by rw [hh]; rfl) (by rw [hh]; rfl);rw [hh] at h1 hm;apply qt6;rw [q04 (by rw [List.length_cons]; omega), cT, q0z (y := y) (by omega) rfl, qqy (hm y (by simp)), bS, q01 (by omega), cF, show addI .i64 0 1 = ((0 + 1 : Nat) : Int) from rfl, h1, q3q];by_cases h1 : y.Node = n.Node
  all_goals cases nomB y <;> simp [h1, eqB]
theorem y1y (n : Nominator) : z45 n = some (numsN n) := by
 apply y9d;rw [qm0, bS];unfold numsN leB;cases inR n.Node <;> cases decide (0 <= n.Slot) <;> cases decide (n.Slot <= 1000000) <;> cases decide (1 <= n.Round) <;> cases decide (n.Round <= 1000) <;> cases decide (1 <= n.Seq) <;> rfl
theorem qv0 {n : Nominator} (h : SmallR n) : z4o n = some (qkl n) := by
 obtain ⟨h1, h2, h3, h4, h5, h6, h7⟩ := h;apply y9p;obtain ⟨r, g1, g2⟩ := qt7 n.Candidates n (by omega) h4 n.Candidates 0 rfl;have g3 : z1c n.Candidates n.Node n.Slot n.Round n.Seq n.Trust.Threshold n.Trust.Nodes n.Trust.Inner n.Own n.Votes n.Accepts n.Candidates n.Heard = _ := y9v _ _ _ _ _ _ _ _ _ _ _ _ _ _ g1;have g4 : z18 n.Candidates n.Node n.Slot n.Round n.Seq n.Trust.Threshold n.Trust.Nodes n.Trust.Inner n.Own n.Votes n.Accepts n.Candidates n.Heard = some (!(n.Candidates.all fun x => decide (x ∈ n.Accepts)), n.Node, n.Slot, n.Round, n.Seq, n.Trust.Threshold, n.Trust.Nodes, n.Trust.Inner, n.Own, n.Votes, n.Accepts, n.Candidates, n.Heard) := by
  apply y75;rw [g3, bS, g2]
 rw [y1y, qag _ h1, qcy _ (by omega), qcy _ (by omega), qcy _ (by omega), g4];simp only [bS, y51 n h6 h7, qw4];have ho : ltB 200 ((n.Own.length : Nat) : Int) = !decide (n.Own.length <= 200) := by
  unfold ltB; rw [Bool.eq_iff_iff]; simp; omega
 rw [ho];unfold qkl;cases numsN n <;> cases valid n.Trust <;> cases decide (n.Own.length <= 200) <;> cases q0y n.Votes <;> cases q0y n.Accepts <;> cases q0y n.Candidates <;> cases n.Candidates.all (fun x => decide (x ∈ n.Accepts)) <;> rfl
theorem qlf (n : Nominator) : z3v n = some (sayN n) := y7q _ _ (by rw [Trust.etaM]; rfl)
theorem qpo : ∀ t : Trust, Fits t -> z38 t = some t := by
 apply Trust.ind;intro t ih ht;have hsz : size t < 1073741824 := ht;rw [q3i] at hsz;have l1 : ∀ (suf : List Trust) (i : Nat) (acc : List Trust) (a8 : Int) (a10 : List Int) (a12 : List Trust) (a14 : Int) (a16 : List Int) (a18 : List Trust) (a20 : Int) (a22 : List Int), t.Inner.drop i = suf -> acc.length <= i ->
   z2j t.Inner ((t.Inner.length : Nat) : Int) (i : Int) a8 a10 a12 a14 a16 a18 a20 a22 acc = some ⟨a20, a22, acc ++ suf⟩ := by
  intro suf;induction suf with
  | nil =>
   intro i acc a8 a10 a12 a14 a16 a18 a20 a22 h ha;apply y3l;simp only [q0q h, cF, List.append_nil]
  | cons y suf ihs =>
   intro i acc a8 a10 a12 a14 a16 a18 a20 a22 h ha;have hlt := q0j h;have hy : y ∈ t.Inner := List.mem_of_mem_drop (by rw [h]; exact List.mem_cons_self);apply y3l;simp only [q0c h, cT, q08 h, ih y hy (ht.mem hy), bS, q00 (show i < 4611686018427387904 by omega), Trust.etaM];rw [q10 (by simp [q0k]; omega), ihs (i + 1) (acc ++ [y]) _ _ _ _ _ _ _ _ (q06 h) (by simp; omega)];simp
 apply y7z;have h1 : z2x t.Nodes = some ((), t.Nodes) := y73 _ _ (by rw [q10 (by simp [q0k]; omega)]; rfl);rw [h1, bS, show (0 : Int) = ((0 : Nat) : Int) from rfl, l1 t.Inner 0 [] _ _ _ _ _ _ _ _ rfl (Nat.le_refl _)];show some (Trust.mk t.Threshold t.Nodes t.Inner) = some t;rw [Trust.etaM]
theorem qhy {m : Nomination} (ht : Fits m.Trust) (h1 : m.Votes.length < 1000000) (h2 : m.Accepts.length < 1000000) : z23 m = some m := by
 apply y8n;rw [qpo _ ht, bS, q7m _ h1, bS, q7m _ h2, bS, Trust.etaM]
theorem qnx (l : List Nomination) (hl : l.length < 1000000) (hm : ∀ m ∈ l, z23 m = some m) (n sl r s : Int) (t : Int) (ns : List Int) (is : List Trust) (ow : Val) (va aa ca : List Val) (d1 d2 d3 d4 d5 : Int) (d6 : List Int) (d7 : List Trust) (d8 : Val) (d9 d10 d11 : List Val) (d12 : List Nomination) : ∀ (suf : List Nomination) (i : Nat) (acc : List Nomination), l.drop i = suf -> acc.length <= i ->
  z2h l ((l.length : Nat) : Int) (i : Int) n sl r s t ns is ow va aa ca acc d1 d2 d3 d4 d5 d6 d7 d8 d9 d10 d11 d12 = some ⟨n, sl, r, s, ⟨t, ns, is⟩, ow, va, aa, ca, acc ++ suf⟩
 | [], i, acc, h, ha => by
  apply y3x;rw [q0q h, cF, List.append_nil]
 | m :: suf, i, acc, h, ha => by
  have hlt := q0j h;apply y3x;rw [q0c h, cT, q08 h, hm m (List.mem_of_mem_drop (i := i) (by rw [h]; simp)), bS, qk5, q10 (by simp [q0k]; omega), q00 (by omega), qnx l hl hm n sl r s t ns is ow va aa ca d1 d2 d3 d4 d5 d6 d7 d8 d9 d10 d11 d12 suf (i + 1) _ (q06 h) (by simp; omega)];simp
structure FreshN (n : Nominator) : Prop where
 tr : Fits n.Trust
 votes : n.Votes.length < 1000000
 accs : n.Accepts.length < 1000000
 cands : n.Candidates.length < 1000000
 heard : n.Heard.length < 1000000
 msgs : ∀ m ∈ n.Heard, z23 m = some m
theorem qja {n : Nominator} (h : FreshN n) : z1u n = some n := by
 apply y7v;rw [qpo _ h.tr, bS, q7m _ h.votes, bS, q7m _ h.accs, bS, q7m _ h.cands, bS];have := qnx n.Heard h.heard h.msgs n.Node n.Slot n.Round n.Seq n.Trust.Threshold n.Trust.Nodes n.Trust.Inner n.Own n.Votes n.Accepts n.Candidates 0 0 0 0 0 [] [] [] [] [] [] [] n.Heard 0 [] rfl (Nat.le_refl _);refine Eq.trans this ?_;rw [Trust.etaM]; rfl
theorem y1c {m : Nomination} (h : nomB m = true) : z23 m = some m :=
 qhy (q4c (q1z.1 h).2.2.1).1 (q5i h).votes (q5i h).accs
theorem ReadyN.fresh {n : Nominator} (h : ReadyN n) (s : Int) : FreshN { n with Seq := s } :=
 ⟨(q4c h.tr).1, by have := h.vlen; show n.Votes.length < _; omega, by have := h.alen; show n.Accepts.length < _; omega, by have := h.clen; show n.Candidates.length < _; omega, by have := h.hlen; show n.Heard.length < _; omega, fun m hm => y1c (h.msg m hm).1⟩
theorem qod {n : Nominator} (h : ReadyN n) (a34 : List Member) : ∀ (suf : List Nomination) (i : Nat) (acc : List Message), n.Heard.drop i = suf -> acc = (n.Heard.take i).map msgOf ->
  z2r acc n.Heard ((n.Heard.length : Nat) : Int) (i : Int) n.Node n.Slot n.Round n.Seq n.Trust.Threshold n.Trust.Nodes n.Trust.Inner n.Own n.Votes n.Accepts n.Candidates n.Heard a34 = some (viewN n)
 | [], i, acc, g, ha => by
  have hh := h.hlen;have hi : n.Heard.take i = n.Heard := List.take_of_length_le (List.drop_eq_nil_iff.1 g);rw [hi] at ha;apply y2v;rw [q0q g, cF, Trust.etaM, ha, y04 h.node h.tr _ (by simp; omega) h.msgs];rfl
 | m :: suf, i, acc, g, ha => by
  have hlt := q0j g;have hh := h.hlen;apply y2v;rw [q0c g, cT, q08 g, Trust.etaM, q10 (by rw [ha]; simp [q0k]; omega), q00 (by omega)];refine qod h a34 suf (i + 1) _ (q06 g) ?_;rw [ha, List.take_add_one];have : n.Heard[i]? = some m := by have := congrArg (·[0]?) g; simpa using this
  simp [this, msgOf]
theorem qno {n : Nominator} (h : ReadyN n) : z49 n = some (viewN n) := yaw _ _ (qod h [] n.Heard 0 [] rfl rfl)
theorem q64 (l : List Nomination) (hl : l.length < 1000000) (hm : ∀ m ∈ l, nomB m = true) (x : Val) : ∀ (suf : List Nomination) (i s t : Nat), l.drop i = suf -> s < 1024 -> t < 1024 ->
  z1r x (s : Int) (t : Int) l ((l.length : Nat) : Int) (i : Int) = some (((whoN (fun m => decide (x ∈ m.Votes)) s suf : Nat) : Int), ((whoN (fun m => decide (x ∈ m.Accepts)) t suf : Nat) : Int))
 | [], i, s, t, h, _, _ => by
  apply y49;rw [q0q h]; rfl
 | m :: suf, i, s, t, h, hs, ht => by
  have hlt := q0j h;have hb := hm m (List.mem_of_mem_drop (i := i) (by rw [h]; simp));have hsm := q5i hb;have hn := (q1z.1 hb).1;have h0 := (q3y hn).1;apply y49;rw [q0c h, cT, q08 h, qgi _ (by have := hsm.votes; omega), bS, qgi _ (by have := hsm.accs; omega), bS, q00 (by omega), qd2, qd2];have hs' := or_lt hs (qfp hn);have ht' := or_lt ht (qfp hn);rw [shlOr hs hn, shlOr ht hn];by_cases h1 : x ∈ m.Votes <;> by_cases h2 : x ∈ m.Accepts
  .simp only [h1, h2, decide_true, cT, if_true];rw [q1v h0, q1v h0]; exact q64 l hl hm x suf (i + 1) _ _ (q06 h) hs' ht'
  .simp only [h1, h2, decide_true, decide_false, cT, cF, if_true, fT, if_false];rw [q1v h0]; exact q64 l hl hm x suf (i + 1) _ _ (q06 h) hs' ht
  .simp only [h1, h2, decide_true, decide_false, cT, cF, if_true, fT, if_false];rw [q1v h0]; exact q64 l hl hm x suf (i + 1) _ _ (q06 h) hs ht'
  .simp only [h1, h2, decide_false, cF, fT, if_false];exact q64 l hl hm x suf (i + 1) _ _ (q06 h) hs ht
theorem qih {l : List Nomination} (hl : l.length < 1000000) (hm : ∀ m ∈ l, nomB m = true) (x : Val) : z3p l x = some (((q6l l x : Nat) : Int), ((accsN l x : Nat) : Int)) :=
 y8u _ _ _ (q64 l hl hm x l 0 0 0 rfl (by decide) (by decide))
def nextR : Option Val -> Val × Bool
 | some x => (x, true)
 | none => ([], false)
theorem qu4 (l : List Val) : (setV l).length <= l.length := q58 (qef qgw) fun _x hx => q2a.1 hx
theorem qks : ∀ (l : List Nomination), (∀ m ∈ l, nomB m = true) -> (q3u l).length <= 80 * l.length
 | [], _ => by simp [q3u]
 | m :: l, h => by
  have ih := qks l fun k hk => h k (by simp [hk])
  obtain ⟨_, _, _, h1, h2⟩ := q1z.1 (h m (by simp));have h1 := (q0i.1 h1).2.2;have h2 := (q0i.1 h2).2.2;have : q3u (m :: l) = (m.Votes ++ m.Accepts) ++ q3u l := by simp [q3u]
  rw [this]; simp; omega
theorem qpq {n : Nominator} (h : ReadyN n) (l : List Val) (hl : l.length < 1000000) : ∀ (suf : List Val) (i : Nat), l.drop i = suf ->
  z24 (allN n) l ((l.length : Nat) : Int) (i : Int) n.Node n.Slot n.Round n.Seq n.Trust.Threshold n.Trust.Nodes n.Trust.Inner n.Own n.Votes n.Accepts n.Candidates n.Heard (viewN n).Members = some (nextR (suf.find? (canN n)))
 | [], i, g => by
  apply y4m;rw [q0q g]; rfl
 | y :: suf, i, g => by
  have hlt := q0j g;have hlen := h.len;have halen := h.alen;have ih := qpq h l hl suf (i + 1) (q06 g);obtain ⟨n1, n2⟩ := h.node';have hacc : z3q ⟨(viewN n).Members⟩ n.Node ((q6l (allN n) y : Nat) : Int) ((accsN (allN n) y : Nat) : Int) = some (accB (viewN n) n.Node.toNat (q6l (allN n) y) (accsN (allN n) y)) := by
   have := y19 h.view (qp7 h.all y) (qa9 h.all y) n1;rw [n2] at this; exact this
  apply y4m;rw [q0c g, cT, q08 g, qih (by omega) h.all, bS, qgi _ (by omega), bS, hacc, bS, q00 (by omega), ih, List.find?_cons];have h40 : ltB ((n.Accepts.length : Nat) : Int) 40 = decide (n.Accepts.length < 40) := by
   unfold ltB;by_cases e : n.Accepts.length < 40
   .have : ((n.Accepts.length : Nat) : Int) < 40 := by omega
    simp [e, this]
   .have : ¬ ((n.Accepts.length : Nat) : Int) < 40 := by omega
    simp [e, this]
  rw [h40];simp only [canN];cases decide (y ∈ n.Accepts) <;> cases decide (n.Accepts.length < 40) <;> cases accB (viewN n) n.Node.toNat (q6l (allN n) y) (accsN (allN n) y) <;> rfl
theorem qi5 {n : Nominator} (h : ReadyN n) : z33 n (viewN n) = some (nextR (nextN n)) := by
 apply y9j;have hh := h.hlen;have hlen := h.len;rw [qha _ (by omega), bS, qlf, bS, qk5, q10 (by simp [q0k]; omega)];have : z3w (n.Heard ++ [sayN n]) = _ := qu2 hlen h.all;rw [this, bS];have h1 := qu4 (q3u (allN n));have h2 := qks _ h.all;exact qpq h (qba n) (by show (setV (q3u (allN n))).length < _; omega) (qba n) 0 rfl
theorem vals1 (m : Nomination) : q3u [m] = m.Votes ++ m.Accepts := by simp [q3u]
theorem qxd {n : Nominator} (h : ReadyN n) (L : List Int) (r : List Val) (u k : Nat) (m : Nomination) (a3 : Int) (l : List Val) (hl : l.length < 1000000) (hv : ∀ x ∈ l, vvl x = true) (hk : k < n.Heard.length) : ∀ (suf : List Val) (i : Nat) (V : List Val), l.drop i = suf -> q0y V = true ->
  z21 (q7d V suf) a3 L ((L.length : Nat) : Int) (u : Int) n.Heard ((n.Heard.length : Nat) : Int) ((k + 1 : Nat) : Int) n.Node n.Slot n.Round n.Seq n.Trust.Threshold n.Trust.Nodes n.Trust.Inner n.Own n.Votes n.Accepts n.Candidates n.Heard = some r ->
  z2k V a3 L ((L.length : Nat) : Int) (u : Int) n.Heard ((n.Heard.length : Nat) : Int) (k : Int) l ((l.length : Nat) : Int) (i : Int) n.Node n.Slot n.Round n.Seq n.Trust.Threshold n.Trust.Nodes n.Trust.Inner n.Own n.Votes n.Accepts n.Candidates n.Heard m.Node m.Seq m.Trust.Threshold m.Trust.Nodes m.Trust.Inner m.Votes m.Accepts = some r
 | [], i, V, g, hV, hr => by
  have hh := h.hlen;apply y2z;rw [q0q g, cF, q00 (by omega)]; exact hr
 | y :: suf, i, V, g, hV, hr => by
  have hlt := q0j g;apply y2z;rw [q0c g, cT, q08 g, qge hV, bS, q00 (by omega)];exact qxd h L r u k m a3 l hl hv hk suf (i + 1) _ (q06 g) (q4d hV (hv y (List.mem_of_mem_drop (i := i) (by rw [g]; simp)))) hr
def foldH (u : Int) (V : List Val) (l : List Nomination) : List Val := l.foldl (fun V m => if m.Node = u then q7d V (setV (m.Votes ++ m.Accepts)) else V) V
theorem qr9 {n : Nominator} (h : ReadyN n) (L : List Int) (hL : L.length < 1000000) (r : List Val) (u : Nat) (hu : u < L.length) (a3 : Int) : ∀ (suf : List Nomination) (k : Nat) (V : List Val), n.Heard.drop k = suf -> q0y V = true ->
  z1t (foldH a3 V suf) L ((L.length : Nat) : Int) ((u + 1 : Nat) : Int) n.Node n.Slot n.Round n.Seq n.Trust.Threshold n.Trust.Nodes n.Trust.Inner n.Own n.Votes n.Accepts n.Candidates n.Heard = some r ->
  z21 V a3 L ((L.length : Nat) : Int) (u : Int) n.Heard ((n.Heard.length : Nat) : Int) (k : Int) n.Node n.Slot n.Round n.Seq n.Trust.Threshold n.Trust.Nodes n.Trust.Inner n.Own n.Votes n.Accepts n.Candidates n.Heard = some r
 | [], k, V, g, hV, hr => by
  apply y4o;rw [q0q g, cF, q00 (by omega)]; exact hr
 | m :: suf, k, V, g, hV, hr => by
  have hlt := q0j g;have hh := h.hlen;have hm := (h.msg m (List.mem_of_mem_drop (i := k) (by rw [g]; simp))).1;apply y4o;rw [q0c g, cT, q08 g, qk5];by_cases e : m.Node = a3
  .rw [e, q15, cF, qu2 (l := [m]) (by simp) (by simpa using hm), bS, vals1];have hs : ∀ x ∈ setV (m.Votes ++ m.Accepts), vvl x = true := fun x hx => qgl hm x (q2a.1 hx)
   have hl2 := qu4 (m.Votes ++ m.Accepts);have hsm := q5i hm;have h1 := hsm.votes;have h2 := hsm.accs;obtain ⟨_, _, _, q1, q2⟩ := q1z.1 hm;have q1 := (q0i.1 q1).2.2;have q2 := (q0i.1 q2).2.2;have h3 : (setV (m.Votes ++ m.Accepts)).length < 1000000 := by simp at hl2; omega
   have := qxd h L r u k m a3 _ h3 hs hlt _ 0 V rfl hV (qr9 h L hL r u hu a3 suf (k + 1) _ (q06 g) (q68 hV hs) (by
    have e2 : foldH a3 V (m :: suf) = foldH a3 (q7d V (setV (m.Votes ++ m.Accepts))) suf := by show foldH a3 (if m.Node = a3 then _ else _) suf = _; rw [if_pos e]
    rw [e2] at hr; exact hr))
   rw [e] at this;exact this
  .rw [q3n e, cT, q00 (by omega)];refine qr9 h L hL r u hu a3 suf (k + 1) _ (q06 g) hV ?_;have e2 : foldH a3 V (m :: suf) = foldH a3 V suf := by show foldH a3 (if m.Node = a3 then _ else _) suf = _; rw [if_neg e]
   rw [e2] at hr; exact hr
theorem qwd {n : Nominator} (h : ReadyN n) (L : List Int) (hL : L.length < 1000000) : ∀ (suf : List Int) (u : Nat) (V : List Val), L.drop u = suf -> q0y V = true ->
  z1t V L ((L.length : Nat) : Int) (u : Int) n.Node n.Slot n.Round n.Seq n.Trust.Threshold n.Trust.Nodes n.Trust.Inner n.Own n.Votes n.Accepts n.Candidates n.Heard = some (suf.foldl (leadV n) V)
 | [], u, V, g, hV => by
  apply y44;rw [q0q g]; rfl
 | y :: suf, u, V, g, hV => by
  have hlt := q0j g;have hV' := qib h (u := y) hV;have ih := qwd h L hL suf (u + 1) (leadV n V y) (q06 g) hV';apply y44;rw [q0c g, cT, q08 g, List.foldl_cons];by_cases e : y = n.Node
  .rw [e, q3d, cT];rw [e] at ih;unfold leadV at ih ⊢;simp only [if_true] at ih ⊢;by_cases ho : n.Own = []
   .rw [if_pos ho] at ih ⊢;rw [show eqS n.Own [] = true by simp [eqS, ho], nT, cF, q00 (by omega)]; exact ih
   .rw [if_neg ho] at ih ⊢;rw [show eqS n.Own [] = false by simp [eqS, ho], Bool.not_false, cT, qge hV, bS, q00 (by omega)]; exact ih
  .rw [q53 e, cF];refine qr9 h L hL _ u hlt y n.Heard 0 V rfl hV ?_;have e2 : foldH y V n.Heard = leadV n V y := by unfold leadV foldH; rw [if_neg e]
   rw [e2]; exact ih
theorem ReadyN.ask {n : Nominator} (h : ReadyN n) : AskOk n.Trust n.Node n.Slot n.Round := ⟨h.tr, h.node, h.slot, h.round⟩
noncomputable def leadN (n : Nominator) : List Int := leadL n.Trust n.Node n.Slot n.Round
theorem qy7 {n : Nominator} (_h : ReadyN n) : (leadN n).length < 1000000 := by
 have := qob (leadS n.Trust n.Node n.Slot n.Round);simp [leadN, leadL]; omega
theorem qxf {n : Nominator} (h : ReadyN n) : z4n n = some (qd7 (leadN n) n) := by
 apply yag;rw [y1e h.ask, bS, qo5 (y0z h.tr n.Slot n.Round h.node), bS];exact qwd h (leadN n) (qy7 h) (leadN n) 0 n.Votes rfl h.votes
theorem qmk {n : Nominator} (h : ReadyN n) (l : List Val) (hl : l.length <= 40) (hv : ∀ x ∈ l, vvl x = true) (d1 d2 d3 d4 d5 : Int) (d6 : List Int) (d7 : List Trust) (d8 : Val) (d9 d10 d11 : List Val) (d12 : List Nomination) : ∀ (suf : List Val) (i : Nat) (C : List Val), l.drop i = suf -> q0y C = true ->
  z22 (allN n) l ((l.length : Nat) : Int) (i : Int) n.Node n.Slot n.Round n.Seq n.Trust.Threshold n.Trust.Nodes n.Trust.Inner n.Own n.Votes n.Accepts C n.Heard d1 d2 d3 d4 d5 d6 d7 d8 d9 d10 d11 d12 (viewN n).Members = some { n with Candidates := candN n C suf }
 | [], i, C, g, hC => by
  apply y3a;rw [q0q g, cF, Trust.etaM]; rfl
 | y :: suf, i, C, g, hC => by
  have hlt := q0j g;have hlen := h.len;have hy := hv y (List.mem_of_mem_drop (i := i) (by rw [g]; simp));obtain ⟨n1, n2⟩ := h.node';have hacc : z3c ⟨(viewN n).Members⟩ n.Node ((accsN (allN n) y : Nat) : Int) = some (confB (viewN n) n.Node.toNat (accsN (allN n) y)) := by
   have := y0o h.view (qa9 h.all y) n1;rw [n2] at this; exact this
  apply y3a;rw [q0c g, cT, q08 g, qih (by omega) h.all, bS, hacc, bS, qge hC, bS, q00 (by omega)];show _ = some { n with Candidates := candN n (if confB (viewN n) n.Node.toNat (accsN (allN n) y) then putV C y else C) suf };cases hc : confB (viewN n) n.Node.toNat (accsN (allN n) y) with
  | true =>
   rw [cT, if_pos rfl];exact qmk h l hl hv d1 d2 d3 d4 d5 d6 d7 d8 d9 d10 d11 d12 suf (i + 1) _ (q06 g) (q4d hC hy)
  | false =>
   rw [cF, if_neg (by simp)];exact qmk h l hl hv d1 d2 d3 d4 d5 d6 d7 d8 d9 d10 d11 d12 suf (i + 1) _ (q06 g) hC
theorem qsz (d1 d2 d3 d4 d5 : Int) (d6 : List Int) (d7 : List Trust) (d8 : Val) (d9 d10 d11 : List Val) (d12 : List Nomination) : ∀ (k : Nat) (n : Nominator), ReadyN n -> 40 - n.Accepts.length < k ->
  z2a (nextR (nextN n)).1 (nextR (nextN n)).2 n.Node n.Slot n.Round n.Seq n.Trust.Threshold n.Trust.Nodes n.Trust.Inner n.Own n.Votes n.Accepts n.Candidates n.Heard d1 d2 d3 d4 d5 d6 d7 d8 d9 d10 d11 d12 (viewN n).Members = some (qhh (q2s k n))
 | 0, n, h, hk => by omega
 | k + 1, n, h, hk => by
  rw [q2s];apply y6t;cases hx : nextN n with
  | none =>
   have hh := h.hlen;simp only [nextR, cF];rw [qha _ (by omega), bS, qbk, qlf, bS, qk5, q10 (by simp [q0k]; omega)];exact qmk h n.Accepts h.alen h.avv d1 d2 d3 d4 d5 d6 d7 d8 d9 d10 d11 d12 n.Accepts 0 n.Candidates rfl h.cands
  | some x =>
   obtain ⟨h1, h2, h3, _⟩ := qad hx;have hv := qpz h h1;have hr := h.withA hv;have hl := qt3 h3 h2;simp only [nextR, cT];rw [qge h.accs, bS];have hw : Nominator.mk n.Node n.Slot n.Round n.Seq (Trust.mk n.Trust.Threshold n.Trust.Nodes n.Trust.Inner) n.Own n.Votes (putV n.Accepts x) n.Candidates n.Heard = qcj n x := by rw [Trust.etaM]; rfl
   rw [hw];have hn' : z33 (qcj n x) ⟨(viewN n).Members⟩ = _ := qi5 hr;rw [hn', bS];exact qsz d1 d2 d3 d4 d5 d6 d7 d8 d9 d10 d11 d12 k (qcj n x) hr (by show 40 - (putV n.Accepts x).length < k; omega)
theorem qtv {n : Nominator} (h : ReadyN n) : z2n n = some (q0m (leadN n) n) := by
 apply yap;have hl := h.listen (leadN n);have go := fun d1 d2 d3 d4 d5 d6 d7 d8 d9 d10 d11 d12 => qsz d1 d2 d3 d4 d5 d6 d7 d8 d9 d10 d11 d12 60 _ hl (by omega)
 unfold q0m;by_cases e : n.Candidates = []
 .have e0 : eqB ((n.Candidates.length : Nat) : Int) 0 = true := by simp [eqB, e]
  rw [e0, cT, qxf h, bS];have hw : q0n (leadN n) n = { n with Votes := qd7 (leadN n) n } := by rw [q0n, if_pos e]
  have hm : Nominator.mk n.Node n.Slot n.Round n.Seq (Trust.mk n.Trust.Threshold n.Trust.Nodes n.Trust.Inner) n.Own (qd7 (leadN n) n) n.Accepts n.Candidates n.Heard = { n with Votes := qd7 (leadN n) n } := by rw [Trust.etaM]
  rw [hw] at go hl ⊢;rw [hm, qno hl, bS, qi5 hl, bS];exact go 0 0 0 0 0 [] [] [] [] [] [] []
 .have e0 : eqB ((n.Candidates.length : Nat) : Int) 0 = false := by
   have : n.Candidates.length ≠ 0 := fun e' => e (List.length_eq_zero_iff.1 e')
   unfold eqB; rw [decide_eq_false]; omega
  have hw : q0n (leadN n) n = n := by rw [q0n, if_neg e]
  rw [hw] at go;rw [e0, cF, qno h, bS, qi5 h, bS, hw];exact go 0 0 0 0 0 [] [] [] [] [] [] []
theorem qp1 (l k : List Val) (hl : l.length < 1152921504606846976) (hk : l.length = k.length) : ∀ (suf suk : List Val) (i : Nat), l.drop i = suf -> k.drop i = suk -> z1i l k ((l.length : Nat) : Int) (i : Int) = some (decide (suf = suk))
 | [], suk, i, h, h' => by
  have : suk = [] := by rw [<- h', List.drop_eq_nil_iff, <- hk]; exact List.drop_eq_nil_iff.1 h
  subst this;apply y4b;rw [q0q h]; simp
 | y :: suf, [], i, h, h' => by
  have := q0j h;have := List.drop_eq_nil_iff.1 h';omega
 | y :: suf, z :: suk, i, h, h' => by
  have hlt := q0j h;apply y4b;rw [q0c h, cT, q08 h, q08 h', q00 (by omega), qp1 l k hl hk suf suk (i + 1) (q06 h) (q06 h')];by_cases hx : y = z
  .subst hx; simp [eqS]
  .simp [eqS, hx]
theorem qnt (l k : List Val) (hl : l.length < 1152921504606846976) : z1w l k = some (decide (l = k)) := by
 apply y9s;by_cases hk : l.length = k.length
 .rw [hk, q15, cF, <- hk];exact qp1 l k hl hk l k 0 rfl rfl
 .rw [q3n (by omega), cT];have : l ≠ k := fun e => hk (by rw [e])
  simp [this]
theorem qxa {b n : Nominator} (hb : ReadyN b) (h : ReadyN n) : z2g b n = some (turnN b (q0m (leadN n) n)) := by
 have hs := h.settle (leadN n);generalize hw : q0m (leadN n) n = w at hs;have h1 := hb.vlen;have h2 := hb.alen;have hq := hs.seq;have f0 : z1u w = some w := qja (hs.fresh w.Seq);have f1 : z1u { w with Seq := w.Seq + 1 } = some { w with Seq := w.Seq + 1 } := qja (hs.fresh _);have e0 : Nominator.mk w.Node w.Slot w.Round (addI .i64 w.Seq 1) (Trust.mk w.Trust.Threshold w.Trust.Nodes w.Trust.Inner) w.Own w.Votes w.Accepts w.Candidates w.Heard = { w with Seq := w.Seq + 1 } := by rw [Trust.etaM, q3v (by omega) (by omega)]
 apply y9x;rw [qtv h, hw, bS, y2o _ (q25 hb.tr), bS, qnt _ _ (by omega), bS, qnt _ _ (by omega), bS, e0, f1, bS, f0, bS, qbk, qbk, turnN];by_cases e1 : b.Trust = w.Trust <;> by_cases e2 : b.Votes = w.Votes <;> by_cases e3 : b.Accepts = w.Accepts <;> simp [e1, e2, e3]
def newN (k slot : Int) (t : Trust) (own : Val) : Nominator := ⟨k, slot, 1, 1, t, own, [], [], [], []⟩
noncomputable def qn9 (k slot : Int) (t : Trust) (own : Val) : Nominator × Int :=
 if inR k = false then (qfx, 5) else if slot < 0 \/ 1000000 < slot then (qfx, 1) else if verr t ≠ 0 then (qfx, verr t) else if 200 < own.length then (qfx, 3)
 else (q0m (leadN (newN k slot t own)) (newN k slot t own), 0)
theorem ql9 {k slot : Int} {t : Trust} {own : Val} (hk : inR k = true) (hs : 0 <= slot /\ slot <= 1000000) (ht : valid t = true) (ho : own.length <= 200) : ReadyN (newN k slot t own) :=
 ⟨hk, hs, by simp [newN], by simp [newN], ht, ho, rfl, rfl, rfl, fun x hx => by simp [newN] at hx, rfl⟩
theorem qke (k slot : Int) {t : Trust} (ht : Small t) (own : Val) (hown : own.length < 1000000) : z25 k slot t own = some (qn9 k slot t own) := by
 apply y7r;rw [qm0, bS, qag _ ht, bS, qn9];cases hk : inR k with
 | false => rfl
 | true =>
  simp only [nT, cF, Bool.true_eq_false, if_false];by_cases h1 : slot < 0
  .rw [q04 h1, cT, if_pos (.inl h1)]; rfl
  .by_cases h2 : 1000000 < slot
   .rw [q01 (by omega), cF, q04 h2, cT, if_pos (.inr h2)]; rfl
   .rw [q01 (by omega), cF, q01 (by omega), cF, if_neg (by omega)];by_cases h3 : verr t = 0
    .have hv := (q5l t).1 h3;rw [h3, q15, cF, if_neg (by simp)];by_cases h4 : 200 < own.length
     .rw [q04 (by omega), cT, if_pos h4]; rfl
     .rw [q01 (by omega), cF, if_neg h4, Trust.etaM];have hr := ql9 hk (slot := slot) (by omega) hv (show own.length <= 200 by omega);have hs := qtv hr;have hw := hr.settle (leadN (newN k slot t own));have hf := qja (hw.fresh (q0m (leadN (newN k slot t own)) (newN k slot t own)).Seq);have hs' : z2n ⟨k, slot, 1, 1, t, own, [], [], [], []⟩ = _ := hs;have hf' : z1u (q0m (leadN (newN k slot t own)) (newN k slot t own)) = _ := hf;rw [hs', bS, hf', bS];rw [Trust.etaM]
    .rw [q3n h3, cT, if_pos h3]; rfl
noncomputable def turned (n u : Nominator) : Nominator := turnN n (q0m (leadN u) u)
noncomputable def hearN (n : Nominator) (m : Nomination) : Nominator × Int :=
 if qkl n = false \/ nomB m = false \/ m.Node = n.Node then (qfx, 1) else if oldN n.Heard m = true then (qfx, 9) else (turned n { n with Heard := q19 m n.Heard }, 0)
theorem qpk (x : Nomination) (k : Int) : z3r x k = some (if x.Node < k then -1 else if k < x.Node then 1 else 0) := y94 _ _ _ (by rw [qcf]; rfl)
theorem qrb {l : List Nomination} (hl : l.length <= 10) (hp : l.Pairwise (fun a b => a.Node < b.Node)) (k : Int) : ∀ (n i j : Nat), j - i <= n -> i <= posN k l -> posN k l <= j -> j <= l.length ->
  z0f l k ((l.length : Nat) : Int) (i : Int) (j : Int) = some (((posN k l : Nat) : Int), q72 k l)
 | n, i, j, hn, hi, hj, hjl => by
  apply y82;by_cases hij : i < j
  .obtain ⟨n, rfl⟩ : ∃ m, n = m + 1 := ⟨n - 1, by omega⟩;have hmid := qxv ⟨i, by omega⟩ ⟨j, by omega⟩
   dsimp only at hmid
   have hml : (i + j) / 2 < l.length := by omega
   have hg : l[(i + j) / 2]? = some l[(i + j) / 2] := by simp [hml]
   have hpl := qeu (k := k) hp _ _ hg;rw [q04 (by omega), cT, hmid, q0z (by omega) (by rw [tN]; exact hg), qpk, bS];by_cases h1 : l[(i + j) / 2].Node < k
   .rw [if_pos h1, q04 (by decide), cT, q00 (by omega)];exact qrb hl hp k n ((i + j) / 2 + 1) j (by omega) (by have := hpl.1 h1; omega) hj hjl
   .rw [if_neg h1, q01 (by split <;> decide), cF];exact qrb hl hp k n i ((i + j) / 2) (by omega) hi (by have : ¬ (i + j) / 2 < posN k l := fun h => h1 (hpl.2 h); omega) (by omega)
  .have hij' : i = posN k l := by omega
   subst hij';rw [q01 (by omega), cF];unfold q72;by_cases he : posN k l < l.length
   .have hg : l[posN k l]? = some l[posN k l] := List.getElem?_eq_getElem he;have hpl := qeu (k := k) hp _ _ hg;have h1 : ¬ l[posN k l].Node < k := by rw [hpl]; omega
    rw [q04 (by omega), cT, q0z (by omega) (by rw [tN]; exact hg), qpk, bS, hg, if_neg h1];by_cases h2 : k < l[posN k l].Node
    .have : ¬ l[posN k l].Node = k := by omega
     simp [h2, this, eqB]
    .have : l[posN k l].Node = k := by omega
     simp [this, eqB]
   .rw [q01 (by omega), cF, List.getElem?_eq_none (by omega)]
theorem y63 {l : List Nomination} (hl : l.length <= 10) (hp : l.Pairwise (fun a b => a.Node < b.Node)) (k : Int) : z14 l k = some (((posN k l : Nat) : Int), q72 k l) := by
 apply ya0;exact qrb hl hp k l.length 0 l.length (by omega) (by omega) (qs4 k l) (Nat.le_refl _)
theorem qza (l : List Nomination) : (l.map q0t).all (q6b 7) = true := by
 rw [List.all_eq_true]; intro x hx; obtain ⟨y, _, rfl⟩ := List.mem_map.1 hx; rfl
theorem qs8 (l : List Nomination) (hl : l.length < 1000000) (m : Nomination) (i : Nat) (hi : i <= l.length) : z3j (i : Int) [m] l = some (l.take i ++ m :: l.drop i, ()) := by
 refine qig (T := tn) (m := q2p 7) sigOk (by kernel_rfl) rfl ?_;show libA (q2p 7) [.ref 0, .d (.v (.int .i64 i)), .d (.list [q0t m])] [[.own (l.map q0t) false]] = some (.d (.list ((l.take i ++ m :: l.drop i).map q0t)), [[.undef]]);unfold libA q2p;have h1 : (i : Int) <= ((l.map q0t).length : Int) := by simp; omega
 have h2 : (l.map q0t).length < q0k := by simp [q0k]; omega
 have h3 : q6b 7 (q0t m) = true := rfl;simp only [Int.natCast_nonneg, h1, h2, h3, qza, and_self, if_true, tN];simp only [List.map_append, List.map_cons, List.map_take, List.map_drop];rfl
theorem qyc {n : Nominator} (hs : SmallR n) {m : Nomination} (hm : SmallN m) : z4s n m = some (hearN n m) := by
 apply yai;rw [qv0 hs, bS, qqy hm, bS, hearN];cases hv : qkl n with
 | false => rfl
 | true =>
  cases hx : nomB m with
  | false => rfl
  | true =>
   have h := qel.1 hv;simp only [nT, cF, Bool.true_eq_false, false_or];by_cases hn : m.Node = n.Node
   .rw [if_pos hn, hn, q3d]; rfl
   .rw [if_neg hn, q53 hn, cF];have hp := h.asc;have hh := h.hlen;rw [y63 hh hp, bS, qha _ (by omega)];have hpl := qs4 m.Node n.Heard;have hw : ∀ H, Nominator.mk n.Node n.Slot n.Round n.Seq (Trust.mk n.Trust.Threshold n.Trust.Nodes n.Trust.Inner) n.Own n.Votes n.Accepts n.Candidates H = { n with Heard := H } := fun H => by rw [Trust.etaM]
    have ht := qxa h (h.withH hx hn);rw [qil] at ht ⊢;simp only [bS, qk5];cases hf : q72 m.Node n.Heard with
    | true =>
     rw [hf, if_pos rfl] at ht;unfold q72 at hf;cases hg : n.Heard[posN m.Node n.Heard]? with
     | none => rw [hg] at hf; cases hf
     | some y =>
      rw [hg] at hf;have hy : y.Node = m.Node := by simpa using hf
      have hold : oldN n.Heard m = (decide (y.Node = m.Node) && decide (m.Seq <= y.Seq)) := by rw [qkf hp, hg]
      simp only [cT, if_true];rw [hold, q0z (by omega) (by rw [tN]; exact hg), q0z (by omega) (by rw [tN]; exact hg), q8j (by rw [tN]; exact hg), tN, hw, ht, bS, qbk];by_cases hq : m.Seq <= y.Seq <;> simp [leB, hy, hq] <;> rfl
    | false =>
     rw [hf, if_neg (by simp)] at ht;unfold q72 at hf;have hold : oldN n.Heard m = false := by
      rw [qkf hp];cases hg : n.Heard[posN m.Node n.Heard]? with
      | none => rfl
      | some y => rw [hg] at hf; simp only at hf; simp [hf]
     simp only [cF, hold, fT, if_false];rw [qs8 _ (by omega) m _ hpl, bS, hw, ht, bS, qbk];rfl
theorem qx8 {n : Nominator} (ht : Fits n.Trust) (h1 : n.Votes.length < 1000000) (h2 : n.Accepts.length < 1000000) : z4j n = some (sayN n) := by
 apply y85;rw [qlf, bS, qhy (m := sayN n) ht h1 h2, bS, qk5]
noncomputable def nomEq (a b : Nomination) : Bool := decide (a.Node = b.Node) && (decide (a.Seq = b.Seq) && (decide (a.Trust = b.Trust) && (decide (a.Votes = b.Votes) && decide (a.Accepts = b.Accepts))))
theorem qnm {a b : Nomination} : nomEq a b = true ↔ a = b := by
 cases a; cases b; simp [nomEq]
noncomputable def q8r : List Nomination -> List Nomination -> Bool
 | [], [] => true
 | a :: l, b :: k => nomEq a b && q8r l k
 | _, _ => false
theorem qau : ∀ {l k : List Nomination}, q8r l k = true ↔ l = k
 | [], [] => by simp [q8r]
 | [], _ :: _ => by simp [q8r]
 | _ :: _, [] => by simp [q8r]
 | a :: l, b :: k => by rw [q8r, aT, qnm, qau]; simp
noncomputable def sameN (a b : Nominator) : Bool := nomEq (sayN a) (sayN b) && (decide (a.Slot = b.Slot) && (decide (a.Round = b.Round) && (decide (a.Own = b.Own) && (decide (a.Candidates = b.Candidates) && q8r a.Heard b.Heard))))
theorem qo8 {a b : Nominator} : sameN a b = true ↔ a = b := by
 simp only [sameN, aT, dT', qnm, qau];constructor
 .rintro ⟨h1, h2, h3, h4, h5, h6⟩;cases a; cases b;simp only [sayN, Nomination.mk.injEq] at *;obtain ⟨rfl, rfl, rfl, rfl, rfl⟩ := h1;subst h2; subst h3; subst h4; subst h5; subst h6; rfl
 .rintro rfl; exact ⟨rfl, rfl, rfl, rfl, rfl, rfl⟩
theorem qns (l k : List Val) (hl : l.length < 1152921504606846976) (hk : l.length = k.length) : ∀ (suf suk : List Val) (i : Nat), l.drop i = suf -> k.drop i = suk -> z4d l k ((l.length : Nat) : Int) (i : Int) = some (decide (suf = suk))
 | [], suk, i, h, h' => by
  have : suk = [] := by rw [<- h', List.drop_eq_nil_iff, <- hk]; exact List.drop_eq_nil_iff.1 h
  subst this;apply y3u;rw [q0q h]; simp
 | y :: suf, [], i, h, h' => by
  have := q0j h;have := List.drop_eq_nil_iff.1 h';omega
 | y :: suf, z :: suk, i, h, h' => by
  have hlt := q0j h;apply y3u;rw [q0c h, cT, q08 h, q08 h', q00 (by omega), qns l k hl hk suf suk (i + 1) (q06 h) (q06 h')];by_cases hx : y = z
  .subst hx; simp [eqS]
  .simp [eqS, hx]
theorem q4t (l k : List Val) (hl : l.length < 1152921504606846976) : z4h l k = some (decide (l = k)) := by
 apply y9f;by_cases hk : l.length = k.length
 .rw [hk, q15, cF, <- hk];exact qns l k hl hk l k 0 rfl rfl
 .rw [q3n (by omega), cT];have : l ≠ k := fun e => hk (by rw [e])
  simp [this]
theorem qv5 {a : Nomination} (h : SmallN a) (b : Nomination) : z3h a b = some (nomEq a b) := by
 apply y8a;rw [qu0 _ h.tr, bS, q4t _ _ (by have := h.votes; omega), bS, q4t _ _ (by have := h.accs; omega)];simp only [eqB, nomEq, bS];cases decide (a.Node = b.Node) <;> cases decide (a.Seq = b.Seq) <;> cases decide (a.Trust = b.Trust) <;> cases decide (a.Votes = b.Votes) <;> rfl
theorem qo0 (a b : Nominator) (hl : a.Heard.length < 1000000) (hk : a.Heard.length = b.Heard.length) (hm : ∀ m ∈ a.Heard, SmallN m) : ∀ (suf suk : List Nomination) (i : Nat), a.Heard.drop i = suf -> b.Heard.drop i = suk ->
  z3s ((a.Heard.length : Nat) : Int) (i : Int) a.Node a.Slot a.Round a.Seq a.Trust.Threshold a.Trust.Nodes a.Trust.Inner a.Own a.Votes a.Accepts a.Candidates a.Heard b.Node b.Slot b.Round b.Seq b.Trust.Threshold b.Trust.Nodes b.Trust.Inner b.Own b.Votes b.Accepts b.Candidates b.Heard = some (q8r suf suk)
 | [], suk, i, h, h' => by
  have : suk = [] := by rw [<- h', List.drop_eq_nil_iff, <- hk]; exact List.drop_eq_nil_iff.1 h
  subst this;apply y3s;rw [q0q h]; rfl
 | y :: suf, [], i, h, h' => by
  have := q0j h;have := List.drop_eq_nil_iff.1 h';omega
 | y :: suf, z :: suk, i, h, h' => by
  have hlt := q0j h;apply y3s;rw [q0c h, cT, q08 h, q08 h', qv5 (hm y (List.mem_of_mem_drop (i := i) (by rw [h]; simp))), bS, q00 (by omega), qo0 a b hl hk hm suf suk (i + 1) (q06 h) (q06 h'), q8r];cases nomEq y z <;> rfl
theorem qv7 {a : Nominator} (h : SmallR a) (b : Nominator) : z5e a b = some (sameN a b) := by
 apply y9i;rw [qu0 _ h.tr, bS, q4t _ _ (by have := h.votes; omega), bS, q4t _ _ (by have := h.accs; omega), bS, q4t _ _ (by have := h.cands; omega), bS];have heq : (bif neB ((a.Heard.length : Nat) : Int) ((b.Heard.length : Nat) : Int) then some false else z3s ((a.Heard.length : Nat) : Int) 0 a.Node a.Slot a.Round a.Seq a.Trust.Threshold a.Trust.Nodes a.Trust.Inner a.Own a.Votes a.Accepts a.Candidates a.Heard b.Node b.Slot b.Round b.Seq b.Trust.Threshold b.Trust.Nodes b.Trust.Inner b.Own b.Votes b.Accepts b.Candidates b.Heard) = some (q8r a.Heard b.Heard) := by
  by_cases hk : a.Heard.length = b.Heard.length
  .have : neB ((a.Heard.length : Nat) : Int) ((b.Heard.length : Nat) : Int) = false := by rw [hk]; exact q15 _
   rw [this, cF];exact qo0 a b h.heard hk h.msgs a.Heard b.Heard 0 rfl rfl
  .rw [q3n (by omega), cT];congr 1
   cases e : q8r a.Heard b.Heard with
   | false => rfl
   | true => exact absurd (by rw [qau.1 e]) hk
 rw [heq];have e : sameN a b = (decide (a.Node = b.Node) && (decide (a.Slot = b.Slot) && (decide (a.Round = b.Round) && (decide (a.Seq = b.Seq) && (decide (a.Own = b.Own) && (decide (a.Trust = b.Trust) && (decide (a.Votes = b.Votes) && (decide (a.Accepts = b.Accepts) && (decide (a.Candidates = b.Candidates) && q8r a.Heard b.Heard))))))))) := by
  rw [Bool.eq_iff_iff, qo8];simp only [aT, dT', qau];constructor
  .rintro rfl; exact ⟨rfl, rfl, rfl, rfl, rfl, rfl, rfl, rfl, rfl, rfl⟩
  .rintro ⟨h1, h2, h3, h4, h5, h6, h7, h8, h9, h10⟩;cases a; cases b;simp only at h1 h2 h3 h4 h5 h6 h7 h8 h9 h10;subst h1; subst h2; subst h3; subst h4; subst h5; subst h6; subst h7; subst h8; subst h9; subst h10; rfl
 rw [e];simp only [neB, eqS];cases decide (a.Node = b.Node) <;> cases decide (a.Slot = b.Slot) <;> cases decide (a.Round = b.Round) <;> cases decide (a.Seq = b.Seq) <;> cases decide (a.Own = b.Own) <;> cases decide (a.Trust = b.Trust) <;> cases decide (a.Votes = b.Votes) <;> cases decide (a.Accepts = b.Accepts) <;> cases decide (a.Candidates = b.Candidates) <;> rfl
def someV : List Val := [[97], [98], [99], [97, 97], [97, 98], [122, 122], [97, 98, 99]]
theorem qhr : q0y someV = true := by decide +kernel
structure InV (n : Nominator) : Prop where
 own : n.Own = [] \/ n.Own ∈ someV
 votes : ∀ x ∈ n.Votes, x ∈ someV
 accs : ∀ x ∈ n.Accepts, x ∈ someV
 heard : ∀ m ∈ n.Heard, (∀ x ∈ m.Votes, x ∈ someV) /\ ∀ x ∈ m.Accepts, x ∈ someV
theorem y05 {n : Nominator} (h : InV n) {V : List Val} (hV : ∀ x ∈ V, x ∈ someV) (u : Int) : ∀ x ∈ leadV n V u, x ∈ someV := by
 intro x hx;unfold leadV at hx;split at hx
 .split at hx
  .exact hV x hx
  .rename_i ho;rcases q67 hx with h1 | h1
   .exact hV x h1
   .rw [h1]; exact h.own.resolve_left ho
 .rcases qeh hx with h1 | ⟨m, h1, _, h2⟩
  .exact hV x h1
  .rcases h2 with h2 | h2
   .exact (h.heard m h1).1 x h2
   .exact (h.heard m h1).2 x h2
theorem qt4 {n : Nominator} (h : InV n) : ∀ (L : List Int) {V : List Val}, (∀ x ∈ V, x ∈ someV) -> ∀ x ∈ L.foldl (leadV n) V, x ∈ someV
 | [], _, hV => hV
 | u :: L, V, hV => qt4 h L (V := leadV n V u) (y05 h hV u)
theorem InV.listen {n : Nominator} (h : InV n) (L : List Int) : InV (q0n L n) := by
 unfold q0n;split
 .exact ⟨h.own, qt4 h L h.votes, h.accs, h.heard⟩
 .exact h
theorem InV.known {n : Nominator} (h : InV n) {x : Val} (hx : x ∈ qba n) : x ∈ someV := by
 obtain ⟨m, hm, hx⟩ := q7l.1 (q2a.1 hx);rcases List.mem_append.1 hm with hm | hm
 .rcases hx with hx | hx
  .exact (h.heard m hm).1 x hx
  .exact (h.heard m hm).2 x hx
 .simp at hm; subst hm;rcases hx with hx | hx
  .exact h.votes x hx
  .exact h.accs x hx
theorem InV.settleF : ∀ (k : Nat) {n : Nominator}, InV n -> InV (q2s k n)
 | 0, _, h => h
 | k + 1, n, h => by
  rw [q2s];cases hx : nextN n with
  | none => exact h
  | some x =>
   refine InV.settleF k (n := qcj n x) ⟨h.own, h.votes, fun y hy => ?_, h.heard⟩;rcases q67 hy with e | e
   .exact h.accs y e
   .rw [e]; exact h.known (qad hx).1
theorem InV.settle {n : Nominator} (h : InV n) (L : List Int) : InV (q0m L n) := by
 have := (h.listen L).settleF 60;exact ⟨this.own, this.votes, this.accs, this.heard⟩
theorem InV.turn {b n : Nominator} (h : InV n) : InV (turned b n) := by
 obtain ⟨s, _, g2, _⟩ := q4e b (q0m (leadN n) n);unfold turned;rw [g2];have := h.settle (leadN n);exact ⟨this.own, this.votes, this.accs, this.heard⟩
def mayV (n : Nominator) (x : Val) (u : Int) : Prop := u = n.Node /\ x = n.Own /\ n.Own ≠ [] \/ u ≠ n.Node /\ ∃ m ∈ n.Heard, m.Node = u /\ (x ∈ m.Votes \/ x ∈ m.Accepts)
theorem y0d {n : Nominator} {V : List Val} {u : Int} {x : Val} (hx : x ∈ leadV n V u) : x ∈ V \/ mayV n x u := by
 unfold leadV at hx;split at hx
 .rename_i hu;split at hx
  .exact .inl hx
  .rename_i ho;rcases q67 hx with h1 | h1
   .exact .inl h1
   .exact .inr (.inl ⟨hu, h1, ho⟩)
 .rename_i hu;rcases qeh hx with h1 | h1
  .exact .inl h1
  .exact .inr (.inr ⟨hu, h1⟩)
theorem qt0 {n : Nominator} {x : Val} : ∀ (L : List Int) {V : List Val}, x ∈ L.foldl (leadV n) V -> x ∈ V \/ ∃ u ∈ L, mayV n x u
 | [], _, hx => .inl hx
 | v :: L, V, hx => by
  rw [List.foldl_cons] at hx;rcases qt0 L hx with h1 | ⟨u, h1, h2⟩
  .rcases y0d h1 with h1 | h1
   .exact .inl h1
   .exact .inr ⟨v, by simp, h1⟩
  .exact .inr ⟨u, by simp [h1], h2⟩
def atN (S : List Nominator) (b : Nat) : Nominator := S.getD b qfx
def OldS (S : List Nominator) (a b : Nat) : Prop := oldN (atN S b).Heard (sayN (atN S a)) = true
noncomputable def q14 (S : List Nominator) (a b : Nat) : Nominator := turned (atN S b) { atN S b with Heard := q19 (sayN (atN S a)) (atN S b).Heard }
theorem qlo {S : List Nominator} {b : Nat} (h : b < S.length) : S[b]? = some (atN S b) := by
 simp [atN, List.getD_eq_getElem?_getD, h]
theorem qxt {S : List Nominator} {b : Nat} (h : b < S.length) (x : Nominator) (c : Nat) : atN (S.set b x) c = if b = c then x else atN S c := by
 simp only [atN, List.getD_eq_getElem?_getD, List.getElem?_set];by_cases e : b = c
 .subst e; simp [h]
 .simp [e]
structure CalmI (N to M : Nat) (I : List Nominator -> Prop) : Prop where
 n10 : N <= 10
 to10 : to < 1024
 len : ∀ S, I S -> S.length = N
 ready : ∀ S, I S -> ∀ b, b < N -> ReadyN (atN S b)
 node : ∀ S, I S -> ∀ b, b < N -> (atN S b).Node = (b : Int)
 step : ∀ S, I S -> ∀ a b, a < N -> b < N -> a ≠ b -> to.testBit b = true -> oldN (atN S b).Heard (sayN (atN S a)) = false -> I (S.set b (q14 S a b))
 pot : ∀ S, I S -> (S.map fun n => n.Seq.toNat).sum <= M
def Pair (N to a b : Nat) : Prop := a < N /\ b < N /\ a ≠ b /\ to.testBit b = true
structure TransN (N to : Nat) (I : List Nominator -> Prop) (P : Nat -> Nat -> Prop) (S : List Nominator) (ag : Bool) (S' : List Nominator) (ag' : Bool) : Prop where
 inv : I S'
 mono : ∀ c, c < N -> (atN S c).Seq <= (atN S' c).Seq
 quiet : ag' = false -> ag = false /\ S' = S
 old : (∀ c, c < N -> (atN S' c).Seq = (atN S c).Seq) -> (∀ c d, P c d -> OldS S' c d) /\ ∀ c d, c < N -> d < N -> OldS S c d -> OldS S' c d
 calm : (∀ c d, Pair N to c d -> OldS S c d) -> S' = S /\ ag' = ag
theorem TransN.refl {N to : Nat} {I : List Nominator -> Prop} {S : List Nominator} {ag : Bool} (h : I S) : TransN N to I (fun _ _ => False) S ag S ag :=
 ⟨h, fun _ _ => Int.le_refl _, fun e => ⟨e, rfl⟩, fun _ => ⟨fun _ _ e => e.elim, fun _ _ _ _ e => e⟩, fun _ => ⟨rfl, rfl⟩⟩
theorem TransN.weak {N to : Nat} {I : List Nominator -> Prop} {P Q : Nat -> Nat -> Prop} {S S' : List Nominator} {ag ag' : Bool} (h : TransN N to I P S ag S' ag') (hq : ∀ c d, Q c d -> P c d) : TransN N to I Q S ag S' ag' :=
 ⟨h.inv, h.mono, h.quiet, fun e => ⟨fun c d q => (h.old e).1 c d (hq c d q), (h.old e).2⟩, h.calm⟩
theorem TransN.trans {N to : Nat} {I : List Nominator -> Prop} {P Q : Nat -> Nat -> Prop} {S S1 S2 : List Nominator} {ag ag1 ag2 : Bool} (hQ : ∀ c d, P c d -> c < N /\ d < N) (h : TransN N to I P S ag S1 ag1) (h' : TransN N to I Q S1 ag1 S2 ag2) : TransN N to I (fun c d => P c d \/ Q c d) S ag S2 ag2 := by
 refine ⟨h'.inv, fun c hc => Int.le_trans (h.mono c hc) (h'.mono c hc), fun e => ?_, fun e => ?_, fun e => ?_⟩
 .obtain ⟨e1, e2⟩ := h'.quiet e;obtain ⟨e3, e4⟩ := h.quiet e1;exact ⟨e3, e2.trans e4⟩
 .have e1 : ∀ c, c < N -> (atN S1 c).Seq = (atN S c).Seq := fun c hc => by have := h.mono c hc; have := h'.mono c hc; have := e c hc; omega
  have e2 : ∀ c, c < N -> (atN S2 c).Seq = (atN S1 c).Seq := fun c hc => by have := e1 c hc; have := e c hc; omega
  obtain ⟨o1, o2⟩ := h.old e1;obtain ⟨o3, o4⟩ := h'.old e2;refine ⟨fun c d hp => ?_, fun c d hc hd ho => o4 c d hc hd (o2 c d hc hd ho)⟩;rcases hp with hp | hp
  .exact o4 c d (hQ c d hp).1 (hQ c d hp).2 (o1 c d hp)
  .exact o3 c d hp
 .obtain ⟨e1, e2⟩ := h.calm e;subst e1;obtain ⟨e3, e4⟩ := h'.calm e;exact ⟨e3, e4.trans e2⟩
theorem qxn (m : Nomination) (l : List Nomination) : oldN (q19 m l) m = true := by
 rw [oldN, List.any_eq_true];exact ⟨m, q4g, by simp⟩
theorem qx1 {l : List Nomination} {m k : Nomination} (h : oldN l k = true) (hm : oldN l m = false) : oldN (q19 m l) k = true := by
 rw [oldN, List.any_eq_true] at h ⊢;obtain ⟨x, h1, h2⟩ := h;simp only [aT, dT'] at h2;by_cases e : x.Node = m.Node
 .refine ⟨m, q4g, ?_⟩;rw [oldN, List.any_eq_false] at hm;have := hm x h1;simp only [aT, dT', not_and, e, forall_const] at this;simp only [aT, dT'];exact ⟨by rw [<- e]; exact h2.1, by omega⟩
 .exact ⟨x, qbx e h1, by simp [h2]⟩
section
variable {N to M : Nat} {I : List Nominator -> Prop} (hC : CalmI N to M I)
include hC
theorem qfv {S : List Nominator} (h : I S) {a b : Nat} (hp : Pair N to a b) (ho : oldN (atN S b).Heard (sayN (atN S a)) = false) :
  hearN (atN S b) (sayN (atN S a)) = (q14 S a b, 0) /\ StepN (atN S b) (q14 S a b) /\ (q14 S a b).Heard = q19 (sayN (atN S a)) (atN S b).Heard := by
 obtain ⟨h1, h2, h3, h4⟩ := hp;have hb := hC.ready S h b h2;have ha := hC.ready S h a h1;have hne : (sayN (atN S a)).Node ≠ (atN S b).Node := by
  show (atN S a).Node ≠ _;rw [hC.node S h a h1, hC.node S h b h2]; omega
 have hu := hb.withH ha.say hne;refine ⟨?_, (qkr (n := atN S b) hu (leadN { atN S b with Heard := q19 (sayN (atN S a)) (atN S b).Heard }) rfl rfl rfl rfl rfl rfl).1, ?_⟩
 .rw [hearN, if_neg (by rw [qel.2 hb, ha.say]; simp [hne]), if_neg (by rw [ho]; simp)]; rfl
 .obtain ⟨s, _, g2, _⟩ := q4e (atN S b) (q0m (leadN { atN S b with Heard := q19 (sayN (atN S a)) (atN S b).Heard }) { atN S b with Heard := q19 (sayN (atN S a)) (atN S b).Heard });obtain ⟨A, C, f1, _⟩ := q5f (leadN { atN S b with Heard := q19 (sayN (atN S a)) (atN S b).Heard }) { atN S b with Heard := q19 (sayN (atN S a)) (atN S b).Heard };unfold q14 turned;rw [g2, f1]
theorem qvj {S : List Nominator} (h : I S) {ag : Bool} {a b : Nat} (hp : Pair N to a b) (ho : oldN (atN S b).Heard (sayN (atN S a)) = false) :
  TransN N to I (fun c d => c = a /\ d = b) S ag (S.set b (q14 S a b)) (ag || !sameN (atN S b) (q14 S a b)) := by
 obtain ⟨f1, f2, f3⟩ := qfv hC h hp ho;have hl := hC.len S h;have hp' := hp;obtain ⟨h1, h2, h3, h4⟩ := hp';have hset := qxt (S := S) (b := b) (by omega) (q14 S a b);have hsay : ∀ c, c < N -> (atN (S.set b (q14 S a b)) c).Seq = (atN S c).Seq -> ∀ l, oldN l (sayN (atN (S.set b (q14 S a b)) c)) = oldN l (sayN (atN S c)) := fun c hc e l => by
  have hn : (atN (S.set b (q14 S a b)) c).Node = (atN S c).Node := by
   rw [hset]; split
   .rename_i e'; subst e'; exact f2.node
   .rfl
  unfold oldN sayN;simp only [e, hn]
 refine ⟨hC.step S h a b h1 h2 h3 h4 ho, fun c hc => ?_, fun e => ?_, fun e => ⟨fun c d hcd => ?_, fun c d hc hd hold => ?_⟩, fun e => ?_⟩
 .rw [hset]; split
  .rename_i e; subst e; have := f2.seq; omega
  .exact Int.le_refl _
 .cases hag : ag with
  | true => rw [hag] at e; simp at e
  | false =>
   rw [hag, Bool.false_or, Bool.not_eq_false'] at e;refine ⟨rfl, ?_⟩;rw [<- qo8.1 e];apply List.ext_getElem?;intro i;rw [List.getElem?_set];split
   .rename_i e'; subst e'; rw [if_pos (by omega), qlo (by omega)]
   .rfl
 .obtain ⟨rfl, rfl⟩ := hcd;show oldN _ _ = true;rw [hsay c h1 (e c h1), hset, if_pos rfl, f3];exact qxn _ _
 .show oldN _ _ = true;rw [hsay c hc (e c hc), hset];split
  .rename_i e'; subst e';rw [f3];exact qx1 hold ho
  .exact hold
 .exact absurd (e a b hp) (by unfold OldS; rw [ho]; simp)
theorem qm1 (i : Int) (a : Nat) (ha : a < N) : ∀ (r b : Nat) (S : List Nominator) (ag : Bool), b + r = N -> I S -> ∃ S' ag', TransN N to I (fun c d => c = a /\ b <= d /\ Pair N to c d) S ag S' ag' /\
  ∀ R, z37 (to : Int) S' i ag' ((N : Nat) : Int) ((a + 1 : Nat) : Int) = some R -> z1k (to : Int) S i ag (a : Int) ((N : Nat) : Int) (a : Int) ((N : Nat) : Int) (b : Int) = some R
 | 0, b, S, ag, hb, h => by
  have hn := hC.n10;refine ⟨S, ag, (TransN.refl h).weak fun c d hcd => ?_, fun R hR => qq4 _ _ _ _ _ _ _ _ _ _ ?_⟩
  .obtain ⟨_, h1, _, h2, _⟩ := hcd; omega
  .rw [q01 (by omega), cF, q00 (by omega)]; exact hR
 | r + 1, b, S, ag, hb, h => by
  have hn := hC.n10;have hl := hC.len S h;have hto := hC.to10;have hbN : b < N := by omega
  have skip : ¬ Pair N to a b -> ∃ S' ag', TransN N to I (fun c d => c = a /\ b <= d /\ Pair N to c d) S ag S' ag' /\
    ∀ R, z37 (to : Int) S' i ag' ((N : Nat) : Int) ((a + 1 : Nat) : Int) = some R -> z1k (to : Int) S i ag (a : Int) ((N : Nat) : Int) (a : Int) ((N : Nat) : Int) ((b + 1 : Nat) : Int) = some R := fun hno => by
   obtain ⟨S', ag', t1, t2⟩ := qm1 i a ha r (b + 1) S ag (by omega) h;refine ⟨S', ag', t1.weak fun c d ⟨h1, h2, h3⟩ => ⟨h1, ?_, h3⟩, t2⟩;by_cases e : d = b
   .subst e; subst h1; exact absurd h3 hno
   .omega
  by_cases hab : a = b
  .subst hab;obtain ⟨S', ag', t1, t2⟩ := skip (fun e => e.2.2.1 rfl);refine ⟨S', ag', t1, fun R hR => qq4 _ _ _ _ _ _ _ _ _ _ ?_⟩;rw [q04 (by omega), cT, q3d, cT, q00 (by omega)]; exact t2 R hR
  .cases hbit : to.testBit b with
   | false =>
    obtain ⟨S', ag', t1, t2⟩ := skip (fun e => by have := e.2.2.2; rw [hbit] at this; cases this);refine ⟨S', ag', t1, fun R hR => qq4 _ _ _ _ _ _ _ _ _ _ ?_⟩;rw [q04 (by omega), cT, q53 (by omega), cF, q4s hto, bS, q3m (by omega), hbit, Bool.not_false, cT, q00 (by omega)]; exact t2 R hR
   | true =>
    have hp : Pair N to a b := ⟨ha, hbN, hab, hbit⟩;have hra := hC.ready S h a ha;have hrb := hC.ready S h b hbN;have hga := qlo (S := S) (b := a) (by omega);have hgb := qlo (S := S) (b := b) (by omega);have hsay : z4j (atN S a) = some (sayN (atN S a)) := qx8 (q4c hra.tr).1 (by have := hra.vlen; omega) (by have := hra.alen; omega);have hhear := qyc hrb.small (q5i hra.say);have n1 : ∀ {β : Type} (k : Nominator -> Option β), nth S (b : Int) k = k (atN S b) := fun k => q0z (by omega) (by rw [tN]; exact hgb) k
    have n2 : ∀ {β : Type} (k : Nominator -> Option β), nth S (a : Int) k = k (atN S a) := fun k => q0z (by omega) (by rw [tN]; exact hga) k
    have n3 : ∀ {β : Type} (k : Nominator -> Option β), nthN S b k = k (atN S b) := fun k => q8j hgb k
    have n4 : ∀ {β : Type} (k : Nominator -> Option β), nthN S a k = k (atN S a) := fun k => q8j hga k
    cases ho : oldN (atN S b).Heard (sayN (atN S a)) with
    | true =>
     have hne : (sayN (atN S a)).Node ≠ (atN S b).Node := by
      show (atN S a).Node ≠ _;rw [hC.node S h a ha, hC.node S h b hbN]; omega
     have hh : hearN (atN S b) (sayN (atN S a)) = (qfx, 9) := by
      rw [hearN, if_neg (by rw [qel.2 hrb, hra.say]; simp [hne]), if_pos ho]
     obtain ⟨S', ag', t1, t2⟩ := qm1 i a ha r (b + 1) S ag (by omega) h;refine ⟨S', ag', ?_, fun R hR => qq4 _ _ _ _ _ _ _ _ _ _ ?_⟩
     .refine ⟨t1.inv, t1.mono, t1.quiet, fun e => ⟨fun c d ⟨h1, h2, h3⟩ => ?_, (t1.old e).2⟩, t1.calm⟩;by_cases e' : d = b
      .subst e'; subst h1; exact (t1.old e).2 c d ha hbN ho
      .exact (t1.old e).1 c d ⟨h1, by omega, h3⟩
     .rw [q04 (by omega), cT, q53 (by omega), cF, q4s hto, bS, q3m (by omega), hbit, nT, cF, n1, n2, tN, tN, n3, n4, hsay, bS, hhear, bS, hh, q00 (by omega)];exact t2 R hR
    | false =>
     obtain ⟨hh, _, _⟩ := qfv hC h hp ho;have tp := qvj hC h (ag := ag) hp ho;obtain ⟨S', ag', t1, t2⟩ := qm1 i a ha r (b + 1) (S.set b (q14 S a b)) (ag || !sameN (atN S b) (q14 S a b)) (by omega) tp.inv;refine ⟨S', ag', (tp.trans (fun c d hcd => by obtain ⟨rfl, rfl⟩ := hcd; exact ⟨ha, hbN⟩) t1).weak fun c d ⟨h1, h2, h3⟩ => ?_, fun R hR => qq4 _ _ _ _ _ _ _ _ _ _ ?_⟩
     .by_cases e' : d = b
      .exact .inl ⟨h1, e'⟩
      .exact .inr ⟨h1, by omega, h3⟩
     .rw [q04 (by omega), cT, q53 (by omega), cF, q4s hto, bS, q3m (by omega), hbit, nT, cF, n1, n2, tN, tN, n3, n4, hsay, bS, hhear, bS, hh, q00 (by omega)];have hm := qv7 hrb.small (q14 S a b)
      dsimp only
      rw [q15, cF, q3d, cT, qbk, n1, n1, n3, n3, hm, bS];cases hag : ag with
      | true =>
       rw [hag, Bool.true_or] at t2;rw [cT]; exact t2 R hR
      | false =>
       rw [hag, Bool.false_or] at t2;rw [cF, n1, n3]; exact t2 R hR
theorem qze (i : Int) : ∀ (r a : Nat) (S : List Nominator) (ag : Bool), a + r = N -> I S -> ∃ S' ag', TransN N to I (fun c d => a <= c /\ Pair N to c d) S ag S' ag' /\
  ∀ R, (bif (!ag') then some (S', true) else z36 (to : Int) S' (addI .i64 i 1)) = some R -> z37 (to : Int) S i ag ((N : Nat) : Int) (a : Int) = some R
 | 0, a, S, ag, ha, h => by
  refine ⟨S, ag, (TransN.refl h).weak fun c d hcd => ?_, fun R hR => y3j _ _ _ _ _ _ _ ?_⟩
  .obtain ⟨h1, h2, _⟩ := hcd; omega
  .rw [q01 (by omega), cF]; exact hR
 | r + 1, a, S, ag, ha, h => by
  obtain ⟨S1, ag1, t1, t2⟩ := qm1 hC i a (by omega) N 0 S ag (by omega) h;obtain ⟨S2, ag2, t3, t4⟩ := qze i r (a + 1) S1 ag1 (by omega) t1.inv;have hl := hC.len S h;refine ⟨S2, ag2, (t1.trans (fun c d hcd => ⟨hcd.2.2.1, hcd.2.2.2.1⟩) t3).weak fun c d ⟨h1, h2⟩ => ?_, fun R hR => y3j _ _ _ _ _ _ _ ?_⟩
  .by_cases e : c = a
   .exact .inl ⟨e, by omega, h2⟩
   .exact .inr ⟨by omega, h2⟩
  .rw [q04 (by omega), cT, hl];exact t2 R (t4 R hR)
theorem ya8 {S S' : List Nominator} (h : I S) (h' : I S') (hm : ∀ c, c < N -> (atN S c).Seq <= (atN S' c).Seq) (hne : ¬ ∀ c, c < N -> (atN S' c).Seq = (atN S c).Seq) : (S.map fun n => n.Seq.toNat).sum < (S'.map fun n => n.Seq.toNat).sum := by
 have hl := hC.len S h;have hl' := hC.len S' h';have hq : ∀ c, c < N -> 1 <= (atN S c).Seq := fun c hc => (hC.ready S h c hc).seq.1
 have key : ∀ (l l' : List Nominator), l.length = l'.length -> (∀ c, c < l.length -> 1 <= (atN l c).Seq /\ (atN l c).Seq <= (atN l' c).Seq) -> (l.map fun n => n.Seq.toNat).sum <= (l'.map fun n => n.Seq.toNat).sum /\ ((l.map fun n => n.Seq.toNat).sum = (l'.map fun n => n.Seq.toNat).sum -> ∀ c, c < l.length -> (atN l' c).Seq = (atN l c).Seq) := by
  intro l;induction l with
  | nil => intro l' hl _; cases l' with
   | nil => exact ⟨Nat.le_refl _, fun _ c hc => by simp at hc⟩
   | cons _ _ => simp at hl
  | cons x r ih =>
   intro l' hl hc;cases l' with
   | nil => simp at hl
   | cons y r' =>
    have h0 := hc 0 (by simp);have h0 : 1 <= x.Seq /\ x.Seq <= y.Seq := h0;obtain ⟨i1, i2⟩ := ih r' (by simpa using hl) fun c hcr => hc (c + 1) (by simpa using hcr)
    simp only [List.map_cons, List.sum_cons];refine ⟨by omega, fun e c hc' => ?_⟩;cases c with
    | zero => show y.Seq = x.Seq; omega
    | succ c => exact i2 (by omega) c (by simpa using hc')
 obtain ⟨k1, k2⟩ := key S S' (by omega) fun c hc => ⟨hq c (by omega), hm c (by omega)⟩
 by_cases e : (S.map fun n => n.Seq.toNat).sum = (S'.map fun n => n.Seq.toNat).sum
 .exact absurd (fun c hc => k2 e c (by omega)) hne
 .omega
theorem qsl : ∀ (r i : Nat) (S : List Nominator), i + r = 200 -> I S -> (M + 2 <= (S.map fun n => n.Seq.toNat).sum + r \/ 1 <= r /\ ∀ c d, Pair N to c d -> OldS S c d) ->
  ∃ S', z36 (to : Int) S (i : Int) = some (S', true) /\ I S' /\ ∀ c d, Pair N to c d -> OldS S' c d
 | 0, i, S, hi, h, hr => by have := hC.pot S h; omega
 | r + 1, i, S, hi, h, hr => by
  have hl := hC.len S h;obtain ⟨S1, ag1, t1, t2⟩ := qze hC (i : Int) N 0 S false (by omega) h;have head : ∀ R, (bif (!ag1) then some (S1, true) else z36 (to : Int) S1 ((i + 1 : Nat) : Int)) = some R -> z36 (to : Int) S (i : Int) = some R := fun R hR => by
   apply y86;rw [q04 (by omega), cT, hl];refine t2 R ?_;rw [q00 (by omega)]; exact hR
  have full : (∀ c, c < N -> (atN S1 c).Seq = (atN S c).Seq) -> ∀ c d, Pair N to c d -> OldS S1 c d := fun e c d hp => (t1.old e).1 c d ⟨Nat.zero_le _, hp⟩
  cases hag : ag1 with
  | false =>
   obtain ⟨_, e⟩ := t1.quiet hag;subst e;exact ⟨S1, head _ (by rw [hag]; rfl), h, full fun _ _ => rfl⟩
  | true =>
   rcases hr with hr | ⟨_, hr⟩
   .by_cases e : ∀ c, c < N -> (atN S1 c).Seq = (atN S c).Seq
    .have hpot := hC.pot S h;obtain ⟨S', g1, g2, g3⟩ := qsl r (i + 1) S1 (by omega) t1.inv (.inr ⟨by omega, full e⟩);exact ⟨S', head _ (by rw [hag]; exact g1), g2, g3⟩
    .have hlt := ya8 hC h t1.inv t1.mono e;obtain ⟨S', g1, g2, g3⟩ := qsl r (i + 1) S1 (by omega) t1.inv (.inl (by omega));exact ⟨S', head _ (by rw [hag]; exact g1), g2, g3⟩
   .have := (t1.calm hr).2;rw [hag] at this; cases this
theorem y66 {S : List Nominator} (h : I S) (hr : M + 2 <= (S.map fun n => n.Seq.toNat).sum + 200) : ∃ S', law22_calm S (to : Int) = some (S', true) /\ I S' /\ ∀ c d, Pair N to c d -> OldS S' c d := by
 have hl := hC.len S h;have hn := hC.n10;obtain ⟨S', g1, g2, g3⟩ := qsl hC 200 0 S rfl h (.inl hr);refine ⟨S', law22_calm_le _ _ _ ?_, g2, g3⟩;rw [q10 (by simp [q0k]; omega), List.nil_append];exact g1
end
end Go.Proofs.YtglokalgdbegeaaGreat
namespace Go.Proofs.YtglokalgdbegeaaGreat
open Go Go.Ab Go.Sort
def qaz (c : Config) (s : Nat) : Bool := twoB (delC s c)
theorem nz {a : Nat} : a ≠ 0 ↔ ∃ i, a.testBit i = true := ⟨y1f, fun ⟨i, hi⟩ e => by rw [e, Nat.zero_testBit] at hi; cases hi⟩
theorem qsy {a b : Nat} : a &&& b ≠ 0 ↔ ∃ i, a.testBit i = true /\ b.testBit i = true := by
 rw [nz]; simp only [Nat.testBit_and, aT]
theorem qm5 {a b : Nat} : ndiff a b ≠ 0 ↔ ∃ i, a.testBit i = true /\ b.testBit i = false := by
 rw [nz]; simp only [q02, aT, Bool.not_eq_true']
def full (c : Config) : Nat := 2 ^ c.Members.length - 1
theorem qty {c : Config} {i : Nat} : (full c).testBit i = decide (i < c.Members.length) := by rw [full, Nat.testBit_two_pow_sub_one]
theorem y5o {c : Config} (hn : c.Members.length <= 10) : full c < 1024 := by have := pow10 hn; unfold full; omega
theorem qz1 {c : Config} {s : Nat} : s < 2 ^ c.Members.length ↔ Sub s (full c) := qlv
theorem qzy {c : Config} (hn : c.Members.length <= 10) : Sub (decl c) (full c) := qz1.1 (q9l hn)
structure PairOk (n : Nat) (lo hi : Config) : Prop where
 lok : ConfOk n lo
 hik : ConfOk n hi
 len : lo.Members.length = hi.Members.length
 dec : decl lo = decl hi
 imp : ∀ k s, (decl lo).testBit k = true -> s < 1024 -> sat s (tr hi k) = true -> sat s (tr lo k) = true
variable {n : Nat} {lo hi : Config}
theorem PairOk.self {c : Config} (h : ConfOk n c) : PairOk n c c := ⟨h, h, rfl, rfl, fun _ _ _ _ h => h⟩
theorem PairOk.fullEq (h : PairOk n lo hi) : full lo = full hi := by unfold full; rw [h.len]
theorem qn5 (h : PairOk n lo hi) {q : Nat} (hq : q2h hi q) : q2h lo q :=
 ⟨hq.1, by rw [h.dec]; exact hq.2.1, fun k hk => h.imp k q (by rw [h.dec]; exact hq.2.1 k hk) (qw3 hq) (hq.2.2 k hk)⟩
theorem qhe {s z : Nat} (h : Sub s z) {t : Trust} (hs : sat s t = true) : sat z t = true := qlj (qn1 h) t hs
theorem y8b {c : Config} {a b : Nat} (ha : q2h c a) (hb : q2h c b) : q2h c (a ||| b) := by
 refine ⟨fun e => ha.1 (Nat.le_zero.1 (e ▸ (Nat.left_le_or : a <= a ||| b))), ha.2.1.or hb.2.1, fun k hk => ?_⟩;rw [Nat.testBit_or, Bool.or_eq_true] at hk;rcases hk with hk | hk
 .exact qhe Sub.left (ha.2.2 k hk)
 .exact qhe Sub.right (hb.2.2 k hk)
def QL (c : Config) (b y : Nat) : Prop := y ≠ 0 /\ Sub y (decl c) /\ (∀ i, y.testBit i = true -> b.testBit i = false) /\ ∀ k, y.testBit k = true -> sat (y ||| b) (tr c k) = true
theorem y9o {c : Config} {b y : Nat} : q2h (delC b c) y ↔ QL c b y := by
 constructor
 .intro h;have hd : ∀ i, y.testBit i = true -> b.testBit i = false := fun i hi => (q3l.1 (h.2.1 i hi)).2
  have h' := (ql8 (qw3 h) hd).1 h;exact ⟨h'.1, h'.2.1, hd, h'.2.2⟩
 .rintro ⟨h1, h2, h3, h4⟩;exact (ql8 (h2.lt (qhg c)) h3).2 ⟨h1, h2, h4⟩
theorem q8z {c : Config} {b d y : Nat} (hbd : Sub b d) (h : QL c b y) (h0 : ndiff y d ≠ 0) : QL c d (ndiff y d) := by
 refine ⟨h0, fun i hi => h.2.1 i ?_, fun i hi => ?_, fun k hk => ?_⟩
 .rw [q02, aT] at hi; exact hi.1
 .rw [q02, aT, Bool.not_eq_true'] at hi; exact hi.2
 .rw [q02, aT] at hk;rw [qr6];refine qhe (fun i hi => ?_) (h.2.2.2 k hk.1);rw [Nat.testBit_or, Bool.or_eq_true] at hi ⊢;exact hi.imp id (hbd i)
theorem y3e {c : Config} {q : Nat} (h : q2h c q) : QL c 0 q := ⟨h.1, h.2.1, fun i _ => Nat.zero_testBit i, fun k hk => by rw [Nat.or_zero]; exact h.2.2 k hk⟩
theorem qst (b : Nat) : Sub 0 b := fun i hi => by rw [Nat.zero_testBit] at hi; cases hi
theorem qni {c : Config} {b q : Nat} (h : q2h c q) (hd : ∀ i, q.testBit i = true -> b.testBit i = false) : QL c b q :=
 ⟨h.1, h.2.1, hd, fun k hk => qhe Sub.left (h.2.2 k hk)⟩
theorem qj9 {c : Config} (hn : c.Members.length <= 10) {b : Nat} : qaz c b = true ↔ ∃ x y, QL c b x /\ QL c b y /\ x &&& y = 0 := by
 unfold qaz;rw [y1o (by rw [y1h]; exact hn)];simp only [y9o]
theorem qj7 {c : Config} (hn : c.Members.length <= 10) {b x y : Nat} (h : qaz c b = false) (hx : QL c b x) (hy : QL c b y) : ∃ i, x.testBit i = true /\ y.testBit i = true := by
 apply qsy.1;intro e;rw [(qj9 hn).2 ⟨x, y, hx, hy, e⟩] at h;cases h
def qzv (c : Config) (b : Nat) : Bool := ndiff (full c) b == 0 || quoB c (ndiff (full c) b)
def isB (lo hi : Config) (b : Nat) : Bool := qzv hi b && !qaz lo b
theorem y52 {c : Config} (hn : c.Members.length <= 10) (b : Nat) : ndiff (full c) b < 1024 := q9c (y5o hn)
theorem y00 {c : Config} (hn : c.Members.length <= 10) {b : Nat} : qzv c b = true ↔ ndiff (full c) b = 0 \/ q2h c (ndiff (full c) b) := by
 unfold qzv;rw [Bool.or_eq_true, beq_iff_eq, qle (y52 hn b)]
theorem ConfOk.le10 {c : Config} (h : ConfOk n c) (hn : n <= 10) : c.Members.length <= 10 := Nat.le_trans h.le hn
theorem qbp (h : PairOk n lo hi) (hn : n <= 10) {b : Nat} : isB lo hi b = true ↔ (ndiff (full lo) b = 0 \/ q2h hi (ndiff (full lo) b)) /\ qaz lo b = false := by
 unfold isB;rw [aT, y00 (h.hik.le10 hn), <- h.fullEq, Bool.not_eq_true']
theorem q3p {a b : Nat} : ndiff a b = 0 ↔ Sub a b := by rw [<- qlc, subB, beq_iff_eq]
theorem y0j (h : PairOk n lo hi) (hn : n <= 10) : isB lo hi (full lo) = true := by
 rw [qbp h hn];refine ⟨.inl (q3p.2 (Sub.refl _)), ?_⟩;rw [<- Bool.not_eq_true, qj9 (h.lok.le10 hn)];rintro ⟨x, _, ⟨h1, h2, h3, _⟩, _⟩;obtain ⟨i, hi⟩ := nz.1 h1;have := qzy (h.lok.le10 hn) i (h2 i hi);rw [h3 i hi] at this;cases this
theorem meets (h : PairOk n lo hi) (hn : n <= 10) {ill x y : Nat} (hx : isB lo hi x = true) (hy : isB lo hi y = true) (hill : qaz lo ill = false) (ix : Sub ill x) (iy : Sub ill y) (lx : Sub x (full lo)) (ly : Sub y (full lo)) : isB lo hi (x &&& y) = true := by
 have hle := h.lok.le10 hn;obtain ⟨ax, sx⟩ := (qbp h hn).1 hx;obtain ⟨ay, sy⟩ := (qbp h hn).1 hy;rcases ax with ax | ax
 .rw [show x &&& y = y from (Sub.and_right x y).antisymm (fun i hi => by rw [Nat.testBit_and, q3p.1 ax i (ly i hi), hi]; rfl)];exact hy
 rcases ay with ay | ay
 .rw [show x &&& y = x from (Sub.and_left x y).antisymm (fun i hi => by rw [Nat.testBit_and, q3p.1 ay i (lx i hi), hi]; rfl)];exact hx
 have hU : ndiff (full lo) (x &&& y) = ndiff (full lo) x ||| ndiff (full lo) y := by
  apply Nat.eq_of_testBit_eq;intro i;simp only [Nat.testBit_or, q02, Nat.testBit_and];cases (full lo).testBit i <;> cases x.testBit i <;> cases y.testBit i <;> rfl
 rw [qbp h hn, hU];refine ⟨.inr (y8b ax ay), ?_⟩;have bx : ∀ i, (ndiff (full lo) x).testBit i = true -> x.testBit i = false := fun i hi => by
  rw [q02, aT, Bool.not_eq_true'] at hi; exact hi.2
 have by' : ∀ i, (ndiff (full lo) y).testBit i = true -> y.testBit i = false := fun i hi => by
  rw [q02, aT, Bool.not_eq_true'] at hi; exact hi.2
 have off : ∀ {a b : Nat}, Sub a b -> ∀ i, b.testBit i = false -> a.testBit i = false := fun {a b} hs i hi => by
  cases ha : a.testBit i with
  | false => rfl
  | true => rw [hs i ha] at hi; cases hi
 obtain ⟨m, m1, m2⟩ := qj7 hle hill (qni (qn5 h ax) fun i hi => off ix i (bx i hi)) (qni (qn5 h ay) fun i hi => off iy i (by' i hi));have claim : ∀ A, QL lo (x &&& y) A -> ndiff A x ≠ 0 := by
  intro A hA h0;have hsub := q3p.1 h0;obtain ⟨i, hi⟩ := nz.1 hA.1;have hxy := hA.2.2.1 i hi;rw [Nat.testBit_and, hsub i hi, tA'] at hxy;have hAy := q8z (Sub.and_right x y) hA (qm5.2 ⟨i, hi, hxy⟩);have hUy := q8z (qst y) (y3e (qn5 h ax)) (qm5.2 ⟨m, m1, by' m m2⟩);obtain ⟨j, j1, j2⟩ := qj7 hle sy hAy hUy;rw [q02, aT] at j1 j2;have := bx j j2.1;rw [hsub j j1.1] at this;cases this
 rw [<- Bool.not_eq_true, qj9 hle];rintro ⟨A, B, hA, hB, hAB⟩;obtain ⟨j, j1, j2⟩ := qj7 hle sx (q8z (Sub.and_left x y) hA (claim A hA)) (q8z (Sub.and_left x y) hB (claim B hB));rw [q02, aT] at j1 j2;exact qsy.2 ⟨j, j1.1, j2.1⟩ hAB
def alls (lo hi : Config) (ill : Nat) : List Nat := (qo1 (full lo)).filter fun b => ndiff ill b == 0 && isB lo hi b
theorem q6d {ill b : Nat} : b ∈ alls lo hi ill ↔ Sub b (full lo) /\ Sub ill b /\ isB lo hi b = true := by
 unfold alls;rw [List.mem_filter, qej, aT, beq_iff_eq, q3p]
theorem qyd (h : PairOk n lo hi) (hn : n <= 10) {ill : Nat} (hill : Sub ill (full lo)) : full lo ∈ alls lo hi ill := q6d.2 ⟨Sub.refl _, hill, y0j h hn⟩
def ands : List Nat -> Nat -> Nat := fun l a => l.foldl (fun a b => a &&& b) a
theorem qip {p : Nat -> Prop} (hp : ∀ a b, p a -> p b -> p (a &&& b)) : ∀ (l : List Nat) (a : Nat), p a -> (∀ b ∈ l, p b) -> p (ands l a)
 | [], _, ha, _ => ha
 | x :: l, a, ha, h => qip hp l (a &&& x) (hp a x ha (h x (by simp))) (fun b hb => h b (by simp [hb]))
theorem y5l {z : Nat} : ∀ (l : List Nat) (a : Nat), Sub z a -> (∀ b ∈ l, Sub z b) -> Sub z (ands l a) := fun l a ha h => qip (p := fun b => Sub z b) (fun a b ha hb i hi => by rw [Nat.testBit_and, ha i hi, hb i hi]; rfl) l a ha h
def bef (lo hi : Config) (ill : Nat) : Nat := if qaz lo ill then full lo else ands (alls lo hi ill) (full lo)
theorem y5v {ill : Nat} (hill : Sub ill (full lo)) : Sub ill (bef lo hi ill) := by
 unfold bef; split
 .exact hill
 .exact y5l _ _ hill fun b hb => (q6d.1 hb).2.1
theorem qxe (h : PairOk n lo hi) (hn : n <= 10) {ill : Nat} (hill : Sub ill (full lo)) (hs : qaz lo ill = false) : bef lo hi ill ∈ alls lo hi ill := by
 unfold bef;rw [hs];exact qip (p := fun b => b ∈ alls lo hi ill) (fun a b ha hb => by
  obtain ⟨a1, a2, a3⟩ := q6d.1 ha;obtain ⟨b1, b2, b3⟩ := q6d.1 hb;exact q6d.2 ⟨(Sub.and_left _ _).trans a1, fun i hi => by rw [Nat.testBit_and, a2 i hi, b2 i hi]; rfl, meets h hn a3 b3 hs a2 b2 a1 b1⟩) _ _ (qyd h hn hill) fun b hb => hb
theorem qen (h : PairOk n lo hi) (hn : n <= 10) {ill : Nat} (hill : Sub ill (full lo)) (h0 : ndiff (full lo) (bef lo hi ill) ≠ 0) : qaz lo ill = false /\ q2h hi (ndiff (full lo) (bef lo hi ill)) := by
 cases hs : qaz lo ill with
 | true =>
  exfalso; apply h0;rw [q3p]; unfold bef; rw [hs]; exact Sub.refl _
 | false =>
  obtain ⟨_, _, hb⟩ := q6d.1 (qxe h hn hill hs);exact ⟨rfl, ((qbp h hn).1 hb).1.resolve_left h0⟩
theorem y6m {c : Config} (h : ConfOk n c) (_hn : n <= 10) {k : Nat} (hk : (decl c).testBit k = true) : Sub (uses (tr c k)) (full c) := by
 obtain ⟨m, m1, m2, m3⟩ := qd0 hk;have := (h.good m (List.mem_of_getElem? m1) m3).2;rw [m2];exact qz1.1 (ql6 _ this)
theorem qmb {c : Config} (h : ConfOk n c) (hn : n <= 10) {k s z : Nat} (hk : (decl c).testBit k = true) (hs : ∀ i, (full c).testBit i = true -> s.testBit i = z.testBit i) : sat s (tr c k) = sat z (tr c k) := by
 apply y2m;intro j hj;obtain ⟨i, rfl, hi, hb⟩ := y4j hj;rw [q3m hi, q3m hi];exact hs i (y6m h hn hk i hb)
theorem follows (h : PairOk n lo hi) (hn : n <= 10) {ill x g : Nat} (hill : Sub ill (full lo)) (hg : q2h lo g) (h0 : g &&& ndiff (full lo) (bef lo hi ill) ≠ 0) (hx : Sub (g &&& ndiff (full lo) (bef lo hi ill)) x) (hne : ¬ Sub (ndiff (full lo) (bef lo hi ill)) x) :
  ∃ v, (ndiff (full lo) (bef lo hi ill)).testBit v = true /\ x.testBit v = false /\ blk lo v (ndiff (full lo) (bef lo hi ill) &&& x) = true := by
 have hle := h.lok.le10 hn;have ha0 : ndiff (full lo) (bef lo hi ill) ≠ 0 := by
  obtain ⟨i, _, h2⟩ := qsy.1 h0;exact nz.2 ⟨i, h2⟩
 obtain ⟨hs, hq⟩ := qen h hn hill ha0;have hb := qxe h hn hill hs;obtain ⟨_, _, hbi⟩ := q6d.1 hb;have hsb := ((qbp h hn).1 hbi).2;generalize hB : bef lo hi ill = b at *;apply Classical.byContradiction;intro hno;have hno' : ∀ v, (ndiff (full lo) b).testBit v = true -> x.testBit v = false -> blk lo v (ndiff (full lo) b &&& x) = false := fun v h1 h2 => by
  cases hk : blk lo v (ndiff (full lo) b &&& x) with
  | false => rfl
  | true => exact absurd ⟨v, h1, h2, hk⟩ hno
 have hdec : Sub (ndiff (full lo) b) (decl lo) := by rw [h.dec]; exact hq.2.1
 have hW0 : ndiff (ndiff (full lo) b) x ≠ 0 := fun e => hne (q3p.1 e)
 have hW : QL lo b (ndiff (ndiff (full lo) b) x) := by
  refine ⟨hW0, fun i hi => hdec i ?_, fun i hi => ?_, fun k hk => ?_⟩
  .rw [q02, aT] at hi; exact hi.1
  .rw [q02, q02] at hi; simp only [aT, Bool.not_eq_true'] at hi; exact hi.1.2
  .rw [q02 (ndiff (full lo) b) x, aT, Bool.not_eq_true'] at hk;have hkd := hdec k hk.1;have := hno' k hk.1 hk.2;unfold blk at this;rw [hkd, tA', Bool.not_eq_false'] at this;rw [<- this];apply qmb h.lok hn hkd;intro i hi;have h10 : (1023 : Nat).testBit i = true := by
    rw [qty, dT'] at hi;rw [qhd, dT']; omega
   rw [Nat.testBit_or, Nat.testBit_or, q02, q02, q02, Nat.testBit_and, q02, q60, hi, h10];by_cases hki : k = i
   .subst hki; rw [hk.2];have := hk.1;rw [q02, hi, tA'] at this;simp [this]
   .rw [decide_eq_false hki];cases b.testBit i <;> cases x.testBit i <;> rfl
 have hgl := q8z (qst b) (y3e hg) (by
  obtain ⟨i, h1, h2⟩ := qsy.1 h0;rw [q02, aT, Bool.not_eq_true'] at h2;exact qm5.2 ⟨i, h1, h2.2⟩)
 obtain ⟨i, i1, i2⟩ := qj7 hle hsb hW hgl;rw [q02, aT, Bool.not_eq_true'] at i1;rw [q02, aT] at i2;have := hx i (by rw [Nat.testBit_and, i2.1, i1.1]; rfl);rw [i1.2] at this;cases this
end Go.Proofs.YtglokalgdbegeaaGreat
namespace Go.Proofs.YtglokalgdbegeaaGreat
open Go Go.Ab
theorem qjd (l : List Val) (hl : l.length < 1152921504606846976) : ∀ (suf : List Val) (i : Nat) (o : Val), l.drop i = suf -> z1n o l ((l.length : Nat) : Int) (i : Int) = some (compV o suf, !decide (compV o suf = []))
 | [], i, o, h => by
  apply y3i;rw [q0q h]; rfl
 | y :: suf, i, o, h => by
  have hlt := q0j h;have hd : compV o (y :: suf) = compV (if vvl y = true /\ ltv o y then y else o) suf := rfl;apply y3i;rw [q0c h, cT, q08 h, qhp, bS, qdu, bS, y5g, q00 (by omega), qjd l hl suf (i + 1) y (q06 h), qjd l hl suf (i + 1) o (q06 h), hd];cases hv : vvl y <;> by_cases hc : ltv o y <;> simp [hc]
theorem qzm (l : List Val) (hl : l.length < 1152921504606846976) : z2v l = some (compV [] l, !decide (compV [] l = [])) := y70 _ _ (qjd l hl l 0 [] rfl)
structure TopV (l : List Val) (r : Val) : Prop where
 of : r = [] \/ r ∈ l /\ vvl r = true
 most : ∀ x ∈ l, vvl x = true -> ¬ ltv r x
theorem TopV.uniq {l m : List Val} {r s : Val} (hr : TopV l r) (hs : TopV m s) (h : ∀ x, vvl x = true -> (x ∈ l ↔ x ∈ m)) : r = s := by
 rcases hr.of with e1 | ⟨e1, v1⟩ <;> rcases hs.of with e2 | ⟨e2, v2⟩
 .rw [e1, e2]
 .exact absurd (by rw [e1]; exact qye v2) (hr.most s ((h s v2).2 e2) v2)
 .exact absurd (by rw [e2]; exact qye v1) (hs.most r ((h r v1).1 e1) v1)
 .apply Classical.byContradiction;intro hne;exact hr.most s ((h s v2).2 e2) v2 (q9q hne (hs.most r ((h r v1).1 e1) v1))
def alone3 : Trust := ⟨1, [3], []⟩
theorem qv2 {slot round : Int} : leadR alone3 3 slot round = 3 := by
 have h := (q4b (t := alone3) (v := 3) (by decide +kernel) slot round (by decide)).2;have hn := h.ngh;unfold nghB at hn;by_cases e : leadR alone3 3 slot round = 3
 .exact e
 .rw [decide_eq_false e, Bool.false_or] at hn;have : wgt (leadR alone3 3 slot round) alone3 = none := by
   rw [qoh];have : ([3] : List Int).contains (leadR alone3 3 slot round) = false := by simp [e]
   rw [show alone3.Nodes = [3] from rfl, this, show alone3.Inner = [] from rfl, wgts]; rfl
  rw [this] at hn; cases hn
def ownMe : Val := [109, 101]
theorem qrw : ∃ n, qn9 3 0 alone3 ownMe = (n, 0) /\ n.Candidates = [ownMe] := by
 have h1 : leadN (newN 3 0 alone3 ownMe) = [3] := by
  show (nodes (0 ||| bit (leadR alone3 3 0 1))).map Int.ofNat = _;rw [qv2]; decide +kernel
 refine ⟨q0m (leadN (newN 3 0 alone3 ownMe)) (newN 3 0 alone3 ownMe), ?_, ?_⟩
 .have hv : verr alone3 = 0 := (q5l _).2 (by decide +kernel);rw [qn9, if_neg (by decide), if_neg (by decide), if_neg (by rw [hv]; simp), if_neg (by decide)]
 .rw [h1]; decide +kernel
theorem y5i : law22_awake = some true := by
 apply law22_awake_le;obtain ⟨n, h1, h2⟩ := qrw;have hs : z25 3 0 ⟨1, [3], []⟩ [109, 101] = some (n, 0) := by
  rw [qke 3 0 (q25 (t := ⟨1, [3], []⟩) (by decide +kernel)) [109, 101] (by decide), <- h1]; rfl
 have hc : z2v [[98], [97, 97], [97, 98]] = some ([97, 98], true) := by
  rw [qzm _ (by decide)];rw [show compV [] [[98], [97, 97], [97, 98]] = [97, 98] by decide +kernel]; rfl
 rw [hc, hs];simp only [bS, cT, h2];rw [show eqS [97, 98] [97, 98] = true from by decide];rfl
def ListN (n : Nominator) : Prop := n.Candidates = [] -> ∀ u ∈ leadN n, ∀ x, mayV n x u -> x ∈ n.Votes
structure GoneN (n : Nominator) (k : Nat) : Prop where
 ready : ReadyN n
 seq : n.Seq <= (k : Int) + 1
 inv : InV n
 list : ListN n
structure StepF (n w : Nominator) : Prop where
 step : StepN n w
 inv : InV w
 list : ListN w
 from' : ∀ x ∈ w.Votes, x ∈ n.Votes \/ ∃ u ∈ leadN w, mayV w x u
 stop : n.Candidates ≠ [] -> w.Votes = n.Votes
 all : n.Candidates = [] -> ∀ u ∈ leadN w, ∀ x, mayV w x u -> x ∈ w.Votes
 own : w.Own = n.Own
theorem qru (n u : Nominator) : ∃ s A C, turned n u = { u with Seq := s, Votes := (q0n (leadN u) u).Votes, Accepts := A, Candidates := C } /\ (∀ x ∈ u.Candidates, x ∈ C) := by
 obtain ⟨s, _, g2, _⟩ := q4e n (q0m (leadN u) u);obtain ⟨A, C, f1, _, _, f4⟩ := q5f (leadN u) u;refine ⟨s, A, C, ?_, f4⟩;unfold turned;rw [g2, f1]
theorem StepF.same {n : Nominator} (h : ReadyN n) (hi : InV n) (hl : ListN n) : StepF n n :=
 ⟨⟨rfl, rfl, .inl rfl, fun _ h => h, fun _ h => h, fun _ h => h, fun _ => h, ⟨fun _ => ⟨rfl, rfl, rfl⟩, fun _ => rfl⟩⟩, hi, hl, fun _ h => .inl h, fun _ => rfl, hl, rfl⟩
theorem GoneN.next {n w : Nominator} {k : Nat} (h : GoneN n k) (hk : k < 1000) (hs : StepF n w) : GoneN w (k + 1) := by
 have := h.seq;have := hs.step.seq;exact ⟨hs.step.ready (by omega), by omega, hs.inv, hs.list⟩
theorem GoneN.up {n : Nominator} {k : Nat} (h : GoneN n k) : GoneN n (k + 1) := ⟨h.ready, by have := h.seq; omega, h.inv, h.list⟩
theorem qsr : ∀ (l : List Message) (ms : List Member) (k : Nat), (l.Pairwise fun a b => a.Node.toNat ≠ b.Node.toNat) -> k < ms.length -> (l.foldl seeM ms)[k]? = (match l.find? (fun m => decide (m.Node.toNat = k)) with | some m => some ⟨true, m.Trust⟩ | none => ms[k]?)
 | [], ms, k, _, _ => rfl
 | m :: l, ms, k, hd, hk => by
  have hd := List.pairwise_cons.1 hd;rw [List.foldl_cons, qsr l _ k hd.2 (by simpa [seeM] using hk), List.find?_cons];by_cases e : m.Node.toNat = k
  .have : l.find? (fun m => decide (m.Node.toNat = k)) = none := List.find?_eq_none.2 fun x hx => by
    have := hd.1 x hx;simp; omega
   simp [this, e, seeM, hk]
  .simp only [e, decide_false];cases hf : l.find? (fun m => decide (m.Node.toNat = k)) with
   | some y => rfl
   | none => exact List.getElem?_set_ne e
section
variable {n : Nominator} (h : ReadyN n)
include h
theorem ReadyN.byNode : (n.Heard.map msgOf).Pairwise fun a b => a.Node.toNat ≠ b.Node.toNat := by
 rw [List.pairwise_map];refine List.Pairwise.imp_of_mem (fun {a b} ha hb hab => ?_) h.asc;have h1 := q3y (q1z.1 (h.msg a ha).1).1;have h2 := q3y (q1z.1 (h.msg b hb).1).1;show a.Node.toNat ≠ b.Node.toNat;omega
theorem qd8 : (decl (viewN n)).testBit n.Node.toNat = true /\ tr (viewN n) n.Node.toNat = n.Trust := by
 have hg : (viewN n).Members[n.Node.toNat]? = some ⟨true, n.Trust⟩ := by
  rw [viewN, viewC, List.getElem?_set_self (by rw [q7w]; simpa using (q3y h.node).2)]
 exact ⟨q3s.2 ⟨(q3y h.node).2, _, hg, rfl⟩, by unfold tr; rw [hg]; rfl⟩
theorem qz4 {k : Nat} (hk : k < 10) (hn : k ≠ n.Node.toNat) : (viewN n).Members[k]? = match (n.Heard.map msgOf).find? (fun m => decide (m.Node.toNat = k)) with | some m => some ⟨true, m.Trust⟩ | none => some ⟨false, ⟨0, [], []⟩⟩ := by
 rw [viewN, viewC, List.getElem?_set_ne (fun e => hn e.symm), qsr _ _ _ h.byNode (by simpa using hk)];cases (n.Heard.map msgOf).find? (fun m => decide (m.Node.toNat = k)) with
 | some m => rfl
 | none =>
  show (List.replicate 10 (⟨false, ⟨0, [], []⟩⟩ : Member))[k]? = _;rw [List.getElem?_replicate, if_pos hk]
theorem qi8 {m : Nomination} (hm : m ∈ n.Heard) : (decl (viewN n)).testBit m.Node.toNat = true /\ tr (viewN n) m.Node.toNat = m.Trust := by
 obtain ⟨g1, g2⟩ := h.msg m hm;have hb := q3y (q1z.1 g1).1;have hb' := q3y h.node;have hg : (viewN n).Members[m.Node.toNat]? = some ⟨true, m.Trust⟩ := by
  rw [qz4 h hb.2 (by omega)];cases hf : (n.Heard.map msgOf).find? (fun k => decide (k.Node.toNat = m.Node.toNat)) with
  | none =>
   have := List.find?_eq_none.1 hf (msgOf m) (List.mem_map_of_mem hm);simp [msgOf] at this
  | some y =>
   have h1 := List.mem_of_find?_eq_some hf;have h2 := List.find?_some hf;rw [dT'] at h2;obtain ⟨k, hk, rfl⟩ := List.mem_map.1 h1;have : k = m := by
    obtain ⟨i, hi, rfl⟩ := List.mem_iff_getElem.1 hk;obtain ⟨j, hj, rfl⟩ := List.mem_iff_getElem.1 hm;have hi0 := q3y (q1z.1 (h.msg _ hk).1).1;have h2' : n.Heard[i].Node.toNat = n.Heard[j].Node.toNat := h2;rcases Nat.lt_trichotomy i j with c | c | c
    .have := List.pairwise_iff_getElem.1 h.asc i j hi hj c;omega
    .subst c; rfl
    .have := List.pairwise_iff_getElem.1 h.asc j i hj hi c;omega
   subst this; rfl
 exact ⟨q3s.2 ⟨hb.2, _, hg, rfl⟩, by unfold tr; rw [hg]; rfl⟩
end
theorem qa7 {p : Nomination -> Bool} : ∀ (l : List Nomination) (s i : Nat), (whoN p s l).testBit i = true ↔ s.testBit i = true \/ ∃ m ∈ l, p m = true /\ m.Node.toNat = i
 | [], s, i => by simp [whoN]
 | m :: l, s, i => by
  rw [qd2, qa7 l];cases hp : p m with
  | true =>
   simp only [if_true];rw [Nat.testBit_or, Bool.or_eq_true, bit, q60, dT'];constructor
   .rintro ((h | h) | ⟨x, h1, h2⟩)
    .exact .inl h
    .exact .inr ⟨m, by simp, hp, h⟩
    .exact .inr ⟨x, by simp [h1], h2⟩
   .rintro (h | ⟨x, h1, h2, h3⟩)
    .exact .inl (.inl h)
    .rcases List.mem_cons.1 h1 with e | h1
     .subst e; exact .inl (.inr h3)
     .exact .inr ⟨x, h1, h2, h3⟩
  | false =>
   simp only [fT, if_false];constructor
   .rintro (h | ⟨x, h1, h2⟩)
    .exact .inl h
    .exact .inr ⟨x, by simp [h1], h2⟩
   .rintro (h | ⟨x, h1, h2, h3⟩)
    .exact .inl h
    .rcases List.mem_cons.1 h1 with e | h1
     .subst e; rw [hp] at h2; cases h2
     .exact .inr ⟨x, h1, h2, h3⟩
theorem qb6 {l : List Nomination} {x : Val} {i : Nat} : (q6l l x).testBit i = true ↔ ∃ m ∈ l, x ∈ m.Votes /\ m.Node.toNat = i := by
 rw [q6l, qa7]; simp
theorem q37 {l : List Nomination} {x : Val} {i : Nat} : (accsN l x).testBit i = true ↔ ∃ m ∈ l, x ∈ m.Accepts /\ m.Node.toNat = i := by
 rw [accsN, qa7]; simp
theorem y4g (p : Nat -> Prop) : ∀ n : Nat, ∃ X : Nat, X < 2 ^ n /\ ∀ i, X.testBit i = true ↔ i < n /\ p i
 | 0 => ⟨0, by simp, fun i => by simp⟩
 | n + 1 => by
  obtain ⟨X, h1, h2⟩ := y4g p n;by_cases hp : p n
  .refine ⟨X ||| 2 ^ n, Nat.or_lt_two_pow (Nat.lt_trans h1 (Nat.pow_lt_pow_right (by decide) (by omega))) (Nat.pow_lt_pow_right (by decide) (by omega)), fun i => ?_⟩;rw [Nat.testBit_or, Bool.or_eq_true, h2, q60, dT'];constructor
   .rintro (⟨a, b⟩ | e)
    .exact ⟨by omega, b⟩
    .subst e; exact ⟨by omega, hp⟩
   .rintro ⟨a, b⟩;by_cases e : n = i
    .exact .inr e
    .exact .inl ⟨by omega, b⟩
  .refine ⟨X, Nat.lt_trans h1 (Nat.pow_lt_pow_right (by decide) (by omega)), fun i => ?_⟩;rw [h2];constructor
   .rintro ⟨a, b⟩; exact ⟨by omega, b⟩
   .rintro ⟨a, b⟩;have : i ≠ n := fun e => hp (by rw [<- e]; exact b)
    exact ⟨by omega, b⟩
theorem qus {n : Nat} {lo hi : Config} (h : PairOk n lo hi) (hn : n <= 10) {ill x g : Nat} (hill : Sub ill (full lo)) (hgl : QL lo (bef lo hi ill) g) (ha0 : ndiff (full lo) (bef lo hi ill) ≠ 0) (hx : Sub g x) (hne : ¬ Sub (ndiff (full lo) (bef lo hi ill)) x) :
  ∃ v, (ndiff (full lo) (bef lo hi ill)).testBit v = true /\ x.testBit v = false /\ blk lo v (ndiff (full lo) (bef lo hi ill) &&& x) = true := by
 have hle := h.lok.le10 hn;obtain ⟨hs, hq⟩ := qen h hn hill ha0;have hb := qxe h hn hill hs;obtain ⟨_, _, hbi⟩ := q6d.1 hb;have hsb := ((qbp h hn).1 hbi).2;generalize hB : bef lo hi ill = b at *;apply Classical.byContradiction;intro hno;have hno' : ∀ v, (ndiff (full lo) b).testBit v = true -> x.testBit v = false -> blk lo v (ndiff (full lo) b &&& x) = false := fun v h1 h2 => by
  cases hk : blk lo v (ndiff (full lo) b &&& x) with
  | false => rfl
  | true => exact absurd ⟨v, h1, h2, hk⟩ hno
 have hdec : Sub (ndiff (full lo) b) (decl lo) := by rw [h.dec]; exact hq.2.1
 have hW0 : ndiff (ndiff (full lo) b) x ≠ 0 := fun e => hne (q3p.1 e)
 have hW : QL lo b (ndiff (ndiff (full lo) b) x) := by
  refine ⟨hW0, fun i hi => hdec i ?_, fun i hi => ?_, fun k hk => ?_⟩
  .rw [q02, aT] at hi; exact hi.1
  .rw [q02, q02] at hi; simp only [aT, Bool.not_eq_true'] at hi; exact hi.1.2
  .rw [q02 (ndiff (full lo) b) x, aT, Bool.not_eq_true'] at hk;have hkd := hdec k hk.1;have := hno' k hk.1 hk.2;unfold blk at this;rw [hkd, tA', Bool.not_eq_false'] at this;rw [<- this];apply qmb h.lok hn hkd;intro i hi;have h10 : (1023 : Nat).testBit i = true := by
    rw [qty, dT'] at hi;rw [qhd, dT']; omega
   rw [Nat.testBit_or, Nat.testBit_or, q02, q02, q02, Nat.testBit_and, q02, q60, hi, h10];by_cases hki : k = i
   .subst hki; rw [hk.2];have := hk.1;rw [q02, hi, tA'] at this;simp [this]
   .rw [decide_eq_false hki];cases b.testBit i <;> cases x.testBit i <;> rfl
 obtain ⟨i, i1, i2⟩ := qj7 hle hsb hW hgl;rw [q02, aT, Bool.not_eq_true'] at i1;have := hx i i2;rw [i1.2] at this;cases this
structure Knows (c : Config) (G : Nat) (S : Nat -> Nominator) (b : Nat) : Prop where
 ready : ReadyN (S b)
 set : SetN (S b)
 node : (S b).Node = (b : Int)
 trust : (S b).Trust = tr c b
 room : (S b).Accepts.length < 40
 heard : ∀ a, G.testBit a = true -> a ≠ b -> ∃ m ∈ (S b).Heard, m.Node = (a : Int) /\ m.Trust = tr c a /\ m.Accepts = (S a).Accepts
 cand : ∀ x ∈ (S b).Candidates, ∃ U, U.testBit b = true /\ U < 1024 /\ ∀ k, U.testBit k = true -> G.testBit k = true -> x ∈ (S k).Accepts /\ sat U (tr c k) = true
theorem agree {n : Nat} {c : Config} (hc : ConfOk n c) (hn : n <= 10) {ill : Nat} (hill : Sub ill (full c)) {S : Nat -> Nominator} (hS : ∀ b, (ndiff (full c) ill).testBit b = true -> Knows c (ndiff (full c) ill) S b) {a v : Nat} (ha : (ndiff (full c) (bef c c ill)).testBit a = true) (hv : (ndiff (full c) (bef c c ill)).testBit v = true) :
  ∀ x ∈ (S a).Candidates, x ∈ (S v).Candidates := by
 intro x hx;have h := PairOk.self hc;have hI0 : ndiff (full c) (bef c c ill) ≠ 0 := nz.2 ⟨a, ha⟩;obtain ⟨hs, hq⟩ := qen h hn hill hI0;have hbi := y5v (lo := c) (hi := c) hill;have hIG : ∀ k, (ndiff (full c) (bef c c ill)).testBit k = true -> (ndiff (full c) ill).testBit k = true := fun k hk => by
  rw [q02, aT, Bool.not_eq_true'] at hk ⊢;refine ⟨hk.1, ?_⟩;cases e : ill.testBit k with
  | false => rfl
  | true => rw [hbi k e] at hk; cases hk.2
 have hIlt : ndiff (full c) (bef c c ill) < 1024 := qw3 hq;obtain ⟨U, u1, u2, u3⟩ := (hS a (hIG a ha)).cand x hx;obtain ⟨X, x1, x2⟩ := y4g (fun k => (ndiff (full c) (bef c c ill)).testBit k = true /\ x ∈ (S k).Accepts) 10;have hsplit : ∀ i, (full c).testBit i = true -> (bef c c ill).testBit i = false -> (ndiff (full c) (bef c c ill)).testBit i = true := fun i h1 h2 => by rw [q02, h1, h2]; rfl
 have hoff : ∀ i, (ndiff (full c) (bef c c ill)).testBit i = true -> (bef c c ill).testBit i = false := fun i h1 => by
  rw [q02, aT, Bool.not_eq_true'] at h1; exact h1.2
 generalize hI : ndiff (full c) (bef c c ill) = I at *;have hg : QL c (bef c c ill) (U &&& I) := by
  refine ⟨nz.2 ⟨a, by rw [Nat.testBit_and, u1, ha]; rfl⟩, fun i hi => ?_, fun i hi => ?_, fun k hk => ?_⟩
  .rw [Nat.testBit_and, aT] at hi; exact hq.2.1 i hi.2
  .rw [Nat.testBit_and, aT] at hi; exact hoff i hi.2
  .rw [Nat.testBit_and, aT] at hk;have hsat := (u3 k hk.1 (hIG k hk.2)).2;have e : sat (U &&& full c) (tr c k) = sat U (tr c k) := qmb hc hn (hq.2.1 k hk.2) fun i hi => by rw [Nat.testBit_and, hi, Bool.and_true]
   rw [<- e] at hsat;refine qhe (fun i hi => ?_) hsat;rw [Nat.testBit_and, aT] at hi;rw [Nat.testBit_or, Nat.testBit_and, hi.1];cases hb : (bef c c ill).testBit i with
   | true => simp
   | false => rw [hsplit i hi.2 hb]; rfl
 have hgX : Sub (U &&& I) X := fun i hi => by
  rw [Nat.testBit_and, aT] at hi;exact (x2 i).2 ⟨q5t hIlt hi.2, hi.2, (u3 i hi.1 (hIG i hi.2)).1⟩
 have haX : X.testBit a = true := hgX a (by rw [Nat.testBit_and, u1, ha]; rfl);have hIX : Sub I X := by
  apply Classical.byContradiction;intro hne;obtain ⟨w, w1, w2, w3⟩ := qus h hn hill hg (by rw [hI]; exact hI0) hgX (by rw [hI]; exact hne);rw [hI] at w1 w3;have K := hS w (hIG w w1);have hxw : x ∉ (S w).Accepts := fun e => by
   have := (x2 w).2 ⟨q5t hIlt w1, w1, e⟩;rw [w2] at this; cases this
  have hne' : ∀ i, X.testBit i = true -> i ≠ w := fun i hi e => by rw [e, w2] at hi; cases hi
  have hacc : Sub (I &&& X) (accsN (allN (S w)) x) := fun i hi => by
   rw [Nat.testBit_and, aT] at hi;obtain ⟨m, m1, m2, m3, m4⟩ := K.heard i (hIG i hi.1) (hne' i hi.2);exact q37.2 ⟨m, List.mem_append_left _ m1, by rw [m4]; exact ((x2 i).1 hi.2).2.2, by rw [m2]; simp⟩
  have hblk : blk (viewN (S w)) w (accsN (allN (S w)) x) = true := by
   have o := qd8 K.ready;rw [K.node, tN] at o;refine y08 hacc ?_;unfold blk at w3 ⊢;rw [aT] at w3;rw [o.1, o.2, K.trust]; exact w3.2
  have hcan : canN (S w) x = true := by
   unfold canN accB;rw [K.node, tN, hblk, decide_eq_false hxw, decide_eq_true K.room]; rfl
  have hkn : x ∈ qba (S w) := by
   obtain ⟨m, m1, m2, m3, m4⟩ := K.heard a (hIG a ha) (hne' a haX);exact q2a.2 (q7l.2 ⟨m, List.mem_append_left _ m1, .inr (by rw [m4]; exact ((x2 a).1 haX).2.2)⟩)
  have := qkk K.set.next x hkn;rw [hcan] at this; cases this
 have K := hS v (hIG v hv);have hin : ∀ i, I.testBit i = true -> x ∈ (S i).Accepts := fun i hi => ((x2 i).1 (hIX i hi)).2.2
 have hall : Sub I (accsN (allN (S v)) x) := fun i hi => by
  by_cases e : i = v
  .subst e;exact q37.2 ⟨sayN (S i), by simp [allN], hin i hi, by show (S i).Node.toNat = i; rw [K.node]; simp⟩
  .obtain ⟨m, m1, m2, m3, m4⟩ := K.heard i (hIG i hi) e;exact q37.2 ⟨m, List.mem_append_left _ m1, by rw [m4]; exact hin i hi, by rw [m2]; simp⟩
 have hkey : ∀ i, I.testBit i = true -> (decl (viewN (S v))).testBit i = true /\ tr (viewN (S v)) i = tr c i := fun i hi => by
  by_cases e : i = v
  .subst e;have o := qd8 K.ready;rw [K.node, tN, K.trust] at o;exact o
  .obtain ⟨m, m1, m2, m3, m4⟩ := K.heard i (hIG i hi) e;have o := qi8 K.ready m1;rw [m2, tN, m3] at o;exact o
 have hQ : q2h (viewN (S v)) I := ⟨hq.1, fun i hi => (hkey i hi).1, fun k hk => by rw [(hkey k hk).2]; exact hq.2.2 k hk⟩;refine K.set.conf x (hin v hv) ?_;unfold confN confB;rw [K.node, tN];exact q69 _ (qa9 K.ready.all x) hQ hall v hv
theorem qzt {n s : Nat} (hn : n <= 10) : sat s (flat n n) = true ↔ ∀ i, i < n -> s.testBit i = true := by
 have e : sats s (flat n n).Inner = 0 := rfl;rw [qb8, dT', e, Nat.add_zero];have hl : (ints' n).length = n := qgq n;have hle : cnt s (ints' n) <= (ints' n).length := List.countP_le_length;constructor
 .intro h i hi;have h : (n : Int) <= ((cnt s (ints' n) : Nat) : Int) := h;have hc : (ints' n).countP (has s) = (ints' n).length := by show cnt s (ints' n) = _; omega
  have := (List.countP_eq_length.1 hc) (i : Int) (List.mem_map.2 ⟨i, List.mem_range.2 hi, rfl⟩);rw [q3m (by omega)] at this; exact this
 .intro h;have hc : (ints' n).countP (has s) = (ints' n).length := List.countP_eq_length.2 fun k hk => by
   obtain ⟨i, hi, rfl⟩ := List.mem_map.1 hk;have hi := List.mem_range.1 hi;show has s (i : Int) = true;rw [q3m (by omega)]; exact h i hi
  show (n : Int) <= ((cnt s (ints' n) : Nat) : Int);have : cnt s (ints' n) = (ints' n).length := hc;omega
theorem qsk {n : Nat} {v slot round k : Int} (hv : 0 <= v /\ v < (n : Int)) : nghB (flat n n) v slot round k = decide (0 <= k /\ k < (n : Int)) := by
 unfold nghB;rw [qoh];by_cases h : 0 <= k /\ k < (n : Int)
 .have hc : (flat n n).Nodes.contains k = true := by
   show (ints' n).contains k = true;rw [List.contains_iff_mem];exact List.mem_map.2 ⟨k.toNat, List.mem_range.2 (by omega), by show ((k.toNat : Nat) : Int) = k; omega⟩
  rw [hc, if_pos rfl, decide_eq_true h];have hr := qa0 1 slot round k;have e : (flat n n).Threshold = (n : Int) := rfl;have e2 : (flat n n).Nodes.length + (flat n n).Inner.length = n := by show (ints' n).length + 0 = n; rw [qgq, Nat.add_zero]
  simp only [e, e2];have : hsh 1 slot round k * (n : Int) < (n : Int) * 4294967296 := by
   rw [Int.mul_comm];exact Int.mul_lt_mul_of_pos_left hr.2 (by omega)
  simp [this]
 .have hc : (flat n n).Nodes.contains k = false := by
   cases e : (flat n n).Nodes.contains k with
   | false => rfl
   | true =>
    rw [List.contains_iff_mem] at e;exact absurd (qsq k e) h
  have hkv : k ≠ v := fun e => h (by rw [e]; exact hv)
  rw [hc, decide_eq_false h, decide_eq_false hkv, show (flat n n).Inner = [] from rfl, wgts]; rfl
theorem y0n {n : Nat} (hn : n <= 10) {v w slot round : Int} (hv : 0 <= v /\ v < (n : Int)) (hw : 0 <= w /\ w < (n : Int)) : leadR (flat n n) v slot round = leadR (flat n n) w slot round := by
 have hval : valid (flat n n) = true := qar hn (by omega) (by omega);have h1 := (q4b hval slot round (v := v) (by simp [inR]; omega)).2;have h2 := (q4b hval slot round (v := w) (by simp [inR]; omega)).2;have e : nghB (flat n n) v slot round = nghB (flat n n) w slot round := by funext k; rw [qsk hv, qsk hw]
 rw [e] at h1;exact h1.uniq h2
theorem qqt {n : Nat} (hn : n <= 10) {v slot round : Int} (hv : 0 <= v /\ v < (n : Int)) : 0 <= leadR (flat n n) v slot round /\ leadR (flat n n) v slot round < (n : Int) := by
 have hval : valid (flat n n) = true := qar hn (by omega) (by omega);have h1 := (q4b hval slot round (v := v) (by simp [inR]; omega)).2.ngh;rw [qsk hv, dT'] at h1; exact h1
theorem qzq : ∀ i : Fin 10, (nodes (0 ||| 2 ^ i.val)).map Int.ofNat = [(i.val : Int)] := by decide +kernel
theorem qq5 {t : Trust} {v slot : Int} (h : inR (leadR t v slot 1) = true) : leadL t v slot 1 = [leadR t v slot 1] := by
 obtain ⟨h0, h1⟩ := q3y h;have := qzq ⟨(leadR t v slot 1).toNat, h1⟩;show (nodes (0 ||| bit (leadR t v slot 1))).map Int.ofNat = _;rw [bit];refine this.trans ?_;show [(((leadR t v slot 1).toNat : Nat) : Int)] = _;rw [Int.toNat_of_nonneg h0]
theorem qdz (Q : Val -> Prop) : ∀ (k : Nat) (n : Nominator), (∀ x ∈ n.Votes, Q x) -> (∀ x ∈ n.Accepts, Q x) -> (∀ m ∈ n.Heard, (∀ x ∈ m.Votes, Q x) /\ ∀ x ∈ m.Accepts, Q x) -> ∀ x ∈ (q2s k n).Accepts, Q x
 | 0, n, _, h2, _ => h2
 | k + 1, n, h1, h2, h3 => by
  rw [q2s];cases hx : nextN n with
  | none => exact h2
  | some y =>
   refine qdz Q k (qcj n y) h1 (fun x hx' => ?_) h3;rcases q67 hx' with e | e
   .exact h2 x e
   .rw [e];obtain ⟨m, hm, hx⟩ := q7l.1 (q2a.1 (qad hx).1);rcases List.mem_append.1 hm with hm | hm
    .rcases hx with hx | hx
     .exact (h3 m hm).1 y hx
     .exact (h3 m hm).2 y hx
    .simp at hm; subst hm;rcases hx with hx | hx
     .exact h1 y hx
     .exact h2 y hx
theorem q65 {V : List Val} {W : Val} (h : q0y V = true) (hv : ∀ x ∈ V, x = W) : V.length <= 1 := by
 have := q8e (B := [W]) (q0i.1 h).2.1 fun x hx => by simp [hv x hx]
 simpa using this
theorem qkt {V : List Val} {W : Val} (h : q0y V = true) (hv : ∀ x ∈ V, x = W) (hW : W ∈ V) : V = [W] := by
 have := q65 h hv;cases V with
 | nil => simp at hW
 | cons y r =>
  cases r with
  | nil => rw [hv y (by simp)]
  | cons _ _ => simp at this
structure AllB (n : Nat) (slot : Int) (lead : Nat) (W : Val) (S : List Nominator) (b : Nat) : Prop where
 ready : ReadyN (atN S b)
 node : (atN S b).Node = (b : Int)
 slot : (atN S b).Slot = slot
 round : (atN S b).Round = 1
 tr : (atN S b).Trust = flat n n
 own : b = lead -> (atN S b).Own = W
 set : SetN (atN S b)
 votes : ∀ v ∈ (atN S b).Votes, v = W
 accs : ∀ v ∈ (atN S b).Accepts, v = W
 heard : ∀ m ∈ (atN S b).Heard, ∃ a, a < n /\ m.Node = (a : Int) /\ m.Trust = flat n n /\ (∀ v ∈ m.Votes, v = W) /\ (∀ v ∈ m.Accepts, v = W) /\ m.Seq <= (atN S a).Seq /\ (m.Seq = (atN S a).Seq -> m.Votes = (atN S a).Votes /\ m.Accepts = (atN S a).Accepts) /\ (a = lead -> W ∈ m.Votes)
 leadv : b = lead -> W ∈ (atN S b).Votes
 hl : (∃ m ∈ (atN S b).Heard, m.Node = (lead : Int)) -> W ∈ (atN S b).Votes
 cl : (atN S b).Candidates ≠ [] -> b = lead \/ ∃ m ∈ (atN S b).Heard, m.Node = (lead : Int)
 seqb : (atN S b).Seq <= 1 + (((atN S b).Votes.length + (atN S b).Accepts.length : Nat) : Int)
structure AllI (n : Nat) (slot : Int) (lead : Nat) (W : Val) (S : List Nominator) : Prop where
 len : S.length = n
 all : ∀ b, b < n -> AllB n slot lead W S b
theorem qvx {m : Nomination} {k : Int} {l : List Nomination} (h : ∃ x ∈ l, x.Node = k) : ∃ x ∈ q19 m l, x.Node = k := by
 obtain ⟨x, h1, h2⟩ := h;by_cases e : x.Node = m.Node
 .exact ⟨m, q4g, by rw [<- e]; exact h2⟩
 .exact ⟨x, qbx e h1, h2⟩
theorem y2g {n : Nat} (hn : n <= 10) {lead : Nat} (hlead : lead < n) {w : Nominator} (hw : ReadyN w) (ht : w.Trust = flat n n) {x : Val} (hc : confN w x = true) : w.Node = (lead : Int) \/ ∃ m ∈ w.Heard, m.Node = (lead : Int) := by
 obtain ⟨n1, n2⟩ := hw.node';have hlt := qa9 hw.all x;unfold confN confB at hc;have h0 : q29 (viewN w) (accsN (allN w) x) ≠ 0 := nz.2 ⟨_, hc⟩;have hQ := q99 (viewN w) hlt h0;have hs := hQ.2.2 _ hc;rw [(qd8 hw).2, ht, qzt hn] at hs;have hl := q6k (viewN w) hlt _ (hs lead hlead);rw [Nat.testBit_and, aT] at hl;obtain ⟨m, hm, _, hm2⟩ := q37.1 hl.1;have hb := q3y (q1z.1 (hw.all m hm)).1;rcases List.mem_append.1 hm with hm | hm
 .exact .inr ⟨m, hm, by omega⟩
 .simp at hm; subst hm;have hm2 : w.Node.toNat = lead := hm2;exact .inl (by omega)
theorem qv4 {n u : Nominator} (hu : ReadyN u) : SetN (turned n u) := by
 obtain ⟨s, _, g2, _⟩ := q4e n (q0m (leadN u) u);unfold turned;rw [g2];exact (q9x hu (leadN u)).cong rfl rfl rfl rfl rfl rfl
theorem qrs (Q : Val -> Prop) {n u : Nominator} (h1 : ∀ x ∈ (q0n (leadN u) u).Votes, Q x) (h2 : ∀ x ∈ u.Accepts, Q x) (h3 : ∀ m ∈ u.Heard, (∀ x ∈ m.Votes, Q x) /\ ∀ x ∈ m.Accepts, Q x) : ∀ x ∈ (turned n u).Accepts, Q x := by
 obtain ⟨s, _, g2, _⟩ := q4e n (q0m (leadN u) u);unfold turned;rw [g2];have e : q0n (leadN u) u = { u with Votes := (q0n (leadN u) u).Votes } := by unfold q0n; split <;> rfl
 have hA : (q0n (leadN u) u).Accepts = u.Accepts := by rw [e]
 have hH : (q0n (leadN u) u).Heard = u.Heard := by rw [e]
 exact qdz Q 60 (q0n (leadN u) u) h1 (by rw [hA]; exact h2) (by rw [hH]; exact h3)
theorem qs7 {n u : Nominator} (x : Val) (hx : x ∈ (turned n u).Candidates) : x ∈ u.Candidates \/ confN (turned n u) x = true := by
 obtain ⟨s, _, g2, _⟩ := q4e n (q0m (leadN u) u);unfold turned at hx ⊢;rw [g2] at hx ⊢;rcases qlw (leadN u) hx with h | h
 .exact .inl h
 .exact .inr (by rw [<- h.2]; refine qah ?_ ?_ ?_ ?_ x <;> rfl)
theorem qdv {A B : List Val} (hA : Asc A) (hB : Asc B) (h : ∀ x ∈ A, x ∈ B) (hl : B.length <= A.length) : A = B := by
 refine qlq hA hB fun x => ⟨h x, fun hx => ?_⟩
 apply Classical.byContradiction;intro hno;have : (x :: A).Nodup := List.nodup_cons.2 ⟨hno, qef hA⟩;have := q58 (B := B) this fun y hy => by
  rcases List.mem_cons.1 hy with e | hy
  .rw [e]; exact hx
  .exact h y hy
 simp at this; omega
theorem StepN.seqb {n w : Nominator} (hn : ReadyN n) (h : StepN n w) (hw : ReadyN w) (ht : n.Trust = w.Trust) (hb : n.Seq <= 1 + ((n.Votes.length + n.Accepts.length : Nat) : Int)) : w.Seq <= 1 + ((w.Votes.length + w.Accepts.length : Nat) : Int) := by
 have l1 := q8e (q0i.1 hn.votes).2.1 h.votes;have l2 := q8e (q0i.1 hn.accs).2.1 h.accs;rcases h.seq with e | e
 .omega
 .by_cases hlt : n.Votes.length + n.Accepts.length < w.Votes.length + w.Accepts.length
  .omega
  .have e1 := qdv (q0i.1 hn.votes).2.1 (q0i.1 hw.votes).2.1 h.votes (by omega);have e2 := qdv (q0i.1 hn.accs).2.1 (q0i.1 hw.accs).2.1 h.accs (by omega);have := h.chg.2 ⟨ht, e1, e2⟩;omega
theorem AllB.leads {n : Nat} (hn : n <= 10) {slot : Int} {lead : Nat} (hlead : lead < n) {W : Val} (hlr : ∀ b : Nat, b < n -> leadR (flat n n) (b : Int) slot 1 = (lead : Int)) {S : List Nominator} {b : Nat} (hb : b < n) (h : AllB n slot lead W S b) : leadN (atN S b) = [(lead : Int)] := by
 unfold leadN;rw [h.tr, h.node, h.slot, h.round, qq5 (by rw [hlr b hb]; simp [inR]; omega), hlr b hb]
theorem y1i {n : Nat} (hn : n <= 10) {slot : Int} {lead : Nat} (hlead : lead < n) {W : Val} (hlr : ∀ b : Nat, b < n -> leadR (flat n n) (b : Int) slot 1 = (lead : Int)) {S : List Nominator} (hS : AllI n slot lead W S) {a b : Nat} (ha : a < n) (hb : b < n) (hab : a ≠ b) (ho : oldN (atN S b).Heard (sayN (atN S a)) = false) : AllI n slot lead W (S.set b (q14 S a b)) := by
 have hl := hS.len;have hset := qxt (S := S) (b := b) (by omega) (q14 S a b);have B := hS.all b hb;have A := hS.all a ha;have hne : (sayN (atN S a)).Node ≠ (atN S b).Node := by show (atN S a).Node ≠ _; rw [A.node, B.node]; omega
 have hu := B.ready.withH A.ready.say hne;have hst := (qkr (n := atN S b) hu (leadN { atN S b with Heard := q19 (sayN (atN S a)) (atN S b).Heard }) rfl rfl rfl rfl rfl rfl).1;have hst : StepN (atN S b) (q14 S a b) := hst;obtain ⟨s, Ac, Cc, ef, hCc⟩ := qru (atN S b) { atN S b with Heard := q19 (sayN (atN S a)) (atN S b).Heard };have hLu : leadN { atN S b with Heard := q19 (sayN (atN S a)) (atN S b).Heard } = [(lead : Int)] := AllB.leads hn hlead hlr hb B;have hvot : ∀ v ∈ (q0n (leadN { atN S b with Heard := q19 (sayN (atN S a)) (atN S b).Heard }) { atN S b with Heard := q19 (sayN (atN S a)) (atN S b).Heard }).Votes, v = W := by
  intro v hv;unfold q0n at hv;split at hv
  .rcases qt0 _ hv with e | ⟨u, hu1, hu2⟩
   .exact B.votes v e
   .rw [hLu, List.mem_singleton] at hu1;rcases hu2 with ⟨e1, e2, _⟩ | ⟨_, m, hm, _, hx⟩
    .have e1 : u = (atN S b).Node := e1;have : b = lead := by rw [hu1, B.node] at e1; omega
     rw [e2]; exact B.own this
    .rcases q7p hm with e | e
     .subst e;rcases hx with hx | hx
      .exact A.votes v hx
      .exact A.accs v hx
     .obtain ⟨_, _, _, _, q1, q2, _⟩ := B.heard m e;rcases hx with hx | hx
      .exact q1 v hx
      .exact q2 v hx
  .exact B.votes v hv
 have hhd : ∀ m ∈ q19 (sayN (atN S a)) (atN S b).Heard, (∀ x ∈ m.Votes, x = W) /\ ∀ x ∈ m.Accepts, x = W := fun m hm => by
  rcases q7p hm with e | e
  .subst e; exact ⟨A.votes, A.accs⟩
  .obtain ⟨_, _, _, _, q1, q2, _⟩ := B.heard m e;exact ⟨q1, q2⟩
 have hwv : ∀ v ∈ (q14 S a b).Votes, v = W := by unfold q14; rw [ef]; exact hvot
 have hwa : ∀ v ∈ (q14 S a b).Accepts, v = W := qrs (fun x => x = W) hvot B.accs hhd;have hwH : (q14 S a b).Heard = q19 (sayN (atN S a)) (atN S b).Heard := by unfold q14; rw [ef]
 have hwt : (q14 S a b).Trust = flat n n := by unfold q14; rw [ef]; exact B.tr
 have hwr : (q14 S a b).Round = 1 := by unfold q14; rw [ef]; exact B.round
 have hwo : (q14 S a b).Own = (atN S b).Own := by unfold q14; rw [ef]
 have hbl := q65 B.ready.votes B.votes;have hal := q65 B.ready.accs B.accs;have hsq := B.seqb;have hready : ReadyN (q14 S a b) := hst.ready (by have := hst.seq; omega);have hwn : (q14 S a b).Node = (b : Int) := by rw [hst.node]; exact B.node
 have hhl : (∃ m ∈ (q14 S a b).Heard, m.Node = (lead : Int)) -> W ∈ (q14 S a b).Votes := fun hm => by
  by_cases hold : ∃ m ∈ (atN S b).Heard, m.Node = (lead : Int)
  .exact hst.votes W (B.hl hold)
  .by_cases hbl' : b = lead
   .exact hst.votes W (B.leadv hbl')
   .have hcn : (atN S b).Candidates = [] := by
     cases hc : (atN S b).Candidates with
     | nil => rfl
     | cons y r =>
      rcases B.cl (by rw [hc]; simp) with e | e
      .exact absurd e hbl'
      .exact absurd e hold
    have hlead' : a = lead := by
     obtain ⟨m, hm1, hm2⟩ := hm;rw [hwH] at hm1;rcases q7p hm1 with e | e
     .subst e;have hm2 : (atN S a).Node = (lead : Int) := hm2;rw [A.node] at hm2; omega
     .exact absurd ⟨m, e, hm2⟩ hold
    have hmay : mayV { atN S b with Heard := q19 (sayN (atN S a)) (atN S b).Heard } W (lead : Int) := by
     refine .inr ⟨?_, sayN (atN S a), q4g, ?_, .inl ?_⟩
     .show (lead : Int) ≠ (atN S b).Node;rw [B.node]; omega
     .show (atN S a).Node = _;rw [A.node, hlead']
     .exact A.leadv hlead'
    unfold q14;rw [ef];show W ∈ (q0n _ _).Votes;rw [hLu, q0n, if_pos (show ({ atN S b with Heard := q19 (sayN (atN S a)) (atN S b).Heard } : Nominator).Candidates = [] from hcn)];show W ∈ qd7 [(lead : Int)] _;unfold qd7;simp only [List.foldl_cons, List.foldl_nil];have hroom : ∀ V : List Val, q0y V = true -> (∀ v ∈ V, v = W) -> V.length < 40 := fun V h1 h2 => by have := q65 h1 h2; omega
    unfold leadV;rw [if_neg (show ¬ (lead : Int) = (atN S b).Node by rw [B.node]; omega)];have key : ∀ (l : List Nomination) (V : List Val), q0y V = true -> (∀ v ∈ V, v = W) -> (∀ m ∈ l, nomB m = true /\ (∀ x ∈ m.Votes, x = W) /\ ∀ x ∈ m.Accepts, x = W) -> (∃ m ∈ l, m.Node = (lead : Int) /\ W ∈ m.Votes) -> W ∈ l.foldl (fun V m => if m.Node = (lead : Int) then q7d V (setV (m.Votes ++ m.Accepts)) else V) V := by
     intro l;induction l with
     | nil => intro V _ _ _ ⟨m, hm, _⟩; simp at hm
     | cons m l ih =>
      intro V hV hVi hl ⟨k, hk, hk1, hk2⟩;obtain ⟨q1, q2, q3⟩ := hl m (by simp);have hs : ∀ y ∈ setV (m.Votes ++ m.Accepts), y = W := fun y hy => by
       rcases List.mem_append.1 (q2a.1 hy) with e | e
       .exact q2 y e
       .exact q3 y e
      have hvv : ∀ y ∈ setV (m.Votes ++ m.Accepts), vvl y = true := fun y hy => qgl q1 y (q2a.1 hy)
      have hin : ∀ x ∈ q7d V (setV (m.Votes ++ m.Accepts)), x = W := fun x hx => by
       rcases qer hx with e | e
       .exact hVi x e
       .exact hs x e
      rw [List.foldl_cons];rcases List.mem_cons.1 hk with e | hk
      .subst e;rw [if_pos hk1];refine qek ?_;have hWs : W ∈ setV (k.Votes ++ k.Accepts) := q2a.2 (List.mem_append_left _ hk2);have put1 : ∀ (l : List Val) (V : List Val), q0y V = true -> (∀ v ∈ V, v = W) -> (∀ y ∈ l, y = W /\ vvl y = true) -> W ∈ l -> W ∈ q7d V l := by
        intro l;induction l with
        | nil => intro V _ _ _ h; simp at h
        | cons y l ih2 =>
         intro V hV hVi hl _;obtain ⟨e1, e2⟩ := hl y (by simp);subst e1;exact qep (l := l) (qth (hroom V hV hVi))
       exact put1 _ V hV hVi (fun y hy => ⟨hs y hy, hvv y hy⟩) hWs
      .split
       .exact ih _ (q68 hV hvv) hin (fun k' hk' => hl k' (by simp [hk'])) ⟨k, hk, hk1, hk2⟩
       .exact ih V hV hVi (fun k' hk' => hl k' (by simp [hk'])) ⟨k, hk, hk1, hk2⟩
    refine key _ _ B.ready.votes B.votes (fun m hm => ?_) ⟨sayN (atN S a), q4g, by show (atN S a).Node = _; rw [A.node, hlead'], A.leadv hlead'⟩;refine ⟨(hu.msg m hm).1, ?_⟩;exact hhd m hm
 have hcl : (q14 S a b).Candidates ≠ [] -> b = lead \/ ∃ m ∈ (q14 S a b).Heard, m.Node = (lead : Int) := fun hc => by
  cases hcs : (q14 S a b).Candidates with
  | nil => exact absurd hcs hc
  | cons y r =>
   rcases qs7 y (show y ∈ (turned (atN S b) { atN S b with Heard := q19 (sayN (atN S a)) (atN S b).Heard }).Candidates from by show y ∈ (q14 S a b).Candidates; rw [hcs]; simp) with e | e
   .have e : y ∈ (atN S b).Candidates := e;rcases B.cl (fun e' => by rw [e'] at e; simp at e) with e1 | e1
    .exact .inl e1
    .exact .inr (by rw [hwH]; exact qvx e1)
   .rcases y2g hn hlead hready hwt (x := y) e with e1 | e1
    .rw [hwn] at e1; exact .inl (by omega)
    .exact .inr e1
 have hseq := hst.seqb B.ready hready (B.tr.trans hwt.symm) B.seqb;refine ⟨by simp [hl], fun c hc => ?_⟩;by_cases e : b = c
 .subst e;have ew : atN (S.set b (q14 S a b)) b = q14 S a b := by rw [hset, if_pos rfl]
  refine ⟨by rw [ew]; exact hready, by rw [ew]; exact hwn, by rw [ew, hst.slot]; exact B.slot, by rw [ew]; exact hwr, by rw [ew]; exact hwt, fun e => by rw [ew, hwo]; exact B.own e, by rw [ew]; exact qv4 hu, by rw [ew]; exact hwv, by rw [ew]; exact hwa, fun m hm => ?_, fun e => by rw [ew]; exact hst.votes W (B.leadv e), by rw [ew]; exact hhl, by rw [ew]; exact hcl, by rw [ew]; exact hseq⟩;rw [ew, hwH] at hm;rcases q7p hm with e' | e'
  .subst e';refine ⟨a, ha, A.node, A.tr, A.votes, A.accs, ?_⟩;rw [hset, if_neg (fun e => hab e.symm)];exact ⟨Int.le_refl _, fun _ => ⟨rfl, rfl⟩, fun e => A.leadv e⟩
  .obtain ⟨q, q1, q2, q3, q4, q5, q6, q7, q8⟩ := B.heard m e';have hqb : q ≠ b := fun e => by
    have := (B.ready.msg m e').2;rw [q2, B.node, e] at this; exact this rfl
   refine ⟨q, q1, q2, q3, q4, q5, ?_⟩;rw [hset, if_neg (fun e => hqb e.symm)];exact ⟨q6, q7, q8⟩
 .have C := hS.all c hc;have ec : atN (S.set b (q14 S a b)) c = atN S c := by rw [hset, if_neg e]
  refine ⟨by rw [ec]; exact C.ready, by rw [ec]; exact C.node, by rw [ec]; exact C.slot, by rw [ec]; exact C.round, by rw [ec]; exact C.tr, by rw [ec]; exact C.own, by rw [ec]; exact C.set, by rw [ec]; exact C.votes, by rw [ec]; exact C.accs, fun m hm => ?_, by rw [ec]; exact C.leadv, by rw [ec]; exact C.hl, by rw [ec]; exact C.cl, by rw [ec]; exact C.seqb⟩;rw [ec] at hm;obtain ⟨q, q1, q2, q3, q4, q5, q6, q7, q8⟩ := C.heard m hm;refine ⟨q, q1, q2, q3, q4, q5, ?_⟩;by_cases eq : q = b
  .subst eq;rw [hset, if_pos rfl];refine ⟨by have := hst.seq; omega, fun e' => ?_, q8⟩;have h1 : (q14 S a q).Seq = (atN S q).Seq := by have := hst.seq; omega
   obtain ⟨_, g1, g2⟩ := hst.chg.1 h1;obtain ⟨p1, p2⟩ := q7 (by omega);exact ⟨p1.trans g1, p2.trans g2⟩
  .rw [hset, if_neg (fun e => eq e.symm)];exact ⟨q6, q7, q8⟩
theorem y6c {n : Nat} (hn : n <= 10) {slot : Int} {lead : Nat} (hlead : lead < n) {W : Val} {S : List Nominator} (hS : AllI n slot lead W S) (hold : ∀ c d, Pair n (2 ^ n - 1) c d -> OldS S c d) (_hWv : vvl W = true) {b : Nat} (hb : b < n) : (atN S b).Candidates = [W] /\ (atN S b).Votes = [W] := by
 have hbit : ∀ d, d < n -> (2 ^ n - 1 : Nat).testBit d = true := fun d hd => by rw [Nat.testBit_two_pow_sub_one, decide_eq_true hd]
 have heard : ∀ a b, a < n -> b < n -> a ≠ b -> ∃ m ∈ (atN S b).Heard, m.Node = (a : Int) /\ m.Trust = flat n n /\ m.Votes = (atN S a).Votes /\ m.Accepts = (atN S a).Accepts := fun a b ha hb hab => by
  have h := hold a b ⟨ha, hb, hab, hbit b hb⟩;unfold OldS at h;rw [oldN, List.any_eq_true] at h;obtain ⟨m, hm, h⟩ := h;simp only [aT, dT'] at h;obtain ⟨q, q1, q2, q3, _, _, q6, q7, _⟩ := (hS.all b hb).heard m hm;have hqa : q = a := by
   have h1 : m.Node = (atN S a).Node := h.1;rw [q2, (hS.all a ha).node] at h1; omega
  subst hqa;have h2 : (atN S q).Seq <= m.Seq := h.2;obtain ⟨p1, p2⟩ := q7 (by omega);exact ⟨m, hm, q2, q3, p1, p2⟩
 have hvotes : ∀ b, b < n -> W ∈ (atN S b).Votes := fun b hb => by
  by_cases e : b = lead
  .exact (hS.all b hb).leadv e
  .obtain ⟨m, hm, h1, _⟩ := heard lead b hlead hb (fun e' => e e'.symm);exact (hS.all b hb).hl ⟨m, hm, h1⟩
 have hkey : ∀ b, b < n -> ∀ i, i < n -> (decl (viewN (atN S b))).testBit i = true /\ tr (viewN (atN S b)) i = flat n n := fun b hb i hi => by
  have B := hS.all b hb;by_cases e : i = b
  .subst e;have o := qd8 B.ready;rw [B.node, tN, B.tr] at o;exact o
  .obtain ⟨m, hm, m2, m3, _, _⟩ := heard i b hi hb e;have o := qi8 B.ready hm;rw [m2, tN, m3] at o;exact o
 have hn0 : 0 < n := Nat.lt_of_le_of_lt (Nat.zero_le _) hlead;have hQ : ∀ b, b < n -> q2h (viewN (atN S b)) (2 ^ n - 1) := fun b hb => by
  refine ⟨nz.2 ⟨0, hbit 0 hn0⟩, fun i hi => ?_, fun i hi => ?_⟩
  .rw [Nat.testBit_two_pow_sub_one, dT'] at hi;exact (hkey b hb i hi).1
  .rw [Nat.testBit_two_pow_sub_one, dT'] at hi;rw [(hkey b hb i hi).2];exact (qzt hn).2 fun j hj => hbit j hj
 have haccs : ∀ b, b < n -> W ∈ (atN S b).Accepts := fun b hb => by
  have B := hS.all b hb;apply Classical.byContradiction;intro hno;have hall : Sub (2 ^ n - 1) (q6l (allN (atN S b)) W ||| accsN (allN (atN S b)) W) := fun i hi => by
   rw [Nat.testBit_two_pow_sub_one, dT'] at hi;rw [Nat.testBit_or, Bool.or_eq_true];left;by_cases e : i = b
   .subst e;exact qb6.2 ⟨sayN (atN S i), by simp [allN], hvotes i hi, by show (atN S i).Node.toNat = i; rw [B.node]; simp⟩
   .obtain ⟨m, hm, m2, _, m4, _⟩ := heard i b hi hb e;exact qb6.2 ⟨m, List.mem_append_left _ hm, by rw [m4]; exact hvotes i hi, by rw [m2]; simp⟩
  have hcan : canN (atN S b) W = true := by
   have hr := q65 B.ready.accs B.accs;unfold canN accB;rw [decide_eq_false hno, decide_eq_true (show (atN S b).Accepts.length < 40 by omega)];have hg := q69 (viewN (atN S b)) (or_lt (qp7 B.ready.all W) (qa9 B.ready.all W)) (hQ b hb) hall b (hbit b hb);rw [B.node, tN, hg]; simp
  have hkn : W ∈ qba (atN S b) := q2a.2 (q7l.2 ⟨sayN (atN S b), by simp [allN], .inl (hvotes b hb)⟩);have := qkk B.set.next W hkn;rw [hcan] at this; cases this
 have B := hS.all b hb;have hcand : W ∈ (atN S b).Candidates := by
  refine B.set.conf W (haccs b hb) ?_;have hall : Sub (2 ^ n - 1) (accsN (allN (atN S b)) W) := fun i hi => by
   rw [Nat.testBit_two_pow_sub_one, dT'] at hi;by_cases e : i = b
   .subst e;exact q37.2 ⟨sayN (atN S i), by simp [allN], haccs i hi, by show (atN S i).Node.toNat = i; rw [B.node]; simp⟩
   .obtain ⟨m, hm, m2, _, _, m5⟩ := heard i b hi hb e;exact q37.2 ⟨m, List.mem_append_left _ hm, by rw [m5]; exact haccs i hi, by rw [m2]; simp⟩
  unfold confN confB;rw [B.node, tN];exact q69 (viewN (atN S b)) (qa9 B.ready.all W) (hQ b hb) hall b (hbit b hb)
 exact ⟨qkt B.ready.cands (fun v hv => B.accs v (B.ready.sub v hv)) hcand, qkt B.ready.votes B.votes (hvotes b hb)⟩
theorem y0v {n : Nat} (hn : n <= 10) {slot : Int} {lead : Nat} (hlead : lead < n) (W : Val) (hlr : ∀ b : Nat, b < n -> leadR (flat n n) (b : Int) slot 1 = (lead : Int)) : CalmI n (2 ^ n - 1) (3 * n) (AllI n slot lead W) where
 n10 := hn
 to10 := by
  have : 2 ^ n <= 2 ^ 10 := Nat.pow_le_pow_right (by decide) hn;have h1 : 0 < 2 ^ n := Nat.two_pow_pos n;have h2 : (2 : Nat) ^ 10 = 1024 := by decide
  omega
 len := fun S h => h.len
 ready := fun S h b hb => (h.all b hb).ready
 node := fun S h b hb => (h.all b hb).node
 step := fun S h a b ha hb hab _ ho => y1i hn hlead hlr h ha hb hab ho
 pot := fun S h => by
  have key : ∀ l : List Nominator, (∀ c, c < l.length -> (atN l c).Seq <= 3) -> (l.map fun n => n.Seq.toNat).sum <= 3 * l.length := by
   intro l;induction l with
   | nil => intro _; simp
   | cons x r ih =>
    intro hc;have h0 : x.Seq <= 3 := hc 0 (by simp);have := ih fun c hcr => hc (c + 1) (by simpa using hcr)
    simp only [List.map_cons, List.sum_cons, List.length_cons];omega
  have := key S fun c hc => by
   have C := h.all c (by rw [<- h.len]; exact hc);have h1 := q65 C.ready.votes C.votes;have h2 := q65 C.ready.accs C.accs;have h3 := C.seqb;omega
  rw [h.len] at this; exact this
def owns : List Val := [[97], [98], [97, 97], [97, 98], [99]]
theorem qpa : ∀ x ∈ owns, x ∈ someV := by decide
theorem qz3 {n : Nat} (hn : n <= 10) {slot : Int} (hs : 0 <= slot /\ slot <= 1000000) {lead : Nat} (hlead : lead < n) {b : Nat} (hb : b < n) (hlr : leadR (flat n n) (b : Int) slot 1 = (lead : Int)) {own : Val} (ho : own ∈ someV) :
  ∃ x, z25 (b : Int) slot (flat n n) own = some (x, 0) /\ ReadyN x /\ x.Node = (b : Int) /\ x.Slot = slot /\ x.Round = 1 /\ x.Trust = flat n n /\ x.Own = own /\ SetN x /\ (∀ v ∈ x.Votes, b = lead /\ v = own) /\ (∀ v ∈ x.Accepts, b = lead /\ v = own) /\ x.Heard = [] /\ (b = lead -> own ∈ x.Votes) /\ (x.Candidates ≠ [] -> b = lead) /\ x.Seq = 1 := by
 have hin : inR (b : Int) = true := by simp [inR]; omega
 have hval : valid (flat n n) = true := qar hn (by omega) (by omega);have hvv := (q0i.1 qhr).1 own ho;have hol : own.length <= 200 := (qmn.1 hvv).2;have hone : own ≠ [] := fun e => by have := (qmn.1 hvv).1; rw [e] at this; simp at this
 have hr := ql9 hin hs hval hol;have hv : verr (flat n n) = 0 := (q5l _).2 hval;have hL : leadN (newN (b : Int) slot (flat n n) own) = [(lead : Int)] := by
  show leadL (flat n n) (b : Int) slot 1 = _;rw [qq5 (by rw [hlr]; simp [inR]; omega), hlr]
 obtain ⟨A, C, f1, _, _, _⟩ := q5f [(lead : Int)] (newN (b : Int) slot (flat n n) own);have hvot : (q0n [(lead : Int)] (newN (b : Int) slot (flat n n) own)).Votes = if b = lead then [own] else [] := by
  rw [q0n, if_pos (show (newN (b : Int) slot (flat n n) own).Candidates = [] from rfl)];show leadV (newN (b : Int) slot (flat n n) own) [] (lead : Int) = _;unfold leadV;by_cases e : b = lead
  .rw [if_pos e, if_pos (show (lead : Int) = (newN (b : Int) slot (flat n n) own).Node by show (lead : Int) = (b : Int); omega), if_neg (show ¬ (newN (b : Int) slot (flat n n) own).Own = [] from hone)];simp [putV, newN, insV]
  .rw [if_neg e, if_neg (show ¬ (lead : Int) = (newN (b : Int) slot (flat n n) own).Node by show ¬ (lead : Int) = (b : Int); omega)];rfl
 have hv1 : ∀ v ∈ (q0n [(lead : Int)] (newN (b : Int) slot (flat n n) own)).Votes, b = lead /\ v = own := fun v hv => by
  rw [hvot] at hv;split at hv
  .rename_i e; exact ⟨e, by simpa using hv⟩
  .simp at hv
 have hacc : ∀ v ∈ (q0m [(lead : Int)] (newN (b : Int) slot (flat n n) own)).Accepts, b = lead /\ v = own := by
  have e : q0n [(lead : Int)] (newN (b : Int) slot (flat n n) own) = { newN (b : Int) slot (flat n n) own with Votes := (q0n [(lead : Int)] (newN (b : Int) slot (flat n n) own)).Votes } := by unfold q0n; split <;> rfl
  refine qdz (fun v => b = lead /\ v = own) 60 (q0n [(lead : Int)] (newN (b : Int) slot (flat n n) own)) hv1 ?_ ?_
  .rw [e]; intro x hx; simp [newN] at hx
  .rw [e]; intro m hm; simp [newN] at hm
 have hw := hr.settle [(lead : Int)];refine ⟨q0m [(lead : Int)] (newN (b : Int) slot (flat n n) own), ?_, hw, by rw [f1]; rfl, by rw [f1]; rfl, by rw [f1]; rfl, by rw [f1]; rfl, by rw [f1]; rfl, q9x hr _, by rw [f1]; exact hv1, hacc, by rw [f1]; rfl, fun e => ?_, fun hc => ?_, by rw [f1]; rfl⟩
 .rw [qke (b : Int) slot (q25 hval) own (by omega), qn9, if_neg (by rw [hin]; simp), if_neg (by omega), if_neg (by rw [hv]; simp), if_neg (by omega), hL]
 .rw [f1]; show own ∈ (q0n _ _).Votes; rw [hvot, if_pos e]; simp
 .cases hcs : (q0m [(lead : Int)] (newN (b : Int) slot (flat n n) own)).Candidates with
  | nil => exact absurd hcs hc
  | cons y r => exact (hacc y (hw.sub y (by rw [hcs]; simp))).1
theorem qnb {l : List Int} {i : Int} {n : Nat} (hn : n <= 5) (R : Bool) (hR : z1q ((n : Nat) : Int) ((n : Nat) : Int) l i ((n : Nat) : Int) (ints' n) [] = some R) : ∀ (r k : Nat), k + r = n -> z1q ((n : Nat) : Int) (k : Int) l i ((n : Nat) : Int) (ints' k) [] = some R
 | 0, k, h => by
  have : k = n := by omega
  subst this; exact hR
 | r + 1, k, h => by
  have hl := qgq k;apply y3p;rw [q04 (by omega), cT, q10 (by simp [q0k, hl]; omega), q00 (by omega), <- qxp];exact qnb hn R hR r (k + 1) (by omega)
theorem y3t {n : Nat} {slot : Int} {lead : Nat} {W : Val} (S : List Nominator) (hl : S.length <= 10) (hS : ∀ b, b < S.length -> (atN S b).Candidates = [W] /\ (atN S b).Votes = [W]) (a8 : List Int) (a10 a12 : Int) (a14 : List Int) (a16 : List Trust) : ∀ (r b : Nat), b + r = S.length -> z26 W S ((S.length : Nat) : Int) (b : Int) a8 a10 a12 a14 a16 = some true
 | 0, b, h => by
  apply y4k;rw [q01 (by omega), cF, y5i]; rfl
 | r + 1, b, h => by
  obtain ⟨h1, h2⟩ := hS b (by omega);apply y4k;rw [q04 (by omega), cT, q0z (y := atN S b) (by omega) (by rw [tN]; exact qlo (by omega)), h1, h2, q00 (by omega), y3t (n := n) (slot := slot) (lead := lead) S hl hS a8 a10 a12 a14 a16 r (b + 1) (by omega)];simp [nth, neB, eqS]
structure StartedB (n : Nat) (slot : Int) (lead : Nat) (S : List Nominator) (b : Nat) : Prop where
 ready : ReadyN (atN S b)
 node : (atN S b).Node = (b : Int)
 slot : (atN S b).Slot = slot
 round : (atN S b).Round = 1
 tr : (atN S b).Trust = flat n n
 own : (atN S b).Own = owns.getD b []
 set : SetN (atN S b)
 votes : ∀ v ∈ (atN S b).Votes, b = lead /\ v = owns.getD b []
 accs : ∀ v ∈ (atN S b).Accepts, b = lead /\ v = owns.getD b []
 heard : (atN S b).Heard = []
 leadv : b = lead -> owns.getD b [] ∈ (atN S b).Votes
 cl : (atN S b).Candidates ≠ [] -> b = lead
 seq : (atN S b).Seq = 1
theorem y2w {n : Nat} (hn : n <= 5) {slot : Int} (hs : 0 <= slot /\ slot <= 1000000) {lead : Nat} (hlead : lead < n) (hlr : ∀ b : Nat, b < n -> leadR (flat n n) (b : Int) slot 1 = (lead : Int)) {l : List Int} {i : Int} : ∀ (r k : Nat) (S : List Nominator), k + r = n -> S.length = k -> (∀ b, b < k -> StartedB n slot lead S b) ->
  z1x ((n : Nat) : Int) slot (lead : Int) S (if lead < k then owns.getD lead [] else []) (k : Int) l i ((n : Nat) : Int) (ints' n) [] = some true
 | 0, k, S, hk, hl, hS => by
  have hkn : k = n := by omega
  subst hkn;have hn10 : k <= 10 := by omega
  have hWs : owns.getD lead [] ∈ someV := by
   refine qpa _ ?_;have h5 : owns.length = 5 := rfl;rw [List.getD_eq_getElem?_getD, List.getElem?_eq_getElem (by omega)];exact List.getElem_mem _
  have hWv := (q0i.1 qhr).1 _ hWs;have hAll : AllI k slot lead (owns.getD lead []) S := by
   refine ⟨hl, fun b hb => ?_⟩;have B := hS b hb;refine ⟨B.ready, B.node, B.slot, B.round, B.tr, fun e => by rw [B.own, e], B.set, fun v hv => ?_, fun v hv => ?_, fun m hm => (by rw [B.heard] at hm; cases hm), fun e => ?_, fun ⟨m, hm, _⟩ => (by rw [B.heard] at hm; cases hm), fun hc => .inl (B.cl hc), ?_⟩
   .obtain ⟨e, h⟩ := B.votes v hv; rw [h, e]
   .obtain ⟨e, h⟩ := B.accs v hv; rw [h, e]
   .have := B.leadv e; rw [e] at this ⊢; exact this
   .rw [B.seq]; omega
  have hC := y0v hn10 hlead (owns.getD lead []) hlr;have hpot : 3 * k + 2 <= (S.map fun n => n.Seq.toNat).sum + 200 := by omega
  obtain ⟨S', g1, g2, g3⟩ := y66 hC hAll hpot;have h1 : 1 <= 2 ^ k := Nat.one_le_two_pow;have h2 : 2 ^ k <= 2 ^ 5 := Nat.pow_le_pow_right (by decide) hn;have h3 : (2 : Nat) ^ 5 = 32 := by decide
  apply y4f;rw [q01 (by omega), cF, q1v (by omega), shl1 (by omega) (by omega), tN, q42 (by omega) (by omega), if_pos hlead];have e : ((2 ^ k : Nat) : Int) - 1 = ((2 ^ k - 1 : Nat) : Int) := by omega
  rw [e, g1, bS];have hl' := g2.len;exact y3t (n := k) (slot := slot) (lead := lead) S' (by omega) (fun b hb => y6c hn10 hlead g2 g3 hWv (by omega)) l i ((k : Nat) : Int) (ints' k) [] S'.length 0 (by omega)
 | r + 1, k, S, hk, hl, hS => by
  have h5 : owns.length = 5 := rfl;have hkl : k < owns.length := by omega
  have hget : owns[k]? = some (owns.getD k []) := by rw [List.getD_eq_getElem?_getD, List.getElem?_eq_getElem hkl]; rfl
  have hos : owns.getD k [] ∈ someV := qpa _ (List.mem_of_getElem? hget);obtain ⟨x, g0, x1, x2, x3, x4, x5, x6, x7, x8, x9, x10, x11, x12, x13⟩ := qz3 (n := n) (by omega) hs hlead (b := k) (by omega) (hlr k (by omega)) hos;have hx : atN (S ++ [x]) k = x := by simp [atN, List.getD_eq_getElem?_getD, <- hl]
  have hS' : ∀ b, b < k + 1 -> StartedB n slot lead (S ++ [x]) b := fun b hb => by
   by_cases e : b = k
   .subst e;exact ⟨by rw [hx]; exact x1, by rw [hx]; exact x2, by rw [hx]; exact x3, by rw [hx]; exact x4, by rw [hx]; exact x5, by rw [hx]; exact x6, by rw [hx]; exact x7, by rw [hx]; exact x8, by rw [hx]; exact x9, by rw [hx]; exact x10, by rw [hx]; exact x11, by rw [hx]; exact x12, by rw [hx]; exact x13⟩
   .have ho : atN (S ++ [x]) b = atN S b := by simp [atN, List.getD_eq_getElem?_getD, List.getElem?_append_left (show b < S.length by omega)]
    have B := hS b (by omega);exact ⟨by rw [ho]; exact B.ready, by rw [ho]; exact B.node, by rw [ho]; exact B.slot, by rw [ho]; exact B.round, by rw [ho]; exact B.tr, by rw [ho]; exact B.own, by rw [ho]; exact B.set, by rw [ho]; exact B.votes, by rw [ho]; exact B.accs, by rw [ho]; exact B.heard, by rw [ho]; exact B.leadv, by rw [ho]; exact B.cl, by rw [ho]; exact B.seq⟩
  have ih := y2w hn hs hlead hlr (l := l) (i := i) r (k + 1) (S ++ [x]) (by omega) (by simp [hl]) hS';have hnth : ∀ {β : Type} (f : Val -> Option β), nth ([[97], [98], [97, 97], [97, 98], [99]] : List Val) (k : Int) f = f (owns.getD k []) := fun f => q0z (by omega) (by rw [tN]; exact hget) f
  apply y4f;rw [q04 (by omega), cT, hnth];have hst : z25 (k : Int) slot ⟨(n : Int), ints' n, []⟩ (owns.getD k []) = some (x, 0) := g0;rw [hst];simp only [bS, q15, cF, qbk];rw [q00 (by omega)];by_cases e : k = lead
  .subst e;rw [q3d, cT, q10 (by simp [q0k, hl]; omega)];rw [if_pos (by omega)] at ih;exact ih
  .rw [q53 (by omega), cF, q10 (by simp [q0k, hl]; omega)];have : (if lead < k then owns.getD lead [] else []) = (if lead < k + 1 then owns.getD lead [] else []) := by
    by_cases h : lead < k
    .rw [if_pos h, if_pos (by omega)]
    .rw [if_neg h, if_neg (by omega)]
   rw [this];exact ih
theorem all22 (t : List Int) : law22_NominationAll t = some true := by
 obtain ⟨l, g0, a0⟩ := y6z t;obtain ⟨x1, i1, g1, q1, q1', a1⟩ := y0r (a := 1) (b := 5) (by omega) (by omega) (by omega) a0;obtain ⟨n, rfl⟩ : ∃ n : Nat, x1 = (n : Int) := ⟨x1.toNat, by omega⟩;obtain ⟨slot, i2, g2, q2, q2', a2⟩ := N_ok (n := 1000) (by omega) (by omega) a1;have hn10 : n <= 10 := by omega
 have hval : valid (flat n n) = true := qar hn10 (by omega) (by omega);have hask : AskOk (flat n n) 0 slot 1 := ⟨hval, by decide, by omega, by omega⟩;have hlin := qqt hn10 (v := 0) (slot := slot) (round := 1) (by omega);obtain ⟨lead, hlead⟩ : ∃ lead : Nat, leadR (flat n n) 0 slot 1 = (lead : Int) := ⟨(leadR (flat n n) 0 slot 1).toNat, by omega⟩;have hch : z4y ⟨(n : Int), ints' n, []⟩ 0 slot 1 = some ((lead : Int), 0) := by rw [<- hlead]; exact qup hask
 have hl1 : z1q ((n : Nat) : Int) ((n : Nat) : Int) l i1 ((n : Nat) : Int) (ints' n) [] = some true := by
  apply y3p;rw [q01 (by omega), cF, g2, bS]
  dsimp only
  rw [hch, bS];exact y2w (by omega) (by omega) (lead := lead) (by omega) (fun b hb => by rw [<- hlead]; exact y0n hn10 (by omega) (by omega)) n 0 [] (by omega) rfl (fun b hb => by omega)
 apply law22_NominationAll_le;rw [g0, bS]
 dsimp only
 rw [g1, bS];exact qnb (by omega) true hl1 n 0 (by omega)
end Go.Proofs.YtglokalgdbegeaaGreat
namespace Go.Proofs.YtglokalgdbegeaaGreat
open Go Go.Ab Go.ChangeShapes Go.WideShapes Go.ChangeAt Go.WideMaps Go.WideElems Go.RowKit
theorem Tryz.own : ownKnob Tryz.prog.godebug = none := by kernel_rfl
theorem Tryz.laidOut : laidOutB Tryz.prog = true := by kernel_rfl
theorem qw8 {f : Nat} (hlaw : ∀ zs : List Int, (∀ z ∈ zs, (Lit.int .i64 z).wf = true) -> ∃ n h', call env n f [.d (ints .i64 zs)] [] = some (.d (.v (.bool true)), h'))
  {W : World} {v : Value} {zs : List Int} (hz : ∀ z ∈ zs, (Lit.int .i64 z).wf = true) (hv : Rep W qdo (ints .i64 zs) v) :
  Calls Tryz.prog f #[v] W fun e w' => e = .returned (.bool true) /\ Below W.heap.size W w' := by
 obtain ⟨n, h', hc⟩ := hlaw zs hz;exact top (E := env) (y7h n) (fun g cs hg => by cases hg) (ds := [ints .i64 zs]) hc rfl (fun i d hd => by
  cases i with
  | zero => simp at hd; subst hd; exact hv
  | succ i => simp at hd)
end Go.Proofs.YtglokalgdbegeaaGreat
