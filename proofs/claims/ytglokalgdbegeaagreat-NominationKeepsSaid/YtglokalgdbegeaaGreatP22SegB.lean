/- Laws of the printed functions. -/
import Derived.Test.YtglokalgdbegeaaGreatP22SegA
import Derived.Test.YtglokalgdbegeaaGreatRows
import Derived.ProofKit
import Derived.LaidMore
import Derived.OpenShut
import Derived.Stop.Joined
namespace Go.Proofs.YtglokalgdbegeaaGreat
open Go Go.Ab
def sayN (n : Nominator) : Nomination := ⟨n.Node, n.Seq, n.Trust, n.Votes, n.Accepts⟩
def nomB (m : Nomination) : Bool := inR m.Node && (decide (1 <= m.Seq) && (valid m.Trust && (q0p m.Votes && q0p m.Accepts)))
theorem q2e {m : Nomination} : nomB m = true ↔ inR m.Node = true /\ 1 <= m.Seq /\ valid m.Trust = true /\ q0p m.Votes = true /\ q0p m.Accepts = true := by simp [nomB]
def q2c (n : Int) : Option Int -> List Nomination -> Bool
 | _, [] => true
 | none, m :: r => nomB m && (!decide (m.Node = n) && q2c n (some m.Node) r)
 | some q, m :: r => nomB m && (!decide (m.Node = n) && (decide (q < m.Node) && q2c n (some m.Node) r))
theorem q2p {n : Int} : ∀ {l : List Nomination} {q : Option Int}, q2c n q l = true ↔ (∀ m ∈ l, nomB m = true /\ m.Node ≠ n) /\ (∀ k, q = some k -> ∀ m ∈ l, k < m.Node) /\ l.Pairwise (fun a b => a.Node < b.Node)
 | [], q => by cases q <;> simp [q2c]
 | m :: r, q => by
  have ih := q2p (n := n) (l := r) (q := some m.Node);have h1 : q2c n q (m :: r) = true ↔ nomB m = true /\ m.Node ≠ n /\ (∀ k, q = some k -> k < m.Node) /\ q2c n (some m.Node) r = true := by
   cases q <;> simp [q2c]
  rw [h1, ih, List.pairwise_cons];constructor
  .rintro ⟨g1, g2, g3, g4, g5, g6⟩;refine ⟨fun x hx => ?_, fun k hk x hx => ?_, g5 _ rfl, g6⟩
   .rcases List.mem_cons.1 hx with e | hx
    .subst e; exact ⟨g1, g2⟩
    .exact g4 x hx
   .rcases List.mem_cons.1 hx with e | hx
    .subst e; exact g3 k hk
    .exact Int.lt_trans (g3 k hk) (g5 _ rfl x hx)
  .rintro ⟨g1, g2, g3, g4⟩;exact ⟨(g1 m (by simp)).1, (g1 m (by simp)).2, fun k hk => g2 k hk m (by simp), fun x hx => g1 x (by simp [hx]), fun k hk x hx => by cases hk; exact g3 x hx, g4⟩
theorem quz {n : Int} {l : List Nomination} (h : q2c n none l = true) : l.length <= 10 := by
 obtain ⟨h1, _, h3⟩ := q2p.1 h;have := qy6 (m := 10) (l := l.map (·.Node)) (by decide) (fun k hk => by
  obtain ⟨m, hm, rfl⟩ := List.mem_map.1 hk;have := (q2e.1 (h1 m hm).1).1;simpa [inR] using this) (List.pairwise_map.2 h3)
 simp at this; omega
def numsN (n : Nominator) : Bool := inR n.Node && (decide (0 <= n.Slot) && (decide (n.Slot <= 1000000) && (decide (1 <= n.Round) && (decide (n.Round <= 1000) && (decide (1 <= n.Seq) && decide (n.Seq <= 1000000))))))
def q5j (n : Nominator) : Bool := numsN n && (valid n.Trust && (decide (n.Own.length <= 200) && (q0p n.Votes && (q0p n.Accepts && (q0p n.Candidates && (n.Candidates.all (fun x => decide (x ∈ n.Accepts)) && q2c n.Node none n.Heard))))))
structure ReadyN (n : Nominator) : Prop where
 node : inR n.Node = true
 slot : 0 <= n.Slot /\ n.Slot <= 1000000
 round : 1 <= n.Round /\ n.Round <= 1000
 seq : 1 <= n.Seq /\ n.Seq <= 1000000
 tr : valid n.Trust = true
 own : n.Own.length <= 200
 votes : q0p n.Votes = true
 accs : q0p n.Accepts = true
 cands : q0p n.Candidates = true
 sub : ∀ x ∈ n.Candidates, x ∈ n.Accepts
 heard : q2c n.Node none n.Heard = true
theorem qa3 {n : Nominator} : q5j n = true ↔ ReadyN n := by
 simp only [q5j, numsN, aT, dT', List.all_eq_true];constructor
 .rintro ⟨⟨h1, h2, h3, h4, h5, h6, h7⟩, h8, h9, h10, h11, h12, h13, h14⟩;exact ⟨h1, ⟨h2, h3⟩, ⟨h4, h5⟩, ⟨h6, h7⟩, h8, h9, h10, h11, h12, h13, h14⟩
 .rintro ⟨h1, ⟨h2, h3⟩, ⟨h4, h5⟩, ⟨h6, h7⟩, h8, h9, h10, h11, h12, h13, h14⟩;exact ⟨⟨h1, h2, h3, h4, h5, h6, h7⟩, h8, h9, h10, h11, h12, h13, h14⟩
def allN (n : Nominator) : List Nomination := n.Heard ++ [sayN n]
section
variable {n : Nominator} (h : ReadyN n)
include h
theorem ReadyN.msg : ∀ m ∈ n.Heard, nomB m = true /\ m.Node ≠ n.Node := (q2p.1 h.heard).1
theorem ReadyN.asc : n.Heard.Pairwise (fun a b => a.Node < b.Node) := (q2p.1 h.heard).2.2
theorem ReadyN.say : nomB (sayN n) = true := q2e.2 ⟨h.node, h.seq.1, h.tr, h.votes, h.accs⟩
theorem ReadyN.all : ∀ m ∈ allN n, nomB m = true := fun m hm => by
 rcases List.mem_append.1 hm with hm | hm
 .exact (h.msg m hm).1
 .simp at hm; subst hm; exact h.say
theorem ReadyN.hlen : n.Heard.length <= 10 := quz h.heard
theorem ReadyN.len : (allN n).length <= 11 := by have := h.hlen; simp [allN]; omega
theorem ReadyN.alen : n.Accepts.length <= 40 := (q0o.1 h.accs).2.2
theorem ReadyN.vlen : n.Votes.length <= 40 := (q0o.1 h.votes).2.2
theorem ReadyN.clen : n.Candidates.length <= 40 := (q0o.1 h.cands).2.2
theorem ReadyN.node' : n.Node.toNat < 10 /\ ((n.Node.toNat : Nat) : Int) = n.Node := by have := qia h.node; omega
theorem ReadyN.avv : ∀ z ∈ n.Accepts, vvl z = true := (q0o.1 h.accs).1
end
structure SmallN (m : Nomination) : Prop where
 tr : Small m.Trust
 votes : m.Votes.length < 1000000
 accs : m.Accepts.length < 1000000
structure SmallR (n : Nominator) : Prop where
 tr : Small n.Trust
 own : n.Own.length < 1000000
 votes : n.Votes.length < 1000000
 accs : n.Accepts.length < 1000000
 cands : n.Candidates.length < 1000000
 heard : n.Heard.length < 1000000
 msgs : ∀ m ∈ n.Heard, SmallN m
theorem q5c {m : Nomination} (h : nomB m = true) : SmallN m := by
 obtain ⟨_, _, h1, h2, h3⟩ := q2e.1 h;have := (q0o.1 h2).2.2;have := (q0o.1 h3).2.2;exact ⟨q22 h1, by omega, by omega⟩
theorem ReadyN.small {n : Nominator} (h : ReadyN n) : SmallR n := ⟨q22 h.tr, by have := h.own; omega, by have := h.vlen; omega, by have := h.alen; omega, by have := h.clen; omega, by have := h.hlen; omega, fun m hm => q5c (h.msg m hm).1⟩
def q3o (l : List Nomination) : List Val := l.flatMap fun m => m.Votes ++ m.Accepts
def qi2 (n : Nominator) : List Val := setV (q3o (allN n))
theorem qj9 {x : Val} {l : List Nomination} : x ∈ q3o l ↔ ∃ m ∈ l, x ∈ m.Votes \/ x ∈ m.Accepts := by simp [q3o]
theorem qfq {m : Nomination} (h : nomB m = true) : ∀ x ∈ m.Votes ++ m.Accepts, vvl x = true := fun x hx => by
 obtain ⟨_, _, _, h1, h2⟩ := q2e.1 h;rcases List.mem_append.1 hx with hx | hx
 .exact (q0o.1 h1).1 x hx
 .exact (q0o.1 h2).1 x hx
theorem qmm {n : Nominator} (h : ReadyN n) {x : Val} (hx : x ∈ qi2 n) : vvl x = true := by
 obtain ⟨m, hm, hx⟩ := qj9.1 (q3b.1 hx);exact qfq (h.all m hm) x (List.mem_append.2 hx)
def q6q (V l : List Val) : List Val := l.foldl putV V
def leadV (n : Nominator) (V : List Val) (u : Int) : List Val :=
 if u = n.Node then (if n.Own = [] then V else putV V n.Own)
 else n.Heard.foldl (fun V m => if m.Node = u then q6q V (setV (m.Votes ++ m.Accepts)) else V) V
def qgl (L : List Int) (n : Nominator) : List Val := L.foldl (leadV n) n.Votes
theorem q65 : ∀ {l V : List Val}, q0p V = true -> (∀ x ∈ l, vvl x = true) -> q0p (q6q V l) = true
 | [], V, h, _ => h
 | x :: l, V, h, hl => by
  have h1 := q3l h (hl x (by simp));exact q65 (l := l) (V := putV V x) h1 fun y hy => hl y (by simp [hy])
theorem qdl : ∀ {l V : List Val} {x : Val}, x ∈ V -> x ∈ q6q V l
 | [], _V, _x, h => h
 | _y :: l, _V, _x, h => qdl (l := l) (qa7 h)
theorem qdw : ∀ {l V : List Val} {x : Val}, x ∈ q6q V l -> x ∈ V \/ x ∈ l
 | [], V, x, h => .inl h
 | y :: l, V, x, h => by
  rcases qdw (l := l) h with h | h
  .rcases q64 h with h | h
   .exact .inl h
   .exact .inr (by simp [h])
  .exact .inr (by simp [h])
theorem qf5 {u : Int} : ∀ {l : List Nomination} {V : List Val}, q0p V = true -> (∀ m ∈ l, nomB m = true) -> q0p (l.foldl (fun V m => if m.Node = u then q6q V (setV (m.Votes ++ m.Accepts)) else V) V) = true
 | [], V, h, _ => h
 | m :: l, V, h, hm => by
  rw [List.foldl_cons];refine qf5 ?_ fun k hk => hm k (by simp [hk])
  split
  .exact q65 h fun x hx => qfq (hm m (by simp)) x (q3b.1 hx)
  .exact h
theorem qdj {u : Int} : ∀ {l : List Nomination} {V : List Val} {x : Val}, x ∈ V -> x ∈ l.foldl (fun V m => if m.Node = u then q6q V (setV (m.Votes ++ m.Accepts)) else V) V
 | [], V, x, h => h
 | m :: l, V, x, h => by
  rw [List.foldl_cons];refine qdj ?_;split
  .exact qdl h
  .exact h
theorem qdo {u : Int} : ∀ {l : List Nomination} {V : List Val} {x : Val}, x ∈ l.foldl (fun V m => if m.Node = u then q6q V (setV (m.Votes ++ m.Accepts)) else V) V -> x ∈ V \/ ∃ m ∈ l, m.Node = u /\ (x ∈ m.Votes \/ x ∈ m.Accepts)
 | [], V, x, h => .inl h
 | m :: l, V, x, h => by
  rw [List.foldl_cons] at h;rcases qdo h with h | ⟨k, h1, h2⟩
  .split at h
   .rename_i hu;rcases qdw h with h | h
    .exact .inl h
    .exact .inr ⟨m, by simp, hu, List.mem_append.1 (q3b.1 h)⟩
   .exact .inl h
  .exact .inr ⟨k, by simp [h1], h2⟩
section
variable {n : Nominator} (h : ReadyN n)
include h
theorem qb7 {V : List Val} {u : Int} (hV : q0p V = true) : q0p (leadV n V u) = true := by
 unfold leadV;split
 .split
  .exact hV
  .rename_i ho;have := h.own;have : n.Own.length ≠ 0 := fun e => ho (List.length_eq_zero_iff.1 e)
   exact q3l hV (qvl.2 ⟨by omega, by omega⟩)
 .exact qf5 hV fun m hm => (h.msg m hm).1
theorem qgr : ∀ {L : List Int} {V : List Val}, q0p V = true -> q0p (L.foldl (leadV n) V) = true
 | [], _V, hV => hV
 | _u :: L, _V, hV => qgr (L := L) (qb7 h hV)
theorem qmv (L : List Int) : q0p (qgl L n) = true := qgr h h.votes
theorem ReadyN.withV {V : List Val} (hV : q0p V = true) : ReadyN { n with Votes := V } := ⟨h.node, h.slot, h.round, h.seq, h.tr, h.own, hV, h.accs, h.cands, h.sub, h.heard⟩
end
theorem qyp {n : Nominator} {V : List Val} {u : Int} {x : Val} (hx : x ∈ V) : x ∈ leadV n V u := by
 unfold leadV;split
 .split
  .exact hx
  .exact qa7 hx
 .exact qdj hx
theorem qg6 {n : Nominator} {x : Val} : ∀ {L : List Int} {V : List Val}, x ∈ V -> x ∈ L.foldl (leadV n) V
 | [], _V, hV => hV
 | _u :: L, _V, hV => qg6 (L := L) (qyp hV)
theorem qtn {n : Nominator} {x : Val} (L : List Int) (hx : x ∈ n.Votes) : x ∈ qgl L n := qg6 hx
def msgOf (m : Nomination) : Message := ⟨m.Node, m.Seq, m.Trust, [], []⟩
def viewN (n : Nominator) : Config := viewC n.Node n.Trust (n.Heard.map msgOf)
theorem qzp {m : Nomination} (h : nomB m = true) : msgB (msgOf m) = true := by
 obtain ⟨h1, h2, h3, _⟩ := q2e.1 h;exact ql8.2 ⟨h1, h2, h3, rfl, rfl⟩
theorem ReadyN.msgs {n : Nominator} (h : ReadyN n) : ∀ m ∈ n.Heard.map msgOf, msgB m = true /\ m.Node ≠ n.Node := fun m hm => by
 obtain ⟨k, hk, rfl⟩ := List.mem_map.1 hm;exact ⟨qzp (h.msg k hk).1, (h.msg k hk).2⟩
theorem ReadyN.view {n : Nominator} (h : ReadyN n) : q8f (viewN n) := qpa h.tr fun m hm => (h.msgs m hm).1
def whoN (p : Nomination -> Bool) (s : Nat) (l : List Nomination) : Nat := l.foldl (fun s m => if p m then s ||| bit m.Node else s) s
def q8p (l : List Nomination) (x : Val) : Nat := whoN (fun m => decide (x ∈ m.Votes)) 0 l
def accsN (l : List Nomination) (x : Val) : Nat := whoN (fun m => decide (x ∈ m.Accepts)) 0 l
theorem qi5 (p : Nomination -> Bool) (s : Nat) (m : Nomination) (l : List Nomination) : whoN p s (m :: l) = whoN p (if p m then s ||| bit m.Node else s) l := rfl
theorem qqa (p : Nomination -> Bool) : ∀ (l : List Nomination) (s : Nat), s < 1024 -> (∀ m ∈ l, inR m.Node = true) -> whoN p s l < 1024
 | [], s, h, _ => h
 | m :: l, s, h, hm => by
  rw [qi5];refine qqa p l _ ?_ fun m hm' => hm m (by simp [hm'])
  split
  .exact or_lt h (qc2 (hm m (by simp)))
  .exact h
theorem qx1 {l : List Nomination} (hm : ∀ m ∈ l, nomB m = true) (x : Val) : q8p l x < 1024 := qqa _ l 0 (by decide) fun m h => (q2e.1 (hm m h)).1
theorem qt8 {l : List Nomination} (hm : ∀ m ∈ l, nomB m = true) (x : Val) : accsN l x < 1024 := qqa _ l 0 (by decide) fun m h => (q2e.1 (hm m h)).1
def canN (n : Nominator) (x : Val) : Bool := !decide (x ∈ n.Accepts) && (decide (n.Accepts.length < 40) && accB (viewN n) n.Node.toNat (q8p (allN n) x) (accsN (allN n) x))
def nextN (n : Nominator) : Option Val := (qi2 n).find? (canN n)
theorem qdd {n : Nominator} {x : Val} (h : nextN n = some x) : x ∈ qi2 n /\ x ∉ n.Accepts /\ n.Accepts.length < 40 /\ accB (viewN n) n.Node.toNat (q8p (allN n) x) (accsN (allN n) x) = true := by
 have h1 := List.mem_of_find?_eq_some h;have h2 := List.find?_some h;simp only [canN, aT, Bool.not_eq_true', dT', decide_eq_false_iff_not] at h2;exact ⟨h1, h2⟩
def qee (n : Nominator) (x : Val) : Nominator := { n with Accepts := putV n.Accepts x }
def q3f : Nat -> Nominator -> Nominator
 | 0, n => n
 | k + 1, n => match nextN n with
  | none => n
  | some x => q3f k (qee n x)
theorem ReadyN.withA {n : Nominator} (h : ReadyN n) {x : Val} (hx : vvl x = true) : ReadyN (qee n x) := ⟨h.node, h.slot, h.round, h.seq, h.tr, h.own, h.votes, q3l h.accs hx, h.cands, fun y hy => qa7 (h.sub y hy), h.heard⟩
theorem q9f : ∀ (k : Nat) (n : Nominator), ReadyN n -> 40 - n.Accepts.length < k -> ReadyN (q3f k n) /\ nextN (q3f k n) = none
 | 0, n, h, hn => by omega
 | k + 1, n, h, hn => by
  rw [q3f];cases hx : nextN n with
  | none => exact ⟨h, hx⟩
  | some x =>
   obtain ⟨h1, h2, h3, _⟩ := qdd hx;have hv := qmm h h1;have hl := qrn h3 h2;exact q9f k (qee n x) (h.withA hv) (by show 40 - (putV n.Accepts x).length < k; omega)
theorem qf1 : ∀ (k : Nat) (n : Nominator), ∃ A, q3f k n = { n with Accepts := A } /\ ∀ x ∈ n.Accepts, x ∈ A
 | 0, n => ⟨n.Accepts, rfl, fun _ h => h⟩
 | k + 1, n => by
  rw [q3f];cases nextN n with
  | none => exact ⟨n.Accepts, rfl, fun _ h => h⟩
  | some x =>
   obtain ⟨A, h1, h2⟩ := qf1 k (qee n x);exact ⟨A, h1, fun y hy => h2 y (qa7 hy)⟩
def candN (n : Nominator) (C : List Val) (l : List Val) : List Val := l.foldl (fun C x => if confB (viewN n) n.Node.toNat (accsN (allN n) x) then putV C x else C) C
def qhr (n : Nominator) : Nominator := { n with Candidates := candN n n.Candidates n.Accepts }
def q19 (L : List Int) (n : Nominator) : Nominator := if n.Candidates = [] then { n with Votes := qgl L n } else n
def q0y (L : List Int) (n : Nominator) : Nominator := qhr (q3f 60 (q19 L n))
theorem qgq (n : Nominator) : ∀ (l C : List Val), q0p C = true -> (∀ x ∈ l, vvl x = true) -> q0p (candN n C l) = true
 | [], C, h, _ => h
 | x :: l, C, h, hl => by
  show q0p (candN n (if _ then _ else _) l) = true;refine qgq n l _ ?_ fun y hy => hl y (by simp [hy])
  split
  .exact q3l h (hl x (by simp))
  .exact h
theorem q7u (n : Nominator) {y : Val} : ∀ (l C : List Val), y ∈ C -> y ∈ candN n C l
 | [], C, h => h
 | x :: l, C, h => by
  show y ∈ candN n (if _ then _ else _) l;refine q7u n l _ ?_;split
  .exact qa7 h
  .exact h
theorem qem (n : Nominator) {y : Val} : ∀ (l C : List Val), y ∈ candN n C l -> y ∈ C \/ y ∈ l /\ confB (viewN n) n.Node.toNat (accsN (allN n) y) = true
 | [], C, h => .inl h
 | x :: l, C, h => by
  have h' : y ∈ candN n (if confB (viewN n) n.Node.toNat (accsN (allN n) x) then putV C x else C) l := h;rcases qem n l _ h' with g | g
  .split at g
   .rename_i hc;rcases q64 g with g | g
    .exact .inl g
    .exact .inr ⟨by simp [g], by rw [g]; exact hc⟩
   .exact .inl g
  .exact .inr ⟨by simp [g.1], g.2⟩
theorem q7i : ∀ {A B : List Val}, A.Nodup -> (∀ x ∈ A, x ∈ B) -> A.length <= B.length
 | [], B, _, _ => by simp
 | x :: A, B, hA, h => by
  obtain ⟨h1, h2⟩ := List.nodup_cons.1 hA;have hx := h x (by simp);have ih := q7i (B := B.erase x) h2 fun y hy => (List.mem_erase_of_ne (fun e => h1 (by rw [<- e]; exact hy))).2 (h y (by simp [hy]))
  rw [List.length_erase_of_mem hx] at ih;have := List.length_pos_of_mem hx;simp; omega
theorem qhv {A B : List Val} (hA : Asc A) (h : ∀ x ∈ A, x ∈ B) : A.length <= B.length := q7i (qk0 hA) h
theorem qoc (n : Nominator) {A : List Val} (hA : A.length <= 40) (hsA : ∀ x ∈ A, vvl x = true) {y : Val} : ∀ (l C : List Val), q0p C = true -> (∀ x ∈ C, x ∈ A) -> (∀ x ∈ l, x ∈ A) -> y ∈ l -> confB (viewN n) n.Node.toNat (accsN (allN n) y) = true -> y ∈ candN n C l
 | [], C, _, _, _, h, _ => by simp at h
 | x :: l, C, hC, hCA, hl, hy, hc => by
  show y ∈ candN n (if _ then _ else _) l;have hxA := hl x (by simp);by_cases e : y = x
  .subst e;refine q7u n l _ ?_;rw [if_pos hc];by_cases g : y ∈ C
   .exact qa7 g
   .refine qlu ?_;have h1 : Asc (insV C y) := qg0 (q0o.1 hC).2.1 g;have h2 := qhv h1 (B := A) fun z hz => by
     rcases q7z.1 hz with hz | hz
     .rw [hz]; exact hxA
     .exact hCA z hz
    rw [qfk] at h2;omega
  .refine qoc n hA hsA l _ ?_ ?_ (fun z hz => hl z (by simp [hz])) (by simpa [e] using hy) hc
   .split
    .exact q3l hC (hsA x hxA)
    .exact hC
   .split
    .intro z hz;rcases q64 hz with hz | hz
     .exact hCA z hz
     .rw [hz]; exact hxA
    .exact hCA
theorem ReadyN.finish {n : Nominator} (h : ReadyN n) : ReadyN (qhr n) :=
 ⟨h.node, h.slot, h.round, h.seq, h.tr, h.own, h.votes, h.accs, qgq n _ _ h.cands h.avv, fun x hx => by
  rcases qem n _ _ hx with hx | hx
  .exact h.sub x hx
  .exact hx.1, h.heard⟩
theorem ReadyN.listen {n : Nominator} (h : ReadyN n) (L : List Int) : ReadyN (q19 L n) := by
 unfold q19;split
 .exact h.withV (qmv h L)
 .exact h
theorem ReadyN.settle {n : Nominator} (h : ReadyN n) (L : List Int) : ReadyN (q0y L n) := ((q9f 60 _ (h.listen L) (by omega)).1).finish
noncomputable def turnN (b w : Nominator) : Nominator := if b.Trust = w.Trust /\ b.Votes = w.Votes /\ b.Accepts = w.Accepts then w else { w with Seq := w.Seq + 1 }
def q5n (m : Nomination) : List Nomination -> List Nomination
 | [] => [m]
 | x :: r => if x.Node < m.Node then x :: q5n m r else if x.Node = m.Node then m :: r else m :: x :: r
def oldN (l : List Nomination) (m : Nomination) : Bool := l.any fun x => decide (x.Node = m.Node) && decide (m.Seq <= x.Seq)
theorem qj3 {m x : Nomination} : ∀ {l : List Nomination}, x ∈ q5n m l -> x = m \/ x ∈ l
 | [], h => by simp [q5n] at h; exact .inl h
 | y :: r, h => by
  rw [q5n] at h;split at h
  .rcases List.mem_cons.1 h with h | h
   .exact .inr (by simp [h])
   .rcases qj3 h with h | h
    .exact .inl h
    .exact .inr (by simp [h])
  .split at h
   .rcases List.mem_cons.1 h with h | h
    .exact .inl h
    .exact .inr (by simp [h])
   .rcases List.mem_cons.1 h with h | h
    .exact .inl h
    .exact .inr h
theorem qer {n : Int} {m : Nomination} (hm : nomB m = true) (hn : m.Node ≠ n) : ∀ {l : List Nomination} {q : Option Int}, q2c n q l = true -> (∀ k, q = some k -> k < m.Node) -> q2c n q (q5n m l) = true
 | [], q, _, hq => by
  cases q with
  | none => simp [q5n, q2c, hm, hn]
  | some k => simp [q5n, q2c, hm, hn, hq k rfl]
 | y :: r, q, h, hq => by
  have hi := q2p.1 h;rw [q5n];split
  .rename_i hlt;have hr : q2c n (some y.Node) r = true := by
    rw [List.pairwise_cons] at hi;exact q2p.2 ⟨fun x hx => hi.1 x (by simp [hx]), fun k hk x hx => by cases hk; exact hi.2.2.1 x hx, hi.2.2.2⟩
   have ih := qer hm hn hr (fun k hk => by cases hk; exact hlt);have hj := q2p.1 ih;refine q2p.2 ⟨fun x hx => ?_, fun k hk x hx => ?_, List.pairwise_cons.2 ⟨fun x hx => hj.2.1 _ rfl x hx, hj.2.2⟩⟩
   .rcases List.mem_cons.1 hx with e | hx
    .subst e; exact hi.1 x (by simp)
    .exact hj.1 x hx
   .have hy := hi.2.1 k hk y (by simp);rcases List.mem_cons.1 hx with e | hx
    .subst e; exact hy
    .exact Int.lt_trans hy (hj.2.1 _ rfl x hx)
  .rename_i hge;rw [List.pairwise_cons] at hi;split
   .rename_i heq;refine q2p.2 ⟨fun x hx => ?_, fun k hk x hx => ?_, List.pairwise_cons.2 ⟨fun x hx => by rw [<- heq]; exact hi.2.2.1 x hx, hi.2.2.2⟩⟩
    .rcases List.mem_cons.1 hx with e | hx
     .subst e; exact ⟨hm, hn⟩
     .exact hi.1 x (by simp [hx])
    .rcases List.mem_cons.1 hx with e | hx
     .subst e; exact hq k hk
     .exact hi.2.1 k hk x (by simp [hx])
   .rename_i hne;have hlt : m.Node < y.Node := by omega
    refine q2p.2 ⟨fun x hx => ?_, fun k hk x hx => ?_, List.pairwise_cons.2 ⟨fun x hx => ?_, List.pairwise_cons.2 hi.2.2⟩⟩
    .rcases List.mem_cons.1 hx with e | hx
     .subst e; exact ⟨hm, hn⟩
     .exact hi.1 x hx
    .rcases List.mem_cons.1 hx with e | hx
     .subst e; exact hq k hk
     .exact hi.2.1 k hk x hx
    .rcases List.mem_cons.1 hx with e | hx
     .subst e; exact hlt
     .exact Int.lt_trans hlt (hi.2.2.1 x hx)
def posN (k : Int) : List Nomination -> Nat
 | [] => 0
 | x :: r => if x.Node < k then posN k r + 1 else 0
theorem qp2 (k : Int) : ∀ l : List Nomination, posN k l <= l.length
 | [] => Nat.le_refl _
 | x :: r => by
  rw [posN]; split
  .simp; exact qp2 k r
  .simp
theorem qdx {k : Int} : ∀ {l : List Nomination}, l.Pairwise (fun a b => a.Node < b.Node) -> ∀ (i : Nat) (x : Nomination), l[i]? = some x -> (x.Node < k ↔ i < posN k l)
 | [], _, i, x, h => by simp at h
 | y :: r, hp, i, x, h => by
  rw [List.pairwise_cons] at hp;rw [posN];cases i with
  | zero =>
   simp at h; subst h;split <;> simp_all
  | succ i =>
   have h' : r[i]? = some x := by simpa using h
   have hyx := hp.1 x (List.mem_of_getElem? h');split
   .rw [qdx hp.2 i x h']; omega
   .constructor
    .intro g; omega
    .intro g; omega
def q74 (k : Int) (l : List Nomination) : Bool := match l[posN k l]? with | some x => decide (x.Node = k) | none => false
theorem qh1 {m : Nomination} : ∀ {l : List Nomination}, q5n m l = if q74 m.Node l = true then l.set (posN m.Node l) m else l.take (posN m.Node l) ++ m :: l.drop (posN m.Node l)
 | [] => by simp [q5n, q74, posN]
 | x :: r => by
  rw [q5n];by_cases h1 : x.Node < m.Node
  .have hp : posN m.Node (x :: r) = posN m.Node r + 1 := by rw [posN, if_pos h1]
   have hf : q74 m.Node (x :: r) = q74 m.Node r := by simp [q74, hp]
   rw [if_pos h1, qh1 (l := r), hp, hf];split <;> simp
  .have hp : posN m.Node (x :: r) = 0 := by rw [posN, if_neg h1]
   have hf : q74 m.Node (x :: r) = decide (x.Node = m.Node) := by simp [q74, hp]
   rw [if_neg h1, hp, hf];by_cases h2 : x.Node = m.Node <;> simp [h2]
theorem qjg {m : Nomination} {l : List Nomination} (hp : l.Pairwise (fun a b => a.Node < b.Node)) : oldN l m = match l[posN m.Node l]? with | some x => decide (x.Node = m.Node) && decide (m.Seq <= x.Seq) | none => false := by
 cases hx : l[posN m.Node l]? with
 | none =>
  rw [oldN, List.any_eq_false];intro x hx';obtain ⟨i, hi, rfl⟩ := List.mem_iff_getElem.1 hx';have h1 := (qdx (k := m.Node) hp i l[i] (by simp [hi]));have h2 := List.getElem?_eq_none_iff.1 hx;have : l[i].Node < m.Node := h1.2 (by omega);simp; omega
 | some y =>
  show oldN l m = (decide (y.Node = m.Node) && decide (m.Seq <= y.Seq));rw [oldN, Bool.eq_iff_iff, List.any_eq_true];constructor
  .rintro ⟨x, hx', h⟩;simp only [aT, dT'] at h;obtain ⟨i, hi, rfl⟩ := List.mem_iff_getElem.1 hx';have h1 := (qdx (k := m.Node) hp i l[i] (by simp [hi]));have h3 := (qdx (k := m.Node) hp _ y hx);have hge : posN m.Node l <= i := by
    have : ¬ l[i].Node < m.Node := by omega
    rw [h1] at this; omega
   have hpl := (List.getElem?_eq_some_iff.1 hx).1;have : i = posN m.Node l := by
    by_cases e : i = posN m.Node l
    .exact e
    .have hlt : posN m.Node l < i := by omega
     have := List.pairwise_iff_getElem.1 hp _ _ hpl hi hlt;have h4 : l[posN m.Node l] = y := (List.getElem?_eq_some_iff.1 hx).2;rw [h4] at this;have : ¬ y.Node < m.Node := by rw [h3]; omega
     omega
   subst this;have h4 : l[posN m.Node l] = y := (List.getElem?_eq_some_iff.1 hx).2;rw [h4] at h;simp [h]
  .intro h;exact ⟨y, List.mem_of_getElem? hx, h⟩
theorem ReadyN.withH {n : Nominator} (h : ReadyN n) {m : Nomination} (hm : nomB m = true) (hn : m.Node ≠ n.Node) : ReadyN { n with Heard := q5n m n.Heard } :=
 ⟨h.node, h.slot, h.round, h.seq, h.tr, h.own, h.votes, h.accs, h.cands, h.sub, qer hm hn h.heard (fun k hk => by cases hk)⟩
theorem ReadyN.withT {n : Nominator} (h : ReadyN n) {t : Trust} (ht : valid t = true) : ReadyN { n with Trust := t } := ⟨h.node, h.slot, h.round, h.seq, ht, h.own, h.votes, h.accs, h.cands, h.sub, h.heard⟩
theorem ReadyN.withR {n : Nominator} (h : ReadyN n) {r : Int} (h1 : 1 <= r) (h2 : r <= 1000) : ReadyN { n with Round := r } := ⟨h.node, h.slot, ⟨h1, h2⟩, h.seq, h.tr, h.own, h.votes, h.accs, h.cands, h.sub, h.heard⟩
theorem ReadyN.withS {n : Nominator} (h : ReadyN n) {s : Int} (h1 : 1 <= s) (h2 : s <= 1000000) : ReadyN { n with Seq := s } := ⟨h.node, h.slot, h.round, ⟨h1, h2⟩, h.tr, h.own, h.votes, h.accs, h.cands, h.sub, h.heard⟩
theorem qud (n : Nominator) (x : Val) : q8p (allN n) x = if x ∈ n.Votes then q8p n.Heard x ||| bit n.Node else q8p n.Heard x := by
 simp [q8p, whoN, allN, List.foldl_append, sayN]
theorem qmf (n : Nominator) (x : Val) : accsN (allN n) x = if x ∈ n.Accepts then accsN n.Heard x ||| bit n.Node else accsN n.Heard x := by
 simp [accsN, whoN, allN, List.foldl_append, sayN]
theorem quw (n : Nominator) : q3o (allN n) = q3o n.Heard ++ (n.Votes ++ n.Accepts) := by simp [q3o, allN, sayN]
theorem qwa {n w : Nominator} (h1 : n.Node = w.Node) (h2 : n.Trust = w.Trust) (h3 : n.Votes = w.Votes) (h4 : n.Accepts = w.Accepts) (h5 : n.Heard = w.Heard) (x : Val) : canN n x = canN w x := by
 simp only [canN, viewN, qud, qmf, h1, h2, h3, h4, h5]
theorem qjv {n w : Nominator} (h1 : n.Node = w.Node) (h2 : n.Trust = w.Trust) (h3 : n.Votes = w.Votes) (h4 : n.Accepts = w.Accepts) (h5 : n.Heard = w.Heard) : nextN n = nextN w := by
 simp only [nextN, qi2, quw, h3, h4, h5];congr 1
 funext x; exact qwa h1 h2 h3 h4 h5 x
def confN (n : Nominator) (x : Val) : Bool := confB (viewN n) n.Node.toNat (accsN (allN n) x)
theorem qjp {n w : Nominator} (h1 : n.Node = w.Node) (h2 : n.Trust = w.Trust) (h4 : n.Accepts = w.Accepts) (h5 : n.Heard = w.Heard) (x : Val) : confN n x = confN w x := by
 simp only [confN, viewN, qmf, h1, h2, h4, h5]
structure SetN (n : Nominator) : Prop where
 next : nextN n = none
 conf : ∀ x ∈ n.Accepts, confN n x = true -> x ∈ n.Candidates
theorem q7v (L : List Int) (n : Nominator) : ∃ A C, q0y L n = { n with Votes := (q19 L n).Votes, Accepts := A, Candidates := C } /\ (∀ x ∈ n.Votes, x ∈ (q19 L n).Votes) /\ (∀ x ∈ n.Accepts, x ∈ A) /\ (∀ x ∈ n.Candidates, x ∈ C) := by
 obtain ⟨A, h1, h2⟩ := qf1 60 (q19 L n);have h3 : q19 L n = { n with Votes := (q19 L n).Votes } := by unfold q19; split <;> rfl
 refine ⟨A, candN (q3f 60 (q19 L n)) (q3f 60 (q19 L n)).Candidates (q3f 60 (q19 L n)).Accepts, ?_, fun x hx => ?_, fun x hx => h2 x (by rw [h3]; exact hx), fun x hx => q7u _ _ _ ?_⟩
 .show qhr (q3f 60 (q19 L n)) = _;unfold qhr;rw [h1, h3]
 .unfold q19; split
  .exact qtn L hx
  .exact hx
 .rw [h1, h3]; exact hx
theorem qoi {n : Nominator} (h : ReadyN n) (L : List Int) : SetN (q0y L n) := by
 obtain ⟨h1, h2⟩ := q9f 60 _ (h.listen L) (by omega);refine ⟨?_, fun x hx hc => ?_⟩
 .rw [<- h2]; exact qjv rfl rfl rfl rfl rfl
 .have hc' : confN (q3f 60 (q19 L n)) x = true := by rw [<- hc]; exact qjp rfl rfl rfl rfl x
  exact qoc _ h1.alen h1.avv _ _ h1.cands h1.sub (fun _ g => g) hx hc'
theorem SetN.cong {n w : Nominator} (h : SetN n) (h1 : n.Node = w.Node) (h2 : n.Trust = w.Trust) (h3 : n.Votes = w.Votes) (h4 : n.Accepts = w.Accepts) (h5 : n.Heard = w.Heard) (h6 : n.Candidates = w.Candidates) : SetN w :=
 ⟨by rw [<- qjv h1 h2 h3 h4 h5]; exact h.next, fun x hx hc => by rw [<- h6]; exact h.conf x (by rw [h4]; exact hx) (by rw [<- hc]; exact qjp h1 h2 h4 h5 x)⟩
def qak : Nominator := ⟨0, 0, 0, 0, ⟨0, [], []⟩, [], [], [], [], []⟩
theorem qdz (b w : Nominator) : ∃ s : Int, (s = w.Seq \/ s = w.Seq + 1) /\ turnN b w = { w with Seq := s } /\ (s = w.Seq ↔ b.Trust = w.Trust /\ b.Votes = w.Votes /\ b.Accepts = w.Accepts) := by
 unfold turnN;split
 .rename_i h;exact ⟨w.Seq, .inl rfl, rfl, fun _ => h, fun _ => rfl⟩
 .rename_i h;exact ⟨w.Seq + 1, .inr rfl, rfl, fun e => by omega, fun e => absurd e h⟩
structure StepN (n w : Nominator) : Prop where
 node : w.Node = n.Node
 slot : w.Slot = n.Slot
 seq : w.Seq = n.Seq \/ w.Seq = n.Seq + 1
 votes : ∀ x ∈ n.Votes, x ∈ w.Votes
 accs : ∀ x ∈ n.Accepts, x ∈ w.Accepts
 cands : ∀ x ∈ n.Candidates, x ∈ w.Candidates
 ready : w.Seq <= 1000000 -> ReadyN w
 chg : w.Seq = n.Seq ↔ n.Trust = w.Trust /\ n.Votes = w.Votes /\ n.Accepts = w.Accepts
theorem qti {n u : Nominator} (hu : ReadyN u) (L : List Int) (h1 : u.Node = n.Node) (h2 : u.Slot = n.Slot) (h3 : u.Seq = n.Seq) (h4 : u.Votes = n.Votes) (h5 : u.Accepts = n.Accepts) (h6 : u.Candidates = n.Candidates) : StepN n (turnN n (q0y L u)) /\ SetN (turnN n (q0y L u)) := by
 obtain ⟨s, g1, g2, g3⟩ := qdz n (q0y L u);obtain ⟨A, C, f1, f2, f3, f4⟩ := q7v L u;have hr := hu.settle L;have hs := qoi hu L;have hq := hu.seq;rw [g2];refine ⟨⟨?_, ?_, ?_, ?_, ?_, ?_, fun hle => ?_, ?_⟩, hs.cong rfl rfl rfl rfl rfl rfl⟩
 .show (q0y L u).Node = _; rw [f1]; exact h1
 .show (q0y L u).Slot = _; rw [f1]; exact h2
 .show s = _ \/ s = _; rw [f1] at g1; rw [<- h3]; exact g1
 .intro x hx; show x ∈ (q0y L u).Votes; rw [f1]; exact f2 x (by rw [h4]; exact hx)
 .intro x hx; show x ∈ (q0y L u).Accepts; rw [f1]; exact f3 x (by rw [h5]; exact hx)
 .intro x hx; show x ∈ (q0y L u).Candidates; rw [f1]; exact f4 x (by rw [h6]; exact hx)
 .have e1 : (q0y L u).Seq = u.Seq := by rw [f1]
  refine hr.withS ?_ hle;rw [e1] at g1; omega
 .show s = n.Seq ↔ n.Trust = (q0y L u).Trust /\ _;rw [<- g3, f1]; show s = n.Seq ↔ s = u.Seq; rw [h3]
end Go.Proofs.YtglokalgdbegeaaGreat
namespace Go.Proofs.YtglokalgdbegeaaGreat
open Go Go.Ab Go.Sort
theorem qg9 (x : Val) : z46 x = some (vvl x) := by
 apply y6f;unfold leB vvl;by_cases h : 1 <= x.length
 .have : (1 : Int) <= ((x.length : Nat) : Int) := by omega
  simp only [h, this, decide_true, cT, tA'];congr 1
  by_cases h2 : x.length <= 200
  .have : ((x.length : Nat) : Int) <= 200 := by omega
   simp [h2, this]
  .have : ¬ ((x.length : Nat) : Int) <= 200 := by omega
   simp [h2, this]
 .have : ¬ (1 : Int) <= ((x.length : Nat) : Int) := by omega
  simp only [h, this, decide_false, cF, Bool.false_and]
theorem qwu (a b : Val) : z40 a b = some (if a < b then -1 else if a = b then 0 else 1) := by
 have hn : ∀ z, z3u z = some false := fun z => y7c _ _ (by simp [eqS])
 apply y5c;rw [hn, hn];simp only [bS, cF, qsj, leS];have h1 : Op.bytesLess a b = decide (a < b) := qsj a b;rw [h1];by_cases h : a < b
 .simp [h]
 .by_cases h' : a = b
  .subst h'; simp [qiy]
  .simp [h, h']
theorem qbp (a b : Val) : z06 a b = some (cmpv a b) := by
 apply y52;rw [qcr, qwu];simp only [bS, qs8];congr 1
 unfold cmpv ltv;by_cases h1 : a.length < b.length
 .have : ((a.length : Nat) : Int) < ((b.length : Nat) : Int) := by omega
  simp [h1]
 .by_cases h2 : b.length < a.length
  .have hne : a.length ≠ b.length := by omega
   have hab : a ≠ b := fun e => hne (by rw [e])
   simp [h1, h2, hne, hab]
  .have he : a.length = b.length := by omega
   simp [he]
theorem qs9 (l : List Val) (hl : l.length < 1152921504606846976) : ∀ (suf : List Val) (i : Nat) (z : Val), l[i]? = some z -> l.drop (i + 1) = suf -> z1v l l ((l.length : Nat) : Int) ((i + 1 : Nat) : Int) = some (plV (some z) suf && decide (l.length <= 40))
 | [], i, z, hz, h => by
  apply qt3;rw [q0g h, cF];unfold leB plV;congr 1
  by_cases h2 : l.length <= 40
  .have : ((l.length : Nat) : Int) <= 40 := by omega
   simp [h2, this]
  .have : ¬ ((l.length : Nat) : Int) <= 40 := by omega
   simp [h2, this]
 | y :: suf, i, z, hz, h => by
  have hlt := q0d h;apply qt3;rw [q07 h, cT, q05 h, qg9, bS, q04 (by omega), cT, q2t (by omega) (by omega), q0r (y := z) (by omega) (by rw [show (((i + 1 : Nat) : Int) - 1).toNat = i by omega]; exact hz), qbp, bS, qw5, q01 (by omega),
   qs9 l hl suf (i + 1) y (by have := congrArg (·[0]?) h; simpa using this) (q03 h)]
  rw [plV];cases vvl y <;> by_cases hc : ltv z y <;> simp [hc]
theorem qcw (l : List Val) (hl : l.length < 1152921504606846976) : z2o l = some (q0p l) := by
 apply y9j;unfold q0p;cases l with
 | nil =>
  apply qt3;simp [ltB, plV, leB]
 | cons y r =>
  apply qt3;have h0 : ltB 0 (((y :: r).length : Nat) : Int) = true := q04 (by rw [List.length_cons]; omega);rw [h0, cT, q0r (y := y) (by omega) rfl, qg9, bS, q00 (by omega), cF, show addI .i64 0 1 = ((0 + 1 : Nat) : Int) from rfl, qs9 (y :: r) hl r 0 y rfl rfl, plV];cases vvl y <;> simp
theorem qre (l : List Val) (hl : l.length < 1152921504606846976) (x : Val) : ∀ (suf : List Val) (i : Nat), l.drop i = suf -> ∃ r : Int, z1f l x ((l.length : Nat) : Int) (i : Int) = some r /\ leB 0 r = decide (x ∈ suf)
 | [], i, h => by
  refine ⟨-1, qxm _ _ _ _ _ ?_, by simp [leB]⟩;rw [q0g h]; simp
 | y :: suf, i, h => by
  have hlt := q0d h;obtain ⟨r, h1, h2⟩ := qre l hl x suf (i + 1) (q03 h);by_cases hx : x = y
  .refine ⟨i, qxm _ _ _ _ _ ?_, by simp [leB, hx]⟩;rw [q07 h, cT, q05 h]; simp [eqS, hx]
  .refine ⟨r, qxm _ _ _ _ _ ?_, by rw [h2]; simp [hx]⟩;rw [q07 h, cT, q05 h, q01 (by omega), show eqS x y = false by simp [eqS, hx], cF, h1]
theorem qfo (l : List Val) (hl : l.length < 1152921504606846976) (x : Val) : z31 l x = some (decide (x ∈ l)) := by
 obtain ⟨r, h1, h2⟩ := qre l hl x l 0 rfl;apply y5a;have h3 : z25 l x = some r := y8k _ _ _ h1;have : z1z l x = some (decide (x ∈ l)) := by
  apply y8z;rw [h3, bS, h2]
 rw [this]; rfl
theorem q6x (l : List Val) (hl : l.length < 1000000) : z1b l = some ((), l) := y8c _ _ (by rw [q0z (by simp [q0m]; omega)]; rfl)
theorem qif (l : List Nomination) (hl : l.length < 1000000) : z1g l = some ((), l) := y78 _ _ (by rw [q0z (by simp [q0m]; omega)]; rfl)
def posV (x : Val) : List Val -> Nat
 | [] => 0
 | y :: r => if ltv y x then posV x r + 1 else 0
theorem ql7 (x : Val) : ∀ l : List Val, posV x l <= l.length
 | [] => Nat.le_refl _
 | y :: r => by
  rw [posV]; split
  .simp; exact ql7 x r
  .simp
theorem qdy {x : Val} : ∀ {l : List Val}, Asc l -> ∀ (i : Nat) (y : Val), l[i]? = some y -> (ltv y x ↔ i < posV x l)
 | [], _, i, y, h => by simp at h
 | z :: r, hp, i, y, h => by
  have hp := List.pairwise_cons.1 hp;rw [posV];cases i with
  | zero =>
   simp at h; subst h;split <;> simp_all
  | succ i =>
   have h' : r[i]? = some y := by simpa using h
   have hzy := hp.1 y (List.mem_of_getElem? h');split
   .rw [qdy hp.2 i y h']; omega
   .rename_i hz;constructor
    .intro g; exact absurd (q5e hzy g) hz
    .intro g; omega
theorem qry {l : List Val} {x : Val} (h : Asc l) : x ∈ l ↔ ∃ y, l[posV x l]? = some y /\ y = x := by
 constructor
 .intro hx;obtain ⟨i, hi⟩ := List.getElem?_of_mem hx;have h1 := qdy (x := x) h i x hi;have hge : posV x l <= i := by
   have : ¬ i < posV x l := fun e => q1v x (h1.2 e)
   omega
  have hil : i < l.length := (List.getElem?_eq_some_iff.1 hi).1;have hpl : posV x l < l.length := by omega
  refine ⟨l[posV x l], List.getElem?_eq_getElem hpl, ?_⟩;have h2 := qdy (x := x) h _ l[posV x l] (List.getElem?_eq_getElem hpl);have h3 : ¬ ltv l[posV x l] x := fun e => by have := h2.1 e; omega
  by_cases e : posV x l = i
  .rw [<- e] at hi; rw [List.getElem?_eq_getElem hpl] at hi; exact Option.some.inj hi
  .have := List.pairwise_iff_getElem.1 h _ _ hpl hil (by omega);have hxe : l[i] = x := (List.getElem?_eq_some_iff.1 hi).2;rw [hxe] at this; exact absurd this h3
 .rintro ⟨y, hy, rfl⟩; exact List.mem_of_getElem? hy
theorem qvx : ∀ i : Fin 41, ∀ j : Fin 41, IntKind.wrap .i64 (shrI .u64 (IntKind.wrap .u64 (addI .i64 ((i.val : Nat) : Int) ((j.val : Nat) : Int))) 1) = (((i.val + j.val) / 2 : Nat) : Int) := by decide +kernel
theorem qr7 {l : List Val} (hl : l.length <= 40) (hp : Asc l) (x : Val) : ∀ (n i j : Nat), j - i <= n -> i <= posV x l -> posV x l <= j -> j <= l.length ->
  z0c l x ((l.length : Nat) : Int) (i : Int) (j : Int) = some (((posV x l : Nat) : Int), decide (x ∈ l))
 | n, i, j, hn, hi, hj, hjl => by
  apply y8u;by_cases hij : i < j
  .obtain ⟨n, rfl⟩ : ∃ m, n = m + 1 := ⟨n - 1, by omega⟩;have hmid := qvx ⟨i, by omega⟩ ⟨j, by omega⟩
   dsimp only at hmid
   have hml : (i + j) / 2 < l.length := by omega
   have hg : l[(i + j) / 2]? = some l[(i + j) / 2] := by simp [hml]
   have hpl := qdy (x := x) hp _ _ hg;rw [q04 (by omega), cT, hmid, q0r (by omega) (by rw [tN]; exact hg), qbp, bS, qp8];by_cases h1 : ltv l[(i + j) / 2] x
   .rw [decide_eq_true h1, cT, q01 (by omega)];exact qr7 hl hp x n ((i + j) / 2 + 1) j (by omega) (by have := hpl.1 h1; omega) hj hjl
   .rw [decide_eq_false h1, cF];exact qr7 hl hp x n i ((i + j) / 2) (by omega) hi (by have : ¬ (i + j) / 2 < posV x l := fun h => h1 (hpl.2 h); omega) (by omega)
  .have hij' : i = posV x l := by omega
   subst hij';rw [q00 (by omega), cF];by_cases he : posV x l < l.length
   .have hg : l[posV x l]? = some l[posV x l] := List.getElem?_eq_getElem he;rw [q04 (by omega), cT, q0r (by omega) (by rw [tN]; exact hg), qbp, bS, y3n];have : (l[posV x l] = x) ↔ x ∈ l := by rw [qry hp, hg]; simp
    rw [decide_eq_decide.2 this]
   .rw [q00 (by omega), cF];have : x ∉ l := fun e => by
     obtain ⟨y, hy, _⟩ := (qry hp).1 e;rw [List.getElem?_eq_none (by omega)] at hy; cases hy
    rw [decide_eq_false this]
def encV (x : Val) : D := .v (.string ⟨⟨x⟩⟩)
theorem qxb (l : List Val) : (l.map encV).all (q5w 1) = true := by
 rw [List.all_eq_true]; intro x hx; obtain ⟨y, _, rfl⟩ := List.mem_map.1 hx; rfl
theorem qpi (l : List Val) (hl : l.length < 1000000) (m : Val) (i : Nat) (hi : i <= l.length) : z52 (i : Int) [m] l = some (l.take i ++ m :: l.drop i, ()) := by
 refine qid (T := tn) (m := q2n 1) sigOk (by kernel_rfl) rfl ?_;show libA (q2n 1) [.ref 0, .d (.v (.int .i64 i)), .d (.list [encV m])] [[.own (l.map encV) false]] = some (.d (.list ((l.take i ++ m :: l.drop i).map encV)), [[.undef]]);unfold libA q2n;have h1 : (i : Int) <= ((l.map encV).length : Int) := by simp; omega
 have h2 : (l.map encV).length < q0m := by simp [q0m]; omega
 have h3 : q5w 1 (encV m) = true := rfl;simp only [Int.natCast_nonneg, h1, h2, h3, qxb, and_self, if_true, tN];simp only [List.map_append, List.map_cons, List.map_take, List.map_drop];rfl
theorem qfp {l : List Val} {x : Val} (hl : q0p l = true) : z3h l x = some (putV l x) := by
 obtain ⟨_, ha, hlen⟩ := q0o.1 hl;apply y9e;have h1 : z0w l x = some (((posV x l : Nat) : Int), decide (x ∈ l)) :=
  y8n _ _ _ (qr7 hlen ha x l.length 0 l.length (by omega) (by omega) (ql7 x l) (Nat.le_refl _))
 rw [h1, bS];unfold putV;by_cases hx : x ∈ l
 .simp [hx]
 .simp only [hx, decide_false, cF, false_or];by_cases h40 : 40 <= l.length
  .rw [if_pos h40, show leB 40 ((l.length : Nat) : Int) = true by unfold leB; simp; omega, cT]
  .rw [if_neg h40, show leB 40 ((l.length : Nat) : Int) = false by unfold leB; simp; omega, cF, q6x l (by omega), bS]
   dsimp only
   rw [qpi l (by omega) x _ (ql7 x l), bS];congr 1
   refine (qyw ha (ql7 x l) (fun y hy => ?_) (fun y hy => ?_)).symm
   .obtain ⟨i, hi⟩ := List.getElem?_of_mem hy;rw [List.getElem?_take] at hi;split at hi
    .exact (qdy ha i y hi).2 (by assumption)
    .cases hi
   .obtain ⟨i, hi⟩ := List.getElem?_of_mem hy;rw [List.getElem?_drop] at hi;refine qb9 (fun e => hx (by rw [e]; exact List.mem_of_getElem? hi)) fun g => ?_
    have := (qdy ha _ y hi).1 g;omega
theorem qz7 (a b : Val) (h : encV a = encV b) : a = b := by cases h; rfl
theorem qo7 (l : List Val) (hl : l.length < 1000000) : z4x l = some (q0a l, ()) := by
 refine qid (T := tn) (m := q46) sigOk (by kernel_rfl) rfl ?_;show libA q46 [.ref 0] [[.own (l.map encV) false]] = some (.d (.list ((q0a l).map encV)), [[.undef]]);have h1 : (l.map encV).length <= q0m := by simp [q0m]; omega
 have key : q46 [.ref 0] [[.own (l.map encV) false]] = some (.d (.list (q0a (l.map encV))), [[.undef]]) := by
  show (if _ /\ _ then _ else _) = _;rw [if_pos ⟨by rw [List.all_eq_true]; intro x hx; obtain ⟨y, _, rfl⟩ := List.mem_map.1 hx; rfl, h1⟩]
 unfold libA;rw [key, q8q (fun a b h => qz7 a b h) l];rfl
theorem q68 {x : Val} : ∀ {l : List Val}, x ∈ q0a l ↔ x ∈ l
 | [] => Iff.rfl
 | [y] => Iff.rfl
 | y :: z :: r => by
  rw [q1g];split
  .rename_i e;subst e;rw [q68 (l := y :: r)]; simp
  .simp only [List.mem_cons, q68 (l := z :: r)]
theorem q94 : ∀ {l : List Val}, l.Pairwise (fun x y => ¬ ltv y x) -> Asc (q0a l)
 | [], _ => List.Pairwise.nil
 | [y], _ => by simp [q0a]
 | y :: z :: r, h => by
  rw [List.pairwise_cons] at h;rw [q1g];split
  .exact q94 h.2
  .rename_i e;refine List.pairwise_cons.2 ⟨fun u hu => ?_, q94 h.2⟩;have hyz := qb9 e (h.1 z (by simp));rcases List.mem_cons.1 (q68.1 hu) with rfl | hu
   .exact hyz
   .by_cases e2 : z = u
    .subst e2; exact hyz
    .exact q5e hyz (qb9 e2 ((List.pairwise_cons.1 h.2).1 u hu))
theorem swoV : SWO (fun x y => ltB (cmpv x y) 0) := by
 refine ⟨fun x => ?_, fun x y z h h' => ?_, fun x y z h h' => ?_⟩ <;> simp only [qp8, dT', decide_eq_false_iff_not] at *
 .exact q1v x
 .exact q5e h h'
 .intro g;by_cases e : x = y
  .subst e; exact h' g
  .by_cases e2 : y = z
   .subst e2; exact h g
   .exact qd3 (q5e (qb9 (fun e' => e2 e'.symm) h') (qb9 (fun e' => e e'.symm) h)) g
theorem qrk (l : List Nomination) (hl : l.length <= 11) (hm : ∀ m ∈ l, nomB m = true) : ∀ (suf : List Nomination) (i : Nat) (acc : List Val), i <= l.length -> l.drop i = suf -> acc.length <= 80 * i -> z36 acc l ((l.length : Nat) : Int) (i : Int) = some (setV (acc ++ q3o suf))
 | [], i, acc, hi, h, ha => by
  apply y23;rw [q0g h, cF];obtain ⟨ys, h3, h4, h5⟩ := y3z qbp swoV acc (by omega);rw [h3, bS, qo7 ys (by rw [h4.length_eq]; omega)];show some (q0a ys) = _;congr 1
  refine qww (q94 (h5.imp fun h => by simpa [qp8] using h)) fun x => ?_
  rw [q68, h4.mem_iff]; simp [q3o]
 | y :: suf, i, acc, hi, h, ha => by
  have hlt := q0d h;have hy := hm y (List.mem_of_mem_drop (i := i) (by rw [h]; simp));obtain ⟨_, _, _, hv1, hv2⟩ := q2e.1 hy;have hv1 := (q0o.1 hv1).2.2;have hv2 := (q0o.1 hv2).2.2;apply y23;rw [q07 h, cT, q05 h, q0z (by simp [q0m]; omega), q0z (by simp [q0m]; omega), q01 (by omega),
   qrk l hl hm suf (i + 1) _ (by omega) (q03 h) (by simp; omega)]
  simp [q3o]
theorem qrp {l : List Nomination} (hl : l.length <= 11) (hm : ∀ m ∈ l, nomB m = true) : z41 l = some (setV (q3o l)) :=
 y8i _ _ (qrk l hl hm l 0 [] (by omega) rfl (by simp))
end Go.Proofs.YtglokalgdbegeaaGreat
namespace Go.Proofs.YtglokalgdbegeaaGreat
open Go Go.Ab
mutual
def wgt (k : Int) : Trust -> Option (Int × Int)
 | ⟨t, ns, is⟩ => if ns.contains k then some (t, ((ns.length + is.length : Nat) : Int)) else (wgts k is).map fun p => (t * p.1, ((ns.length + is.length : Nat) : Int) * p.2)
def wgts (k : Int) : List Trust -> Option (Int × Int)
 | [] => none
 | x :: r => match wgt k x with
  | some p => some p
  | none => wgts k r
end
theorem qvr (k : Int) (t : Trust) : wgt k t = if t.Nodes.contains k then some (t.Threshold, ((t.Nodes.length + t.Inner.length : Nat) : Int)) else (wgts k t.Inner).map fun p => (t.Threshold * p.1, ((t.Nodes.length + t.Inner.length : Nat) : Int) * p.2) := by cases t; simp only [wgt]
theorem qta {k : Int} {p : Int × Int} : ∀ {l : List Trust}, wgts k l = some p -> ∃ x ∈ l, wgt k x = some p
 | [], h => by simp [wgts] at h
 | x :: r, h => by
  rw [wgts] at h;cases hx : wgt k x with
  | some q => rw [hx] at h; exact ⟨x, by simp, by rw [hx]; exact h⟩
  | none =>
   rw [hx] at h;obtain ⟨y, h1, h2⟩ := qta h;exact ⟨y, by simp [h1], h2⟩
theorem qdm : ∀ {l : List Trust} {x : Trust}, goods l = true -> x ∈ l -> good x = true
 | [], x, _, h => by simp at h
 | y :: r, x, h, hx => by
  rw [goods, aT] at h;rcases List.mem_cons.1 hx with e | hx
  .rw [e]; exact h.1
  .exact qdm h.2 hx
theorem qb1 : ∀ {l : List Trust} {x : Trust}, x ∈ l -> depth x <= q2s l
 | [], x, h => by simp at h
 | y :: r, x, h => by
  rw [q2s];rcases List.mem_cons.1 h with e | h
  .rw [e]; omega
  .have := qb1 h; omega
theorem qno (k : Int) : ∀ (t : Trust), good t = true -> size t <= 200 -> ∀ p, wgt k t = some p -> 1 <= p.1 /\ p.1 <= p.2 /\ p.2 <= ((200 ^ depth t : Nat) : Int) := by
 apply Trust.ind;intro t ih hg hs p hp;rw [qe1] at hg;simp only [aT, dT'] at hg;obtain ⟨g1, g2, _, _, g5⟩ := hg;have hsz := hs;rw [q3g] at hsz;rw [qvr] at hp;rw [qcc];split at hp
 .cases hp;refine ⟨g1, g2, ?_⟩;have h1 : 1 <= 200 ^ q2s t.Inner := Nat.one_le_pow _ _ (by decide);have h2 : 200 ^ (q2s t.Inner + 1) = 200 ^ q2s t.Inner * 200 := Nat.pow_succ ..;show ((t.Nodes.length + t.Inner.length : Nat) : Int) <= _;rw [h2];have : t.Nodes.length + t.Inner.length <= 200 ^ q2s t.Inner * 200 := by omega
  exact Int.ofNat_le.2 this
 .cases hw : wgts k t.Inner with
  | none => rw [hw] at hp; cases hp
  | some q =>
   rw [hw] at hp; cases hp;obtain ⟨x, hx, hxw⟩ := qta hw;have hsx := qg4 hx;obtain ⟨a1, a2, a3⟩ := ih x hx (qdm g5 hx) (by omega) q hxw;have hdx := qb1 hx;have hpow : 200 ^ depth x <= 200 ^ q2s t.Inner := Nat.pow_le_pow_right (by decide) hdx;have a4 : q.2 <= ((200 ^ q2s t.Inner : Nat) : Int) := Int.le_trans a3 (Int.ofNat_le.2 hpow);generalize hn : t.Nodes.length + t.Inner.length = n at *;have hn200 : (n : Int) <= 200 := by omega
   refine ⟨?_, ?_, ?_⟩
   .show 1 <= t.Threshold * q.1;have := Int.mul_le_mul g1 a1 (by omega) (by omega : (0 : Int) <= t.Threshold);omega
   .show t.Threshold * q.1 <= (n : Int) * q.2;exact Int.mul_le_mul g2 a2 (by omega) (by omega)
   .show (n : Int) * q.2 <= _;have := Int.mul_le_mul hn200 a4 (by omega) (by omega : (0 : Int) <= 200);rw [Nat.pow_succ, Nat.mul_comm];rw [Int.natCast_mul];exact this
theorem qmz {k : Int} {t : Trust} (h : valid t = true) {p : Int × Int} (hp : wgt k t = some p) : 1 <= p.1 /\ p.1 <= p.2 /\ p.2 <= 1600000000 := by
 simp only [valid, aT, dT'] at h;obtain ⟨a, b, c⟩ := qno k t h.2.2 h.2.1 p hp;refine ⟨a, b, Int.le_trans c ?_⟩;have : 200 ^ depth t <= 200 ^ 4 := Nat.pow_le_pow_right (by decide) h.1;have h4 : 200 ^ 4 = 1600000000 := by decide
 rw [h4] at this;omega
theorem qwm (k s r n : Int) : ∃ h, z4e k s r n = some h /\ 0 <= h /\ h < 4294967296 := by
 have rng : ∀ z : Int, 0 <= IntKind.wrap .u32 z /\ IntKind.wrap .u32 z < 4294967296 := fun z => by
  have : IntKind.wrap .u32 z = z % 4294967296 := by
   show (if (false && decide (z % 4294967296 ≥ 2147483648)) = true then z % 4294967296 - 4294967296 else z % 4294967296) = _;simp
  rw [this]; omega
 exact ⟨_, y95 _ _ _ _ _ rfl, (rng _).1, (rng _).2⟩
noncomputable def hsh (k s r n : Int) : Int := (z4e k s r n).getD 0
theorem qkh (k s r n : Int) : z4e k s r n = some (hsh k s r n) := by
 obtain ⟨h, h1, _⟩ := qwm k s r n;rw [hsh, h1]; rfl
theorem qie (k s r n : Int) : 0 <= hsh k s r n /\ hsh k s r n < 4294967296 := by
 obtain ⟨h, h1, h2⟩ := qwm k s r n;rw [hsh, h1]; exact h2
theorem qxk (l : List Int) (hl : l.length < 1152921504606846976) (x : Int) : ∀ (suf : List Int) (i : Nat), l.drop i = suf -> ∃ r : Int, z1k l x ((l.length : Nat) : Int) (i : Int) = some r /\ leB 0 r = suf.contains x
 | [], i, h => by
  refine ⟨-1, qx6 _ _ _ _ _ ?_, by simp [leB]⟩;rw [q0g h]; simp
 | y :: suf, i, h => by
  have hlt := q0d h;obtain ⟨r, h1, h2⟩ := qxk l hl x suf (i + 1) (q03 h);by_cases hx : x = y
  .refine ⟨i, qx6 _ _ _ _ _ ?_, by simp [leB, hx]⟩;rw [q07 h, cT, q05 h]; simp [eqB, hx]
  .refine ⟨r, qx6 _ _ _ _ _ ?_, by rw [h2]; simp [hx]⟩;rw [q07 h, cT, q05 h, q01 (by omega), q4q hx, cF, h1]
theorem qzh (l : List Int) (hl : l.length < 1152921504606846976) (x : Int) : z2g l x = some (l.contains x) := by
 obtain ⟨r, h1, h2⟩ := qxk l hl x l 0 rfl;apply y83;have h3 : z34 l x = some r := y5l _ _ _ h1;rw [h3, bS, h2]
def wFrac : Option (Int × Int) -> Frac × Bool
 | some p => (⟨p.1, p.2⟩, true)
 | none => (⟨0, 0⟩, false)
theorem qv9 (k : Int) (x : Trust) (r : List Trust) : wgts k (x :: r) = match wgt k x with | some p => some p | none => wgts k r := by rw [wgts]; first | done | (cases wgt k x <;> rfl)
structure WOk (t : Trust) : Prop where
 gd : good t = true
 sz : size t <= 200
 dp : depth t <= 4
theorem WOk.mem {t x : Trust} (h : WOk t) (hx : x ∈ t.Inner) : WOk x /\ depth x + 1 <= 4 /\ t.Nodes.length + t.Inner.length <= 200 /\ 1 <= t.Threshold /\ t.Threshold <= 200 := by
 obtain ⟨h1, h2, h3⟩ := h;have hsx := qg4 hx;have hdx := qb1 hx;have h1' := h1;rw [qe1] at h1';simp only [aT, dT'] at h1';obtain ⟨g1, g2, _, _, g5⟩ := h1';have hsz := h2;rw [q3g] at hsz;rw [qcc] at h3;exact ⟨⟨qdm g5 hx, by omega, by omega⟩, by omega, by omega, g1, by omega⟩
theorem WOk.range {t : Trust} (h : WOk t) {k : Int} {p : Int × Int} (hp : wgt k t = some p) : 1 <= p.1 /\ p.1 <= p.2 /\ p.2 <= ((200 ^ depth t : Nat) : Int) := qno k t h.gd h.sz p hp
theorem WOk.prod {t x : Trust} (h : WOk t) (hx : x ∈ t.Inner) {k : Int} {p : Int × Int} (hp : wgt k x = some p) :
  mulI .i64 t.Threshold p.1 = t.Threshold * p.1 /\ mulI .i64 ((t.Nodes.length + t.Inner.length : Nat) : Int) p.2 = ((t.Nodes.length + t.Inner.length : Nat) : Int) * p.2 := by
 obtain ⟨hw, hd, hn, ht1, ht2⟩ := h.mem hx;obtain ⟨r1, r2, r3⟩ := hw.range hp;have hpow : 200 ^ depth x <= 200 ^ 3 := Nat.pow_le_pow_right (by decide) (by omega);have h3 : (200 : Nat) ^ 3 = 8000000 := by decide
 generalize 200 ^ depth x = D at *;generalize t.Nodes.length + t.Inner.length = n at *;have b1 : t.Threshold * p.1 <= 200 * 8000000 := Int.mul_le_mul ht2 (by omega) (by omega) (by omega);have b2 : (n : Int) * p.2 <= 200 * 8000000 := Int.mul_le_mul (by omega) (by omega) (by omega) (by omega);have b3 : 0 <= t.Threshold * p.1 := Int.mul_nonneg (by omega) (by omega);have b4 : 0 <= (n : Int) * p.2 := Int.mul_nonneg (by omega) (by omega);exact ⟨wrap64 (by omega) (by omega), wrap64 (by omega) (by omega)⟩
theorem y4v (k : Int) : ∀ t : Trust, WOk t -> z4u t k = some (wFrac (wgt k t)) := by
 apply Trust.ind;intro t ih h;have hsz := h.sz;rw [q3g] at hsz;apply y5b;rw [qzh _ (by omega), bS, q2d (by omega) (by omega), qvr];cases hc : t.Nodes.contains k with
 | true => simp [wFrac]
 | false =>
  rw [cF];have l1 : ∀ (suf : List Trust) (i : Nat), t.Inner.drop i = suf -> z37 k t.Inner ((t.Inner.length : Nat) : Int) (i : Int) t.Threshold t.Nodes t.Inner 0 0 t.Threshold ((t.Nodes.length : Int) + (t.Inner.length : Int)) =
    some (wFrac ((wgts k suf).map fun p => (t.Threshold * p.1, ((t.Nodes.length + t.Inner.length : Nat) : Int) * p.2))) := by
   intro suf;induction suf with
   | nil =>
    intro i h';apply y28;rw [q0g h']; simp [wgts, wFrac]
   | cons y suf ihs =>
    intro i h';have hlt := q0d h';have hy : y ∈ t.Inner := List.mem_of_mem_drop (i := i) (by rw [h']; simp);apply y28;rw [q07 h', cT, q05 h', ih y hy (h.mem hy).1, bS, qv9];cases hw : wgt k y with
    | some p =>
     obtain ⟨p1, p2⟩ := h.prod hy hw;have e : ((t.Nodes.length : Int) + (t.Inner.length : Int)) = ((t.Nodes.length + t.Inner.length : Nat) : Int) := by omega
     rw [e];simp only [wFrac, cT];rw [p1, p2]; rfl
    | none => simp only [wFrac, cF]; rw [q01 (by omega)]; exact ihs (i + 1) (q03 h')
  exact (l1 t.Inner 0 rfl).trans (by simp)
theorem WOk.of {t : Trust} (h : valid t = true) : WOk t := by
 simp only [valid, aT, dT'] at h;exact ⟨h.2.2, h.2.1, h.1⟩
noncomputable def nghB (t : Trust) (v slot round k : Int) : Bool := decide (k = v) || match wgt k t with | some p => decide (hsh 1 slot round k * p.2 < p.1 * 4294967296) | none => false
theorem qnm {n : Int} (h0 : 0 <= n) (h : n < 18446744073709551616) : IntKind.wrap .u64 n = n := by
 show (if (false && decide (n % 18446744073709551616 ≥ 9223372036854775808)) = true then n % 18446744073709551616 - 18446744073709551616 else n % 18446744073709551616) = _;simp only [Bool.false_and, fT, if_false];exact Int.emod_eq_of_lt h0 h
theorem qvd {t : Trust} (h : valid t = true) {k : Int} {p : Int × Int} (hp : wgt k t = some p) (s r n : Int) : 0 <= hsh 1 s r n * p.2 /\ hsh 1 s r n * p.2 < 9223372036854775808 /\ 0 <= p.1 /\ p.1 * 4294967296 < 9223372036854775808 := by
 obtain ⟨a1, a2, a3⟩ := qmz h hp;obtain ⟨b1, b2⟩ := qie 1 s r n;have := Int.mul_le_mul (show hsh 1 s r n <= 4294967296 by omega) a3 (by omega) (by omega : (0 : Int) <= 4294967296);exact ⟨Int.mul_nonneg b1 (by omega), by omega, by omega, by omega⟩
theorem qpw {t : Trust} (h : valid t = true) (v slot round k : Int) : z4o t v slot round k = some (nghB t v slot round k) := by
 apply y8p;unfold nghB;by_cases e : k = v
 .subst e; rw [q3r]; simp
 .rw [q4q e, cF, y4v k t (WOk.of h), bS];cases hw : wgt k t with
  | none => simp [wFrac, e]
  | some p =>
   obtain ⟨c1, c2, c3, c4⟩ := qvd h hw slot round k;obtain ⟨a1, a2, a3⟩ := qmz h hw;obtain ⟨b1, b2⟩ := qie 1 slot round k;simp only [wFrac, cT, qkh, bS];rw [qnm b1 (by omega), qnm (n := p.2) (by omega) (by omega), qnm (n := p.1) c3 (by omega)];have e1 : mulI .u64 (hsh 1 slot round k) p.2 = hsh 1 slot round k * p.2 := qnm c1 (by omega);have e2 : shlI .u64 p.1 32 = p.1 * 4294967296 := by
    show IntKind.wrap .u64 (p.1 * 4294967296) = _;exact qnm (by omega) (by omega)
   rw [e1, e2];simp [ltB, e]
structure AskOk (t : Trust) (v slot round : Int) : Prop where
 tr : valid t = true
 node : inR v = true
 slot : 0 <= slot /\ slot <= 1000000
 round : 1 <= round /\ round <= 1000
theorem y44 {t : Trust} {v slot round : Int} (h : AskOk t v slot round) : z5c t v slot round = some 0 := by
 apply y74;have h0 : verr t = 0 := (q47 t).2 h.tr;obtain ⟨h1, h2, h3, h4⟩ := h;simp only [inR, aT, dT'] at h2;rw [q7g _ (q22 h1), bS, h0, q00 (by omega), q0c (by omega), q00 (by omega), q00 (by omega), q00 (by omega), q00 (by omega)];rfl
structure Lead (N : Int -> Bool) (h : Int -> Int) (b : Int) : Prop where
 node : inR b = true
 ngh : N b = true
 most : ∀ k, inR k = true -> N k = true -> h k < h b \/ h k = h b /\ k <= b
theorem qjb {t : Trust} (ht : valid t = true) {v slot round : Int} (hv : inR v = true) : ∀ (n i : Nat) (b m : Int), i + n = 10 -> (∀ k, inR k = true -> k < (i : Int) -> nghB t v slot round k = true -> hsh 2 slot round k < m \/ hsh 2 slot round k = m /\ k <= b) ->
  ((b = v /\ m = 0 /\ (i : Int) <= v) \/ inR b = true /\ b < (i : Int) /\ nghB t v slot round b = true /\ m = hsh 2 slot round b) ->
  ∃ c, z1o v slot round b m (i : Int) t.Threshold t.Nodes t.Inner = some c /\ Lead (nghB t v slot round) (hsh 2 slot round) c
 | 0, i, b, m, hi, hk, hb => by
  have hv' : 0 <= v /\ v < 10 := by simpa [inR] using hv
  refine ⟨b, qrq _ _ _ _ _ _ _ _ _ _ (by rw [q00 (by omega)]; rfl), ?_⟩;rcases hb with ⟨_, _, h3⟩ | ⟨h1, h2, h3, h4⟩
  .omega
  .refine ⟨h1, h3, fun k hk1 hk2 => ?_⟩;have : 0 <= k /\ k < 10 := by simpa [inR] using hk1
   have := hk k hk1 (by omega) hk2;rw [h4] at this; exact this
 | n + 1, i, b, m, hi, hk, hb => by
  have hv' : 0 <= v /\ v < 10 := by simpa [inR] using hv
  have hin : inR (i : Int) = true := by simp [inR]; omega
  have next : ∀ b' m', (∀ k, inR k = true -> k < ((i + 1 : Nat) : Int) -> nghB t v slot round k = true -> hsh 2 slot round k < m' \/ hsh 2 slot round k = m' /\ k <= b') -> ((b' = v /\ m' = 0 /\ ((i + 1 : Nat) : Int) <= v) \/ inR b' = true /\ b' < ((i + 1 : Nat) : Int) /\ nghB t v slot round b' = true /\ m' = hsh 2 slot round b') ->
    ∃ c, z1o v slot round b' m' ((i + 1 : Nat) : Int) t.Threshold t.Nodes t.Inner = some c /\ Lead (nghB t v slot round) (hsh 2 slot round) c := fun b' m' => qjb ht hv n (i + 1) b' m' (by omega)
  have split : ∀ k : Int, k < ((i + 1 : Nat) : Int) -> k < (i : Int) \/ k = (i : Int) := fun k hk => by omega
  have hbv : nghB t v slot round v = true := by simp [nghB]
  cases hN : nghB t v slot round (i : Int) with
  | false =>
   obtain ⟨c, h1, h2⟩ := next b m (fun k hk1 hk2 hk3 => by
    rcases split k hk2 with e | e
    .exact hk k hk1 e hk3
    .subst e; rw [hN] at hk3; cases hk3) (by
    rcases hb with ⟨e1, e2, e3⟩ | ⟨e1, e2, e3, e4⟩
    .refine .inl ⟨e1, e2, ?_⟩;have : (i : Int) ≠ v := fun e => by rw [e, hbv] at hN; cases hN
     omega
    .exact .inr ⟨e1, by omega, e3, e4⟩)
   refine ⟨c, qrq _ _ _ _ _ _ _ _ _ _ ?_, h2⟩;rw [q04 (by omega), cT, Trust.etaM, qpw ht, bS, hN, q01 (by omega)];exact h1
  | true =>
   have hr := (qie 2 slot round (i : Int)).1;by_cases hle : m <= hsh 2 slot round (i : Int)
   .obtain ⟨c, h1, h2⟩ := next (i : Int) (hsh 2 slot round (i : Int)) (fun k hk1 hk2 hk3 => by
     rcases split k hk2 with e | e
     .rcases hk k hk1 e hk3 with g | ⟨g, g'⟩
      .exact .inl (by omega)
      .by_cases e' : hsh 2 slot round k = hsh 2 slot round (i : Int)
       .exact .inr ⟨e', by omega⟩
       .exact .inl (by omega)
     .subst e; exact .inr ⟨rfl, by omega⟩) (.inr ⟨hin, by omega, hN, rfl⟩)
    refine ⟨c, qrq _ _ _ _ _ _ _ _ _ _ ?_, h2⟩;rw [q04 (by omega), cT, Trust.etaM, qpw ht, bS, hN, qkh, q01 (by omega)];simp only [nT, cF, bS, q0f hle, cT];exact h1
   .obtain ⟨c, h1, h2⟩ := next b m (fun k hk1 hk2 hk3 => by
     rcases split k hk2 with e | e
     .exact hk k hk1 e hk3
     .subst e; exact .inl (by omega)) (by
     rcases hb with ⟨e1, e2, e3⟩ | ⟨e1, e2, e3, e4⟩
     .omega
     .exact .inr ⟨e1, by omega, e3, e4⟩)
    refine ⟨c, qrq _ _ _ _ _ _ _ _ _ _ ?_, h2⟩;rw [q04 (by omega), cT, Trust.etaM, qpw ht, bS, hN, qkh, q01 (by omega)];simp only [nT, cF, bS, q0c (show hsh 2 slot round (i : Int) < m by omega)];exact h1
noncomputable def leadR (t : Trust) (v slot round : Int) : Int := (z45 t v slot round).getD 0
theorem qde {t : Trust} (ht : valid t = true) {v : Int} (slot round : Int) (hv : inR v = true) : z45 t v slot round = some (leadR t v slot round) /\ Lead (nghB t v slot round) (hsh 2 slot round) (leadR t v slot round) := by
 have hv' : 0 <= v /\ v < 10 := by simpa [inR] using hv
 obtain ⟨c, h1, h2⟩ := qjb (slot := slot) (round := round) ht hv 10 0 v 0 rfl (fun k hk hk0 => by
  have : 0 <= k /\ k < 10 := by simpa [inR] using hk
  have : k < 0 := hk0;omega) (.inl ⟨rfl, rfl, hv'.1⟩)
 have h3 : z45 t v slot round = some c := y7m _ _ _ _ _ h1;rw [leadR, h3]; exact ⟨rfl, h2⟩
noncomputable def leadF (t : Trust) (v slot : Int) : Nat -> Nat -> Nat -> Nat
 | 0, _, s => s
 | n + 1, i, s => leadF t v slot n (i + 1) (s ||| bit (leadR t v slot ((i + 1 : Nat) : Int)))
noncomputable def leadS (t : Trust) (v slot rounds : Int) : Nat := leadF t v slot rounds.toNat 0 0
theorem qro {t : Trust} (ht : valid t = true) {v slot : Int} (hv : inR v = true) : ∀ (n i s : Nat), s < 1024 -> leadF t v slot n i s < 1024
 | 0, _, _s, h => h
 | n + 1, i, _s, h => qro ht hv n (i + 1) _ (or_lt h (qc2 (qde ht slot _ hv).2.node))
theorem y00 {t : Trust} (ht : valid t = true) {v : Int} (slot rounds : Int) (hv : inR v = true) : leadS t v slot rounds < 1024 := qro ht hv _ _ _ (by decide)
theorem qsw {t : Trust} {v slot rounds : Int} (h : AskOk t v slot rounds) : ∀ (n i s : Nat), i + n = rounds.toNat -> s < 1024 -> z2v v slot (s : Int) rounds (i : Int) t.Threshold t.Nodes t.Inner = some (((leadF t v slot n i s : Nat) : Int), 0)
 | 0, i, s, hi, hs => by
  have := h.round;apply y1t;rw [q00 (by omega)]; rfl
 | n + 1, i, s, hi, hs => by
  have hr := h.round;have hc := qde h.tr slot ((i + 1 : Nat) : Int) h.node;have hn := hc.2.node;have hn' : 0 <= leadR t v slot ((i + 1 : Nat) : Int) := (qia hn).1;apply y1t;rw [q04 (by omega), cT, Trust.etaM, q01 (by omega), hc.1, bS, q1p hn', shlOr hs hn, qsw h n (i + 1) _ (by omega) (or_lt hs (qc2 hn))];rfl
theorem y0m {t : Trust} {v slot rounds : Int} (h : AskOk t v slot rounds) : z4z t v slot rounds = some (((leadS t v slot rounds : Nat) : Int), 0) := by
 apply y7l;rw [y44 h, bS, q0x, cF];exact qsw h rounds.toNat 0 0 (by omega) (by decide)
noncomputable def leadL (t : Trust) (v slot rounds : Int) : List Int := (nodes (leadS t v slot rounds)).map Int.ofNat
theorem qls (k : Int) : z3n k = some (inR k) := by
 apply y5h;by_cases h : 0 <= k
 .simp [leB, ltB, inR, h]
 .simp [leB, ltB, inR, h]
theorem qqj {m : Nomination} (h : SmallN m) : z42 m = some (nomB m) := by
 apply y9g;rw [qls, q7g _ h.tr, qcw _ (by have := h.votes; omega), qcw _ (by have := h.accs; omega)];simp only [bS, q8w, nomB, leB];cases inR m.Node <;> cases decide (1 <= m.Seq) <;> cases valid m.Trust <;> cases q0p m.Votes <;> rfl
theorem qnj (m : Nomination) : Nomination.mk m.Node m.Seq (Trust.mk m.Trust.Threshold m.Trust.Nodes m.Trust.Inner) m.Votes m.Accepts = m := by rw [Trust.etaM]
theorem q4p (n : Nominator) : Nominator.mk n.Node n.Slot n.Round n.Seq (Trust.mk n.Trust.Threshold n.Trust.Nodes n.Trust.Inner) n.Own n.Votes n.Accepts n.Candidates n.Heard = n := by rw [Trust.etaM]
theorem qsb (l : List Val) (n : Nominator) (hl : l.length < 1152921504606846976) (ha : n.Accepts.length < 1000000) : ∀ (suf : List Val) (i : Nat), l.drop i = suf -> ∃ r : Int, z0g l ((l.length : Nat) : Int) (i : Int) n.Node n.Slot n.Round n.Seq n.Trust.Threshold n.Trust.Nodes n.Trust.Inner n.Own n.Votes n.Accepts n.Candidates n.Heard = some (r, n.Node, n.Slot, n.Round, n.Seq, n.Trust.Threshold, n.Trust.Nodes, n.Trust.Inner, n.Own, n.Votes, n.Accepts, n.Candidates, n.Heard) /\ leB 0 r = !(suf.all fun x => decide (x ∈ n.Accepts))
 | [], i, h => by
  refine ⟨-1, qwv _ _ _ _ _ _ _ _ _ _ _ _ _ _ _ _ ?_, by simp [leB]⟩;rw [q0g h]; rfl
 | y :: suf, i, h => by
  have hlt := q0d h;obtain ⟨r, h1, h2⟩ := qsb l n hl ha suf (i + 1) (q03 h);have hf : z4d y n.Node n.Slot n.Round n.Seq n.Trust.Threshold n.Trust.Nodes n.Trust.Inner n.Own n.Votes n.Accepts n.Candidates n.Heard = some (!decide (y ∈ n.Accepts), n.Node, n.Slot, n.Round, n.Seq, n.Trust.Threshold, n.Trust.Nodes, n.Trust.Inner, n.Own, n.Votes, n.Accepts, n.Candidates, n.Heard) := by
   apply y6t;rw [qfo _ (by omega)]; rfl
  by_cases hy : y ∈ n.Accepts
  .refine ⟨r, qwv _ _ _ _ _ _ _ _ _ _ _ _ _ _ _ _ ?_, by rw [h2]; simp [hy]⟩;rw [q07 h, cT, q05 h, hf, bS, q01 (by omega)];simp only [hy, decide_true, nT, cF];exact h1
  .refine ⟨i, qwv _ _ _ _ _ _ _ _ _ _ _ _ _ _ _ _ ?_, by simp [hy, leB]⟩;rw [q07 h, cT, q05 h, hf, bS];simp only [hy, decide_false, Bool.not_false, cT]
theorem qx2 (n : Nominator) (hl : n.Heard.length < 1000000) (hm : ∀ m ∈ n.Heard, SmallN m) : ∀ (suf : List Nomination) (i : Nat) (z : Nomination), n.Heard[i]? = some z -> n.Heard.drop (i + 1) = suf ->
  z1n n.Heard ((n.Heard.length : Nat) : Int) ((i + 1 : Nat) : Int) n.Node n.Slot n.Round n.Seq n.Trust.Threshold n.Trust.Nodes n.Trust.Inner n.Own n.Votes n.Accepts n.Candidates n.Heard = some (q2c n.Node (some z.Node) suf)
 | [], i, z, hz, h => by
  apply qt1;rw [q0g h]; rfl
 | y :: suf, i, z, hz, h => by
  have hlt := q0d h;apply qt1;rw [q07 h, cT, q05 h, qqj (hm y (List.mem_of_mem_drop (i := i + 1) (by rw [h]; simp))), bS, q04 (by omega), cT, q2t (by omega) (by omega), q0r (y := z) (by omega) (by rw [show (((i + 1 : Nat) : Int) - 1).toNat = i by omega]; exact hz), q01 (by omega),
   qx2 n hl hm suf (i + 1) y (by have := congrArg (·[0]?) h; simpa using this) (q03 h)]
  rw [q2c, show leB y.Node z.Node = !decide (z.Node < y.Node) by by_cases h2 : z.Node < y.Node <;> simp [leB, h2] <;> omega];simp only [eqB];cases nomB y <;> cases decide (y.Node = n.Node) <;> cases decide (z.Node < y.Node) <;> rfl
theorem y4x (n : Nominator) (hl : n.Heard.length < 1000000) (hm : ∀ m ∈ n.Heard, SmallN m) : z1n n.Heard ((n.Heard.length : Nat) : Int) 0 n.Node n.Slot n.Round n.Seq n.Trust.Threshold n.Trust.Nodes n.Trust.Inner n.Own n.Votes n.Accepts n.Candidates n.Heard = some (q2c n.Node none n.Heard) := by
 cases hh : n.Heard with
 | nil =>
  apply qt1;simp [ltB, q2c]
 | cons y r =>
  have h1 := qx2 n hl hm r 0 y (by rw [hh]; rfl) (by rw [hh]; rfl);rw [hh] at h1 hm;apply qt1;rw [q04 (by rw [List.length_cons]; omega), cT, q0r (y := y) (by omega) rfl, qqj (hm y (by simp)), bS, q00 (by omega), cF, show addI .i64 0 1 = ((0 + 1 : Nat) : Int) from rfl, h1, q2c];by_cases h1 : y.Node = n.Node
  all_goals cases nomB y <;> simp [h1, eqB]
theorem qzf (n : Nominator) : z4c n = some (numsN n) := by
 apply y8w;rw [qls, bS];unfold numsN leB;cases inR n.Node <;> cases decide (0 <= n.Slot) <;> cases decide (n.Slot <= 1000000) <;> cases decide (1 <= n.Round) <;> cases decide (n.Round <= 1000) <;> cases decide (1 <= n.Seq) <;> rfl
theorem qa2 {n : Nominator} (h : SmallR n) : z2r n = some (q5j n) := by
 obtain ⟨h1, h2, h3, h4, h5, h6, h7⟩ := h;apply y5r;obtain ⟨r, g1, g2⟩ := qsb n.Candidates n (by omega) h4 n.Candidates 0 rfl;have g3 : z1c n.Candidates n.Node n.Slot n.Round n.Seq n.Trust.Threshold n.Trust.Nodes n.Trust.Inner n.Own n.Votes n.Accepts n.Candidates n.Heard = _ := y9a _ _ _ _ _ _ _ _ _ _ _ _ _ _ g1;have g4 : z18 n.Candidates n.Node n.Slot n.Round n.Seq n.Trust.Threshold n.Trust.Nodes n.Trust.Inner n.Own n.Votes n.Accepts n.Candidates n.Heard = some (!(n.Candidates.all fun x => decide (x ∈ n.Accepts)), n.Node, n.Slot, n.Round, n.Seq, n.Trust.Threshold, n.Trust.Nodes, n.Trust.Inner, n.Own, n.Votes, n.Accepts, n.Candidates, n.Heard) := by
  apply y59;rw [g3, bS, g2]
 rw [qzf, q7g _ h1, qcw _ (by omega), qcw _ (by omega), qcw _ (by omega), g4];simp only [bS, y4x n h6 h7, qos];have ho : ltB 200 ((n.Own.length : Nat) : Int) = !decide (n.Own.length <= 200) := by
  unfold ltB; rw [Bool.eq_iff_iff]; simp; omega
 rw [ho];unfold q5j;cases numsN n <;> cases valid n.Trust <;> cases decide (n.Own.length <= 200) <;> cases q0p n.Votes <;> cases q0p n.Accepts <;> cases q0p n.Candidates <;> cases n.Candidates.all (fun x => decide (x ∈ n.Accepts)) <;> rfl
theorem qsk (n : Nominator) : z4r n = some (sayN n) := y6b _ _ (by rw [Trust.etaM]; rfl)
theorem qoe : ∀ t : Trust, Fits t -> z3c t = some t := by
 apply Trust.ind;intro t ih ht;have hsz : size t < 1073741824 := ht;rw [q3g] at hsz;have l1 : ∀ (suf : List Trust) (i : Nat) (acc : List Trust) (a8 : Int) (a10 : List Int) (a12 : List Trust) (a14 : Int) (a16 : List Int) (a18 : List Trust) (a20 : Int) (a22 : List Int), t.Inner.drop i = suf -> acc.length <= i ->
   z2l t.Inner ((t.Inner.length : Nat) : Int) (i : Int) a8 a10 a12 a14 a16 a18 a20 a22 acc = some ⟨a20, a22, acc ++ suf⟩ := by
  intro suf;induction suf with
  | nil =>
   intro i acc a8 a10 a12 a14 a16 a18 a20 a22 h ha;apply y2l;simp only [q0g h, cF, List.append_nil]
  | cons y suf ihs =>
   intro i acc a8 a10 a12 a14 a16 a18 a20 a22 h ha;have hlt := q0d h;have hy : y ∈ t.Inner := List.mem_of_mem_drop (by rw [h]; exact List.mem_cons_self);apply y2l;simp only [q07 h, cT, q05 h, ih y hy (ht.mem hy), bS, q01 (show i < 4611686018427387904 by omega), Trust.etaM];rw [q0z (by simp [q0m]; omega), ihs (i + 1) (acc ++ [y]) _ _ _ _ _ _ _ _ (q03 h) (by simp; omega)];simp
 apply y9f;have h1 : z32 t.Nodes = some ((), t.Nodes) := y79 _ _ (by rw [q0z (by simp [q0m]; omega)]; rfl);rw [h1, bS, show (0 : Int) = ((0 : Nat) : Int) from rfl, l1 t.Inner 0 [] _ _ _ _ _ _ _ _ rfl (Nat.le_refl _)];show some (Trust.mk t.Threshold t.Nodes t.Inner) = some t;rw [Trust.etaM]
theorem qp6 {m : Nomination} (ht : Fits m.Trust) (h1 : m.Votes.length < 1000000) (h2 : m.Accepts.length < 1000000) : z2d m = some m := by
 apply y9d;rw [qoe _ ht, bS, q6x _ h1, bS, q6x _ h2, bS, Trust.etaM]
theorem qnn (l : List Nomination) (hl : l.length < 1000000) (hm : ∀ m ∈ l, z2d m = some m) (n sl r s : Int) (t : Int) (ns : List Int) (is : List Trust) (ow : Val) (va aa ca : List Val) (d1 d2 d3 d4 d5 : Int) (d6 : List Int) (d7 : List Trust) (d8 : Val) (d9 d10 d11 : List Val) (d12 : List Nomination) : ∀ (suf : List Nomination) (i : Nat) (acc : List Nomination), l.drop i = suf -> acc.length <= i ->
  z2j l ((l.length : Nat) : Int) (i : Int) n sl r s t ns is ow va aa ca acc d1 d2 d3 d4 d5 d6 d7 d8 d9 d10 d11 d12 = some ⟨n, sl, r, s, ⟨t, ns, is⟩, ow, va, aa, ca, acc ++ suf⟩
 | [], i, acc, h, ha => by
  apply y2j;rw [q0g h, cF, List.append_nil]
 | m :: suf, i, acc, h, ha => by
  have hlt := q0d h;apply y2j;rw [q07 h, cT, q05 h, hm m (List.mem_of_mem_drop (i := i) (by rw [h]; simp)), bS, qnj, q0z (by simp [q0m]; omega), q01 (by omega), qnn l hl hm n sl r s t ns is ow va aa ca d1 d2 d3 d4 d5 d6 d7 d8 d9 d10 d11 d12 suf (i + 1) _ (q03 h) (by simp; omega)];simp
structure FreshN (n : Nominator) : Prop where
 tr : Fits n.Trust
 votes : n.Votes.length < 1000000
 accs : n.Accepts.length < 1000000
 cands : n.Candidates.length < 1000000
 heard : n.Heard.length < 1000000
 msgs : ∀ m ∈ n.Heard, z2d m = some m
theorem qbx {n : Nominator} (h : FreshN n) : z1j n = some n := by
 apply y7z;rw [qoe _ h.tr, bS, q6x _ h.votes, bS, q6x _ h.accs, bS, q6x _ h.cands, bS];have := qnn n.Heard h.heard h.msgs n.Node n.Slot n.Round n.Seq n.Trust.Threshold n.Trust.Nodes n.Trust.Inner n.Own n.Votes n.Accepts n.Candidates 0 0 0 0 0 [] [] [] [] [] [] [] n.Heard 0 [] rfl (Nat.le_refl _);refine Eq.trans this ?_;rw [Trust.etaM]; rfl
theorem qzw {m : Nomination} (h : nomB m = true) : z2d m = some m :=
 qp6 (q5a (q2e.1 h).2.2.1).1 (q5c h).votes (q5c h).accs
theorem ReadyN.fresh {n : Nominator} (h : ReadyN n) (s : Int) : FreshN { n with Seq := s } :=
 ⟨(q5a h.tr).1, by have := h.vlen; show n.Votes.length < _; omega, by have := h.alen; show n.Accepts.length < _; omega, by have := h.clen; show n.Candidates.length < _; omega, by have := h.hlen; show n.Heard.length < _; omega, fun m hm => qzw (h.msg m hm).1⟩
theorem qnw {n : Nominator} (h : ReadyN n) (a34 : List Member) : ∀ (suf : List Nomination) (i : Nat) (acc : List Message), n.Heard.drop i = suf -> acc = (n.Heard.take i).map msgOf ->
  z2u acc n.Heard ((n.Heard.length : Nat) : Int) (i : Int) n.Node n.Slot n.Round n.Seq n.Trust.Threshold n.Trust.Nodes n.Trust.Inner n.Own n.Votes n.Accepts n.Candidates n.Heard a34 = some (viewN n)
 | [], i, acc, g, ha => by
  have hh := h.hlen;have hi : n.Heard.take i = n.Heard := List.take_of_length_le (List.drop_eq_nil_iff.1 g);rw [hi] at ha;apply y36;rw [q0g g, cF, Trust.etaM, ha, y0h h.node h.tr _ (by simp; omega) h.msgs];rfl
 | m :: suf, i, acc, g, ha => by
  have hlt := q0d g;have hh := h.hlen;apply y36;rw [q07 g, cT, q05 g, Trust.etaM, q0z (by rw [ha]; simp [q0m]; omega), q01 (by omega)];refine qnw h a34 suf (i + 1) _ (q03 g) ?_;rw [ha, List.take_add_one];have : n.Heard[i]? = some m := by have := congrArg (·[0]?) g; simpa using this
  simp [this, msgOf]
theorem qo1 {n : Nominator} (h : ReadyN n) : z4h n = some (viewN n) := y9k _ _ (qnw h [] n.Heard 0 [] rfl rfl)
theorem q5l (l : List Nomination) (hl : l.length < 1000000) (hm : ∀ m ∈ l, nomB m = true) (x : Val) : ∀ (suf : List Nomination) (i s t : Nat), l.drop i = suf -> s < 1024 -> t < 1024 ->
  z1p x (s : Int) (t : Int) l ((l.length : Nat) : Int) (i : Int) = some (((whoN (fun m => decide (x ∈ m.Votes)) s suf : Nat) : Int), ((whoN (fun m => decide (x ∈ m.Accepts)) t suf : Nat) : Int))
 | [], i, s, t, h, _, _ => by
  apply y24;rw [q0g h]; rfl
 | m :: suf, i, s, t, h, hs, ht => by
  have hlt := q0d h;have hb := hm m (List.mem_of_mem_drop (i := i) (by rw [h]; simp));have hsm := q5c hb;have hn := (q2e.1 hb).1;have h0 := (qia hn).1;apply y24;rw [q07 h, cT, q05 h, qfo _ (by have := hsm.votes; omega), bS, qfo _ (by have := hsm.accs; omega), bS, q01 (by omega), qi5, qi5];have hs' := or_lt hs (qc2 hn);have ht' := or_lt ht (qc2 hn);rw [shlOr hs hn, shlOr ht hn];by_cases h1 : x ∈ m.Votes <;> by_cases h2 : x ∈ m.Accepts
  .simp only [h1, h2, decide_true, cT, if_true];rw [q1p h0, q1p h0]; exact q5l l hl hm x suf (i + 1) _ _ (q03 h) hs' ht'
  .simp only [h1, h2, decide_true, decide_false, cT, cF, if_true, fT, if_false];rw [q1p h0]; exact q5l l hl hm x suf (i + 1) _ _ (q03 h) hs' ht
  .simp only [h1, h2, decide_true, decide_false, cT, cF, if_true, fT, if_false];rw [q1p h0]; exact q5l l hl hm x suf (i + 1) _ _ (q03 h) hs ht'
  .simp only [h1, h2, decide_false, cF, fT, if_false];exact q5l l hl hm x suf (i + 1) _ _ (q03 h) hs ht
theorem qht {l : List Nomination} (hl : l.length < 1000000) (hm : ∀ m ∈ l, nomB m = true) (x : Val) : z3s l x = some (((q8p l x : Nat) : Int), ((accsN l x : Nat) : Int)) :=
 y9n _ _ _ (q5l l hl hm x l 0 0 0 rfl (by decide) (by decide))
def nextR : Option Val -> Val × Bool
 | some x => (x, true)
 | none => ([], false)
theorem qs2 (l : List Val) : (setV l).length <= l.length := q7i (qk0 qfm) fun _x hx => q3b.1 hx
theorem qiz : ∀ (l : List Nomination), (∀ m ∈ l, nomB m = true) -> (q3o l).length <= 80 * l.length
 | [], _ => by simp [q3o]
 | m :: l, h => by
  have ih := qiz l fun k hk => h k (by simp [hk])
  obtain ⟨_, _, _, h1, h2⟩ := q2e.1 (h m (by simp));have h1 := (q0o.1 h1).2.2;have h2 := (q0o.1 h2).2.2;have : q3o (m :: l) = (m.Votes ++ m.Accepts) ++ q3o l := by simp [q3o]
  rw [this]; simp; omega
theorem qmk {n : Nominator} (h : ReadyN n) (l : List Val) (hl : l.length < 1000000) : ∀ (suf : List Val) (i : Nat), l.drop i = suf ->
  z24 (allN n) l ((l.length : Nat) : Int) (i : Int) n.Node n.Slot n.Round n.Seq n.Trust.Threshold n.Trust.Nodes n.Trust.Inner n.Own n.Votes n.Accepts n.Candidates n.Heard (viewN n).Members = some (nextR (suf.find? (canN n)))
 | [], i, g => by
  apply y1g;rw [q0g g]; rfl
 | y :: suf, i, g => by
  have hlt := q0d g;have hlen := h.len;have halen := h.alen;have ih := qmk h l hl suf (i + 1) (q03 g);obtain ⟨n1, n2⟩ := h.node';have hacc : z3t ⟨(viewN n).Members⟩ n.Node ((q8p (allN n) y : Nat) : Int) ((accsN (allN n) y : Nat) : Int) = some (accB (viewN n) n.Node.toNat (q8p (allN n) y) (accsN (allN n) y)) := by
   have := y05 h.view (qx1 h.all y) (qt8 h.all y) n1;rw [n2] at this; exact this
  apply y1g;rw [q07 g, cT, q05 g, qht (by omega) h.all, bS, qfo _ (by omega), bS, hacc, bS, q01 (by omega), ih, List.find?_cons];have h40 : ltB ((n.Accepts.length : Nat) : Int) 40 = decide (n.Accepts.length < 40) := by
   unfold ltB;by_cases e : n.Accepts.length < 40
   .have : ((n.Accepts.length : Nat) : Int) < 40 := by omega
    simp [e, this]
   .have : ¬ ((n.Accepts.length : Nat) : Int) < 40 := by omega
    simp [e, this]
  rw [h40];simp only [canN];cases decide (y ∈ n.Accepts) <;> cases decide (n.Accepts.length < 40) <;> cases accB (viewN n) n.Node.toNat (q8p (allN n) y) (accsN (allN n) y) <;> rfl
theorem qh5 {n : Nominator} (h : ReadyN n) : z38 n (viewN n) = some (nextR (nextN n)) := by
 apply y6h;have hh := h.hlen;have hlen := h.len;rw [qif _ (by omega), bS, qsk, bS, qnj, q0z (by simp [q0m]; omega)];have : z41 (n.Heard ++ [sayN n]) = _ := qrp hlen h.all;rw [this, bS];have h1 := qs2 (q3o (allN n));have h2 := qiz _ h.all;exact qmk h (qi2 n) (by show (setV (q3o (allN n))).length < _; omega) (qi2 n) 0 rfl
theorem vals1 (m : Nomination) : q3o [m] = m.Votes ++ m.Accepts := by simp [q3o]
theorem qyy {n : Nominator} (h : ReadyN n) (L : List Int) (r : List Val) (u k : Nat) (m : Nomination) (a3 : Int) (l : List Val) (hl : l.length < 1000000) (hv : ∀ x ∈ l, vvl x = true) (hk : k < n.Heard.length) : ∀ (suf : List Val) (i : Nat) (V : List Val), l.drop i = suf -> q0p V = true ->
  z20 (q6q V suf) a3 L ((L.length : Nat) : Int) (u : Int) n.Heard ((n.Heard.length : Nat) : Int) ((k + 1 : Nat) : Int) n.Node n.Slot n.Round n.Seq n.Trust.Threshold n.Trust.Nodes n.Trust.Inner n.Own n.Votes n.Accepts n.Candidates n.Heard = some r ->
  z2m V a3 L ((L.length : Nat) : Int) (u : Int) n.Heard ((n.Heard.length : Nat) : Int) (k : Int) l ((l.length : Nat) : Int) (i : Int) n.Node n.Slot n.Round n.Seq n.Trust.Threshold n.Trust.Nodes n.Trust.Inner n.Own n.Votes n.Accepts n.Candidates n.Heard m.Node m.Seq m.Trust.Threshold m.Trust.Nodes m.Trust.Inner m.Votes m.Accepts = some r
 | [], i, V, g, hV, hr => by
  have hh := h.hlen;apply y2c;rw [q0g g, cF, q01 (by omega)]; exact hr
 | y :: suf, i, V, g, hV, hr => by
  have hlt := q0d g;apply y2c;rw [q07 g, cT, q05 g, qfp hV, bS, q01 (by omega)];exact qyy h L r u k m a3 l hl hv hk suf (i + 1) _ (q03 g) (q3l hV (hv y (List.mem_of_mem_drop (i := i) (by rw [g]; simp)))) hr
def foldH (u : Int) (V : List Val) (l : List Nomination) : List Val := l.foldl (fun V m => if m.Node = u then q6q V (setV (m.Votes ++ m.Accepts)) else V) V
theorem qr9 {n : Nominator} (h : ReadyN n) (L : List Int) (hL : L.length < 1000000) (r : List Val) (u : Nat) (hu : u < L.length) (a3 : Int) : ∀ (suf : List Nomination) (k : Nat) (V : List Val), n.Heard.drop k = suf -> q0p V = true ->
  z1s (foldH a3 V suf) L ((L.length : Nat) : Int) ((u + 1 : Nat) : Int) n.Node n.Slot n.Round n.Seq n.Trust.Threshold n.Trust.Nodes n.Trust.Inner n.Own n.Votes n.Accepts n.Candidates n.Heard = some r ->
  z20 V a3 L ((L.length : Nat) : Int) (u : Int) n.Heard ((n.Heard.length : Nat) : Int) (k : Int) n.Node n.Slot n.Round n.Seq n.Trust.Threshold n.Trust.Nodes n.Trust.Inner n.Own n.Votes n.Accepts n.Candidates n.Heard = some r
 | [], k, V, g, hV, hr => by
  apply y1d;rw [q0g g, cF, q01 (by omega)]; exact hr
 | m :: suf, k, V, g, hV, hr => by
  have hlt := q0d g;have hh := h.hlen;have hm := (h.msg m (List.mem_of_mem_drop (i := k) (by rw [g]; simp))).1;apply y1d;rw [q07 g, cT, q05 g, qnj];by_cases e : m.Node = a3
  .rw [e, q0x, cF, qrp (l := [m]) (by simp) (by simpa using hm), bS, vals1];have hs : ∀ x ∈ setV (m.Votes ++ m.Accepts), vvl x = true := fun x hx => qfq hm x (q3b.1 hx)
   have hl2 := qs2 (m.Votes ++ m.Accepts);have hsm := q5c hm;have h1 := hsm.votes;have h2 := hsm.accs;obtain ⟨_, _, _, q1, q2⟩ := q2e.1 hm;have q1 := (q0o.1 q1).2.2;have q2 := (q0o.1 q2).2.2;have h3 : (setV (m.Votes ++ m.Accepts)).length < 1000000 := by simp at hl2; omega
   have := qyy h L r u k m a3 _ h3 hs hlt _ 0 V rfl hV (qr9 h L hL r u hu a3 suf (k + 1) _ (q03 g) (q65 hV hs) (by
    have e2 : foldH a3 V (m :: suf) = foldH a3 (q6q V (setV (m.Votes ++ m.Accepts))) suf := by show foldH a3 (if m.Node = a3 then _ else _) suf = _; rw [if_pos e]
    rw [e2] at hr; exact hr))
   rw [e] at this;exact this
  .rw [q2o e, cT, q01 (by omega)];refine qr9 h L hL r u hu a3 suf (k + 1) _ (q03 g) hV ?_;have e2 : foldH a3 V (m :: suf) = foldH a3 V suf := by show foldH a3 (if m.Node = a3 then _ else _) suf = _; rw [if_neg e]
   rw [e2] at hr; exact hr
theorem qxo {n : Nominator} (h : ReadyN n) (L : List Int) (hL : L.length < 1000000) : ∀ (suf : List Int) (u : Nat) (V : List Val), L.drop u = suf -> q0p V = true ->
  z1s V L ((L.length : Nat) : Int) (u : Int) n.Node n.Slot n.Round n.Seq n.Trust.Threshold n.Trust.Nodes n.Trust.Inner n.Own n.Votes n.Accepts n.Candidates n.Heard = some (suf.foldl (leadV n) V)
 | [], u, V, g, hV => by
  apply y1q;rw [q0g g]; rfl
 | y :: suf, u, V, g, hV => by
  have hlt := q0d g;have hV' := qb7 h (u := y) hV;have ih := qxo h L hL suf (u + 1) (leadV n V y) (q03 g) hV';apply y1q;rw [q07 g, cT, q05 g, List.foldl_cons];by_cases e : y = n.Node
  .rw [e, q3r, cT];rw [e] at ih;unfold leadV at ih ⊢;simp only [if_true] at ih ⊢;by_cases ho : n.Own = []
   .rw [if_pos ho] at ih ⊢;rw [show eqS n.Own [] = true by simp [eqS, ho], nT, cF, q01 (by omega)]; exact ih
   .rw [if_neg ho] at ih ⊢;rw [show eqS n.Own [] = false by simp [eqS, ho], Bool.not_false, cT, qfp hV, bS, q01 (by omega)]; exact ih
  .rw [q4q e, cF];refine qr9 h L hL _ u hlt y n.Heard 0 V rfl hV ?_;have e2 : foldH y V n.Heard = leadV n V y := by unfold leadV foldH; rw [if_neg e]
   rw [e2]; exact ih
theorem ReadyN.ask {n : Nominator} (h : ReadyN n) : AskOk n.Trust n.Node n.Slot n.Round := ⟨h.tr, h.node, h.slot, h.round⟩
noncomputable def leadN (n : Nominator) : List Int := leadL n.Trust n.Node n.Slot n.Round
theorem qwl {n : Nominator} (_h : ReadyN n) : (leadN n).length < 1000000 := by
 have := qmq (leadS n.Trust n.Node n.Slot n.Round);simp [leadN, leadL]; omega
theorem qvn {n : Nominator} (h : ReadyN n) : z4v n = some (qgl (leadN n) n) := by
 apply y6z;rw [y0m h.ask, bS, qnv (y00 h.tr n.Slot n.Round h.node), bS];exact qxo h (leadN n) (qwl h) (leadN n) 0 n.Votes rfl h.votes
theorem qki {n : Nominator} (h : ReadyN n) (l : List Val) (hl : l.length <= 40) (hv : ∀ x ∈ l, vvl x = true) (d1 d2 d3 d4 d5 : Int) (d6 : List Int) (d7 : List Trust) (d8 : Val) (d9 d10 d11 : List Val) (d12 : List Nomination) : ∀ (suf : List Val) (i : Nat) (C : List Val), l.drop i = suf -> q0p C = true ->
  z21 (allN n) l ((l.length : Nat) : Int) (i : Int) n.Node n.Slot n.Round n.Seq n.Trust.Threshold n.Trust.Nodes n.Trust.Inner n.Own n.Votes n.Accepts C n.Heard d1 d2 d3 d4 d5 d6 d7 d8 d9 d10 d11 d12 (viewN n).Members = some { n with Candidates := candN n C suf }
 | [], i, C, g, hC => by
  apply y2k;rw [q0g g, cF, Trust.etaM]; rfl
 | y :: suf, i, C, g, hC => by
  have hlt := q0d g;have hlen := h.len;have hy := hv y (List.mem_of_mem_drop (i := i) (by rw [g]; simp));obtain ⟨n1, n2⟩ := h.node';have hacc : z3j ⟨(viewN n).Members⟩ n.Node ((accsN (allN n) y : Nat) : Int) = some (confB (viewN n) n.Node.toNat (accsN (allN n) y)) := by
   have := y0j h.view (qt8 h.all y) n1;rw [n2] at this; exact this
  apply y2k;rw [q07 g, cT, q05 g, qht (by omega) h.all, bS, hacc, bS, qfp hC, bS, q01 (by omega)];show _ = some { n with Candidates := candN n (if confB (viewN n) n.Node.toNat (accsN (allN n) y) then putV C y else C) suf };cases hc : confB (viewN n) n.Node.toNat (accsN (allN n) y) with
  | true =>
   rw [cT, if_pos rfl];exact qki h l hl hv d1 d2 d3 d4 d5 d6 d7 d8 d9 d10 d11 d12 suf (i + 1) _ (q03 g) (q3l hC hy)
  | false =>
   rw [cF, if_neg (by simp)];exact qki h l hl hv d1 d2 d3 d4 d5 d6 d7 d8 d9 d10 d11 d12 suf (i + 1) _ (q03 g) hC
theorem qsp (d1 d2 d3 d4 d5 : Int) (d6 : List Int) (d7 : List Trust) (d8 : Val) (d9 d10 d11 : List Val) (d12 : List Nomination) : ∀ (k : Nat) (n : Nominator), ReadyN n -> 40 - n.Accepts.length < k ->
  z28 (nextR (nextN n)).1 (nextR (nextN n)).2 n.Node n.Slot n.Round n.Seq n.Trust.Threshold n.Trust.Nodes n.Trust.Inner n.Own n.Votes n.Accepts n.Candidates n.Heard d1 d2 d3 d4 d5 d6 d7 d8 d9 d10 d11 d12 (viewN n).Members = some (qhr (q3f k n))
 | 0, n, h, hk => by omega
 | k + 1, n, h, hk => by
  rw [q3f];apply y99;cases hx : nextN n with
  | none =>
   have hh := h.hlen;simp only [nextR, cF];rw [qif _ (by omega), bS, q4p, qsk, bS, qnj, q0z (by simp [q0m]; omega)];exact qki h n.Accepts h.alen h.avv d1 d2 d3 d4 d5 d6 d7 d8 d9 d10 d11 d12 n.Accepts 0 n.Candidates rfl h.cands
  | some x =>
   obtain ⟨h1, h2, h3, _⟩ := qdd hx;have hv := qmm h h1;have hr := h.withA hv;have hl := qrn h3 h2;simp only [nextR, cT];rw [qfp h.accs, bS];have hw : Nominator.mk n.Node n.Slot n.Round n.Seq (Trust.mk n.Trust.Threshold n.Trust.Nodes n.Trust.Inner) n.Own n.Votes (putV n.Accepts x) n.Candidates n.Heard = qee n x := by rw [Trust.etaM]; rfl
   rw [hw];have hn' : z38 (qee n x) ⟨(viewN n).Members⟩ = _ := qh5 hr;rw [hn', bS];exact qsp d1 d2 d3 d4 d5 d6 d7 d8 d9 d10 d11 d12 k (qee n x) hr (by show 40 - (putV n.Accepts x).length < k; omega)
theorem qrr {n : Nominator} (h : ReadyN n) : z2q n = some (q0y (leadN n) n) := by
 apply y7q;have hl := h.listen (leadN n);have go := fun d1 d2 d3 d4 d5 d6 d7 d8 d9 d10 d11 d12 => qsp d1 d2 d3 d4 d5 d6 d7 d8 d9 d10 d11 d12 60 _ hl (by omega)
 unfold q0y;by_cases e : n.Candidates = []
 .have e0 : eqB ((n.Candidates.length : Nat) : Int) 0 = true := by simp [eqB, e]
  rw [e0, cT, qvn h, bS];have hw : q19 (leadN n) n = { n with Votes := qgl (leadN n) n } := by rw [q19, if_pos e]
  have hm : Nominator.mk n.Node n.Slot n.Round n.Seq (Trust.mk n.Trust.Threshold n.Trust.Nodes n.Trust.Inner) n.Own (qgl (leadN n) n) n.Accepts n.Candidates n.Heard = { n with Votes := qgl (leadN n) n } := by rw [Trust.etaM]
  rw [hw] at go hl ⊢;rw [hm, qo1 hl, bS, qh5 hl, bS];exact go 0 0 0 0 0 [] [] [] [] [] [] []
 .have e0 : eqB ((n.Candidates.length : Nat) : Int) 0 = false := by
   have : n.Candidates.length ≠ 0 := fun e' => e (List.length_eq_zero_iff.1 e')
   unfold eqB; rw [decide_eq_false]; omega
  have hw : q19 (leadN n) n = n := by rw [q19, if_neg e]
  rw [hw] at go;rw [e0, cF, qo1 h, bS, qh5 h, bS, hw];exact go 0 0 0 0 0 [] [] [] [] [] [] []
theorem qn0 (l k : List Val) (hl : l.length < 1152921504606846976) (hk : l.length = k.length) : ∀ (suf suk : List Val) (i : Nat), l.drop i = suf -> k.drop i = suk -> z1h l k ((l.length : Nat) : Int) (i : Int) = some (decide (suf = suk))
 | [], suk, i, h, h' => by
  have : suk = [] := by rw [<- h', List.drop_eq_nil_iff, <- hk]; exact List.drop_eq_nil_iff.1 h
  subst this;apply y1z;rw [q0g h]; simp
 | y :: suf, [], i, h, h' => by
  have := q0d h;have := List.drop_eq_nil_iff.1 h';omega
 | y :: suf, z :: suk, i, h, h' => by
  have hlt := q0d h;apply y1z;rw [q07 h, cT, q05 h, q05 h', q01 (by omega), qn0 l k hl hk suf suk (i + 1) (q03 h) (q03 h')];by_cases hx : y = z
  .subst hx; simp [eqS]
  .simp [eqS, hx]
theorem qo0 (l k : List Val) (hl : l.length < 1152921504606846976) : z1u l k = some (decide (l = k)) := by
 apply y5d;by_cases hk : l.length = k.length
 .rw [hk, q0x, cF, <- hk];exact qn0 l k hl hk l k 0 rfl rfl
 .rw [q2o (by omega), cT];have : l ≠ k := fun e => hk (by rw [e])
  simp [this]
theorem qgz {b n : Nominator} (hb : ReadyN b) (h : ReadyN n) : z22 b n = some (turnN b (q0y (leadN n) n)) := by
 have hs := h.settle (leadN n);generalize hw : q0y (leadN n) n = w at hs;have h1 := hb.vlen;have h2 := hb.alen;have hq := hs.seq;have f0 : z1j w = some w := qbx (hs.fresh w.Seq);have f1 : z1j { w with Seq := w.Seq + 1 } = some { w with Seq := w.Seq + 1 } := qbx (hs.fresh _);have e0 : Nominator.mk w.Node w.Slot w.Round (addI .i64 w.Seq 1) (Trust.mk w.Trust.Threshold w.Trust.Nodes w.Trust.Inner) w.Own w.Votes w.Accepts w.Candidates w.Heard = { w with Seq := w.Seq + 1 } := by rw [Trust.etaM, q2d (by omega) (by omega)]
 apply y51;rw [qrr h, hw, bS, qsh _ (q22 hb.tr), bS, qo0 _ _ (by omega), bS, qo0 _ _ (by omega), bS, e0, f1, bS, f0, bS, q4p, q4p, turnN];by_cases e1 : b.Trust = w.Trust <;> by_cases e2 : b.Votes = w.Votes <;> by_cases e3 : b.Accepts = w.Accepts <;> simp [e1, e2, e3]
def newN (k slot : Int) (t : Trust) (own : Val) : Nominator := ⟨k, slot, 1, 1, t, own, [], [], [], []⟩
noncomputable def qmr (k slot : Int) (t : Trust) (own : Val) : Nominator × Int :=
 if inR k = false then (qak, 5) else if slot < 0 \/ 1000000 < slot then (qak, 1) else if verr t ≠ 0 then (qak, verr t) else if 200 < own.length then (qak, 3)
 else (q0y (leadN (newN k slot t own)) (newN k slot t own), 0)
theorem qjl {k slot : Int} {t : Trust} {own : Val} (hk : inR k = true) (hs : 0 <= slot /\ slot <= 1000000) (ht : valid t = true) (ho : own.length <= 200) : ReadyN (newN k slot t own) :=
 ⟨hk, hs, by simp [newN], by simp [newN], ht, ho, rfl, rfl, rfl, fun x hx => by simp [newN] at hx, rfl⟩
theorem qji (k slot : Int) {t : Trust} (ht : Small t) (own : Val) (hown : own.length < 1000000) : z2p k slot t own = some (qmr k slot t own) := by
 apply y85;rw [qls, bS, q7g _ ht, bS, qmr];cases hk : inR k with
 | false => rfl
 | true =>
  simp only [nT, cF, Bool.true_eq_false, if_false];by_cases h1 : slot < 0
  .rw [q04 h1, cT, if_pos (.inl h1)]; rfl
  .by_cases h2 : 1000000 < slot
   .rw [q00 (by omega), cF, q04 h2, cT, if_pos (.inr h2)]; rfl
   .rw [q00 (by omega), cF, q00 (by omega), cF, if_neg (by omega)];by_cases h3 : verr t = 0
    .have hv := (q47 t).1 h3;rw [h3, q0x, cF, if_neg (by simp)];by_cases h4 : 200 < own.length
     .rw [q04 (by omega), cT, if_pos h4]; rfl
     .rw [q00 (by omega), cF, if_neg h4, Trust.etaM];have hr := qjl hk (slot := slot) (by omega) hv (show own.length <= 200 by omega);have hs := qrr hr;have hw := hr.settle (leadN (newN k slot t own));have hf := qbx (hw.fresh (q0y (leadN (newN k slot t own)) (newN k slot t own)).Seq);have hs' : z2q ⟨k, slot, 1, 1, t, own, [], [], [], []⟩ = _ := hs;have hf' : z1j (q0y (leadN (newN k slot t own)) (newN k slot t own)) = _ := hf;rw [hs', bS, hf', bS];rw [Trust.etaM]
    .rw [q2o h3, cT, if_pos h3]; rfl
theorem qi7 (l : List Val) (hl : l.length < 1152921504606846976) : ∀ (suf : List Val) (i : Nat) (o : Val), l.drop i = suf -> z1m o l ((l.length : Nat) : Int) (i : Int) = some (compV o suf, !decide (compV o suf = []))
 | [], i, o, h => by
  apply y31;rw [q0g h]; rfl
 | y :: suf, i, o, h => by
  have hlt := q0d h;have hd : compV o (y :: suf) = compV (if vvl y = true /\ ltv o y then y else o) suf := rfl;apply y31;rw [q07 h, cT, q05 h, qg9, bS, qbp, bS, y3i, q01 (by omega), qi7 l hl suf (i + 1) y (q03 h), qi7 l hl suf (i + 1) o (q03 h), hd];cases hv : vvl y <;> by_cases hc : ltv o y <;> simp [hc]
theorem qyu (l : List Val) (hl : l.length < 1152921504606846976) : z30 l = some (compV [] l, !decide (compV [] l = [])) := y7h _ _ (qi7 l hl l 0 [] rfl)
theorem qlf (b a : List Val) (i : Nat) (x : Val) (hb : b.length < 1152921504606846976) (hi : i < 1152921504606846976) (r : Bool) (hr : z3w b a ((a.length : Nat) : Int) ((i + 1 : Nat) : Int) = some r) : ∀ (suf : List Val) (k : Nat) (c : Bool), b.drop k = suf ->
  z3z b x c a ((a.length : Nat) : Int) (i : Int) b ((b.length : Nat) : Int) (k : Int) = some ((c || decide (x ∈ suf)) && r)
 | [], k, c, h => by
  apply y2o;rw [q0g h, cF, q01 (by omega), hr];cases c <;> simp
 | y :: suf, k, c, h => by
  have hlt := q0d h;apply y2o;rw [q07 h, cT, q05 h, q01 (by omega), qlf b a i x hb hi r hr suf (k + 1) _ (q03 h), qlf b a i x hb hi r hr suf (k + 1) _ (q03 h)];unfold eqS;cases c
  .by_cases e : x = y <;> simp [e]
  .simp
theorem qss (b a : List Val) (hb : b.length < 1152921504606846976) (ha : a.length < 1152921504606846976) : ∀ (suf : List Val) (i : Nat), a.drop i = suf -> z3w b a ((a.length : Nat) : Int) (i : Int) = some (suf.all fun x => decide (x ∈ b))
 | [], i, h => by
  apply y2a;rw [q0g h]; rfl
 | y :: suf, i, h => by
  have hlt := q0d h;apply y2a;rw [q07 h, cT, q05 h, show (0 : Int) = ((0 : Nat) : Int) from rfl, qlf b a i y hb (by omega) _ (qss b a hb ha suf (i + 1) (q03 h)) b 0 false rfl];simp
theorem qzz (a b : List Val) (ha : a.length < 1152921504606846976) (hb : b.length < 1152921504606846976) : law22_kept a b = some (a.all fun x => decide (x ∈ b)) := law22_kept_le _ _ _ (qss b a hb ha a 0 rfl)
def alone3 : Trust := ⟨1, [3], []⟩
theorem qup {slot round : Int} : leadR alone3 3 slot round = 3 := by
 have h := (qde (t := alone3) (v := 3) (by decide +kernel) slot round (by decide)).2;have hn := h.ngh;unfold nghB at hn;by_cases e : leadR alone3 3 slot round = 3
 .exact e
 .rw [decide_eq_false e, Bool.false_or] at hn;have : wgt (leadR alone3 3 slot round) alone3 = none := by
   rw [qvr];have : ([3] : List Int).contains (leadR alone3 3 slot round) = false := by simp [e]
   rw [show alone3.Nodes = [3] from rfl, this, show alone3.Inner = [] from rfl, wgts]; rfl
  rw [this] at hn; cases hn
def ownMe : Val := [109, 101]
theorem qqb : ∃ n, qmr 3 0 alone3 ownMe = (n, 0) /\ n.Candidates = [ownMe] := by
 have h1 : leadN (newN 3 0 alone3 ownMe) = [3] := by
  show (nodes (0 ||| bit (leadR alone3 3 0 1))).map Int.ofNat = _;rw [qup]; decide +kernel
 refine ⟨q0y (leadN (newN 3 0 alone3 ownMe)) (newN 3 0 alone3 ownMe), ?_, ?_⟩
 .have hv : verr alone3 = 0 := (q47 _).2 (by decide +kernel);rw [qmr, if_neg (by decide), if_neg (by decide), if_neg (by rw [hv]; simp), if_neg (by decide)]
 .rw [h1]; decide +kernel
theorem y3p : law22_awake = some true := by
 apply law22_awake_le;obtain ⟨n, h1, h2⟩ := qqb;have hs : z2p 3 0 ⟨1, [3], []⟩ [109, 101] = some (n, 0) := by
  rw [qji 3 0 (q22 (t := ⟨1, [3], []⟩) (by decide +kernel)) [109, 101] (by decide), <- h1]; rfl
 have hc : z30 [[98], [97, 97], [97, 98]] = some ([97, 98], true) := by
  rw [qyu _ (by decide)];rw [show compV [] [[98], [97, 97], [97, 98]] = [97, 98] by decide +kernel]; rfl
 rw [hc, hs];simp only [bS, cT, h2];rw [show eqS [97, 98] [97, 98] = true from by decide];rfl
noncomputable def turned (n u : Nominator) : Nominator := turnN n (q0y (leadN u) u)
noncomputable def hearN (n : Nominator) (m : Nomination) : Nominator × Int :=
 if q5j n = false \/ nomB m = false \/ m.Node = n.Node then (qak, 1) else if oldN n.Heard m = true then (qak, 9) else (turned n { n with Heard := q5n m n.Heard }, 0)
noncomputable def tickN (n : Nominator) : Nominator × Int :=
 if q5j n = false then (qak, 1) else if n.Round = 1000 then (qak, 3) else (turned n { n with Round := n.Round + 1 }, 0)
noncomputable def declN (n : Nominator) (t : Trust) : Nominator × Int :=
 if q5j n = false then (qak, 1) else if verr t ≠ 0 then (qak, verr t) else if n.Trust = t then (n, 0) else (turned n { n with Trust := t }, 0)
theorem qnh (x : Nomination) (k : Int) : z3v x k = some (if x.Node < k then -1 else if k < x.Node then 1 else 0) := y8y _ _ _ (by rw [qcr]; rfl)
theorem qpj {l : List Nomination} (hl : l.length <= 10) (hp : l.Pairwise (fun a b => a.Node < b.Node)) (k : Int) : ∀ (n i j : Nat), j - i <= n -> i <= posN k l -> posN k l <= j -> j <= l.length ->
  z0f l k ((l.length : Nat) : Int) (i : Int) (j : Int) = some (((posN k l : Nat) : Int), q74 k l)
 | n, i, j, hn, hi, hj, hjl => by
  apply y5y;by_cases hij : i < j
  .obtain ⟨n, rfl⟩ : ∃ m, n = m + 1 := ⟨n - 1, by omega⟩;have hmid := qvx ⟨i, by omega⟩ ⟨j, by omega⟩
   dsimp only at hmid
   have hml : (i + j) / 2 < l.length := by omega
   have hg : l[(i + j) / 2]? = some l[(i + j) / 2] := by simp [hml]
   have hpl := qdx (k := k) hp _ _ hg;rw [q04 (by omega), cT, hmid, q0r (by omega) (by rw [tN]; exact hg), qnh, bS];by_cases h1 : l[(i + j) / 2].Node < k
   .rw [if_pos h1, q04 (by decide), cT, q01 (by omega)];exact qpj hl hp k n ((i + j) / 2 + 1) j (by omega) (by have := hpl.1 h1; omega) hj hjl
   .rw [if_neg h1, q00 (by split <;> decide), cF];exact qpj hl hp k n i ((i + j) / 2) (by omega) hi (by have : ¬ (i + j) / 2 < posN k l := fun h => h1 (hpl.2 h); omega) (by omega)
  .have hij' : i = posN k l := by omega
   subst hij';rw [q00 (by omega), cF];unfold q74;by_cases he : posN k l < l.length
   .have hg : l[posN k l]? = some l[posN k l] := List.getElem?_eq_getElem he;have hpl := qdx (k := k) hp _ _ hg;have h1 : ¬ l[posN k l].Node < k := by rw [hpl]; omega
    rw [q04 (by omega), cT, q0r (by omega) (by rw [tN]; exact hg), qnh, bS, hg, if_neg h1];by_cases h2 : k < l[posN k l].Node
    .have : ¬ l[posN k l].Node = k := by omega
     simp [h2, this, eqB]
    .have : l[posN k l].Node = k := by omega
     simp [this, eqB]
   .rw [q00 (by omega), cF, List.getElem?_eq_none (by omega)]
theorem y3j {l : List Nomination} (hl : l.length <= 10) (hp : l.Pairwise (fun a b => a.Node < b.Node)) (k : Int) : z14 l k = some (((posN k l : Nat) : Int), q74 k l) := by
 apply y70;exact qpj hl hp k l.length 0 l.length (by omega) (by omega) (qp2 k l) (Nat.le_refl _)
theorem qye (l : List Nomination) : (l.map q0s).all (q5w 7) = true := by
 rw [List.all_eq_true]; intro x hx; obtain ⟨y, _, rfl⟩ := List.mem_map.1 hx; rfl
theorem qps (l : List Nomination) (hl : l.length < 1000000) (m : Nomination) (i : Nat) (hi : i <= l.length) : z3p (i : Int) [m] l = some (l.take i ++ m :: l.drop i, ()) := by
 refine qid (T := tn) (m := q2n 7) sigOk (by kernel_rfl) rfl ?_;show libA (q2n 7) [.ref 0, .d (.v (.int .i64 i)), .d (.list [q0s m])] [[.own (l.map q0s) false]] = some (.d (.list ((l.take i ++ m :: l.drop i).map q0s)), [[.undef]]);unfold libA q2n;have h1 : (i : Int) <= ((l.map q0s).length : Int) := by simp; omega
 have h2 : (l.map q0s).length < q0m := by simp [q0m]; omega
 have h3 : q5w 7 (q0s m) = true := rfl;simp only [Int.natCast_nonneg, h1, h2, h3, qye, and_self, if_true, tN];simp only [List.map_append, List.map_cons, List.map_take, List.map_drop];rfl
theorem qwx {n : Nominator} (hs : SmallR n) {m : Nomination} (hm : SmallN m) : z51 n m = some (hearN n m) := by
 apply y89;rw [qa2 hs, bS, qqj hm, bS, hearN];cases hv : q5j n with
 | false => rfl
 | true =>
  cases hx : nomB m with
  | false => rfl
  | true =>
   have h := qa3.1 hv;simp only [nT, cF, Bool.true_eq_false, false_or];by_cases hn : m.Node = n.Node
   .rw [if_pos hn, hn, q3r]; rfl
   .rw [if_neg hn, q4q hn, cF];have hp := h.asc;have hh := h.hlen;rw [y3j hh hp, bS, qif _ (by omega)];have hpl := qp2 m.Node n.Heard;have hw : ∀ H, Nominator.mk n.Node n.Slot n.Round n.Seq (Trust.mk n.Trust.Threshold n.Trust.Nodes n.Trust.Inner) n.Own n.Votes n.Accepts n.Candidates H = { n with Heard := H } := fun H => by rw [Trust.etaM]
    have ht := qgz h (h.withH hx hn);rw [qh1] at ht ⊢;simp only [bS, qnj];cases hf : q74 m.Node n.Heard with
    | true =>
     rw [hf, if_pos rfl] at ht;unfold q74 at hf;cases hg : n.Heard[posN m.Node n.Heard]? with
     | none => rw [hg] at hf; cases hf
     | some y =>
      rw [hg] at hf;have hy : y.Node = m.Node := by simpa using hf
      have hold : oldN n.Heard m = (decide (y.Node = m.Node) && decide (m.Seq <= y.Seq)) := by rw [qjg hp, hg]
      simp only [cT, if_true];rw [hold, q0r (by omega) (by rw [tN]; exact hg), q0r (by omega) (by rw [tN]; exact hg), q62 (by rw [tN]; exact hg), tN, hw, ht, bS, q4p];by_cases hq : m.Seq <= y.Seq <;> simp [leB, hy, hq] <;> rfl
    | false =>
     rw [hf, if_neg (by simp)] at ht;unfold q74 at hf;have hold : oldN n.Heard m = false := by
      rw [qjg hp];cases hg : n.Heard[posN m.Node n.Heard]? with
      | none => rfl
      | some y => rw [hg] at hf; simp only at hf; simp [hf]
     simp only [cF, hold, fT, if_false];rw [qps _ (by omega) m _ hpl, bS, hw, ht, bS, q4p];rfl
theorem qwb {n : Nominator} (hs : SmallR n) : z50 n = some (tickN n) := by
 apply y5o;rw [qa2 hs, bS, tickN];cases hv : q5j n with
 | false => rfl
 | true =>
  have h := qa3.1 hv;simp only [nT, cF, Bool.true_eq_false, if_false];by_cases e : n.Round = 1000
  .rw [e, q3r, cT, if_pos rfl]; rfl
  .have hr := h.round;rw [q4q e, cF, if_neg e, q2d (by omega) (by omega)];have hw : Nominator.mk n.Node n.Slot (n.Round + 1) n.Seq (Trust.mk n.Trust.Threshold n.Trust.Nodes n.Trust.Inner) n.Own n.Votes n.Accepts n.Candidates n.Heard = { n with Round := n.Round + 1 } := by rw [Trust.etaM]
   rw [hw, qgz h (h.withR (by omega) (by omega)), bS, q4p]; rfl
theorem qyc {n : Nominator} (hs : SmallR n) {t : Trust} (ht : Small t) : z4b n t = some (declN n t) := by
 apply y92;rw [qa2 hs, bS, q7g _ ht, bS, declN];cases hv : q5j n with
 | false => rfl
 | true =>
  have h := qa3.1 hv;simp only [nT, cF, Bool.true_eq_false, if_false];by_cases h3 : verr t = 0
  .have htv := (q47 t).1 h3;rw [h3, q0x, cF, if_neg (by simp), qsh _ hs.tr, bS];by_cases e : n.Trust = t
   .rw [decide_eq_true e, cT, if_pos e];have hf : z1j n = some n := qbx (h.fresh n.Seq);rw [hf, bS, q4p]
   .rw [decide_eq_false e, cF, if_neg e];have hw : Nominator.mk n.Node n.Slot n.Round n.Seq (Trust.mk t.Threshold t.Nodes t.Inner) n.Own n.Votes n.Accepts n.Candidates n.Heard = { n with Trust := t } := by rw [Trust.etaM]
    rw [hw, qgz h (h.withT htv), bS, q4p]; rfl
  .rw [q2o h3, cT, if_pos h3]; rfl
noncomputable def nomEq (a b : Nomination) : Bool := decide (a.Node = b.Node) && (decide (a.Seq = b.Seq) && (decide (a.Trust = b.Trust) && (decide (a.Votes = b.Votes) && decide (a.Accepts = b.Accepts))))
theorem qp0 {a b : Nomination} : nomEq a b = true ↔ a = b := by
 cases a; cases b; simp [nomEq]
noncomputable def q8e : List Nomination -> List Nomination -> Bool
 | [], [] => true
 | a :: l, b :: k => nomEq a b && q8e l k
 | _, _ => false
theorem q9y : ∀ {l k : List Nomination}, q8e l k = true ↔ l = k
 | [], [] => by simp [q8e]
 | [], _ :: _ => by simp [q8e]
 | _ :: _, [] => by simp [q8e]
 | a :: l, b :: k => by rw [q8e, aT, qp0, q9y]; simp
noncomputable def sameN (a b : Nominator) : Bool := nomEq (sayN a) (sayN b) && (decide (a.Slot = b.Slot) && (decide (a.Round = b.Round) && (decide (a.Own = b.Own) && (decide (a.Candidates = b.Candidates) && q8e a.Heard b.Heard))))
theorem qms {a b : Nominator} : sameN a b = true ↔ a = b := by
 simp only [sameN, aT, dT', qp0, q9y];constructor
 .rintro ⟨h1, h2, h3, h4, h5, h6⟩;cases a; cases b;simp only [sayN, Nomination.mk.injEq] at *;obtain ⟨rfl, rfl, rfl, rfl, rfl⟩ := h1;subst h2; subst h3; subst h4; subst h5; subst h6; rfl
 .rintro rfl; exact ⟨rfl, rfl, rfl, rfl, rfl, rfl⟩
theorem qtv {n : Nominator} {m : Nomination} {w : Nominator} (h : hearN n m = (w, 0)) : ∃ u, w = turned n u /\ q5j n = true /\ nomB m = true /\ m.Node ≠ n.Node /\ u = { n with Heard := q5n m n.Heard } := by
 unfold hearN at h;split at h
 .have := congrArg (·.2) h; simp at this
 .rename_i hc;split at h
  .have := congrArg (·.2) h; simp at this
  .cases h;simp only [not_or, Bool.not_eq_false] at hc;exact ⟨_, rfl, hc.1, hc.2.1, hc.2.2, rfl⟩
theorem qv5 {n w : Nominator} (h : tickN n = (w, 0)) : w = turned n { n with Round := n.Round + 1 } /\ q5j n = true /\ n.Round ≠ 1000 := by
 unfold tickN at h;split at h
 .have := congrArg (·.2) h; simp at this
 .rename_i hc;split at h
  .have := congrArg (·.2) h; simp at this
  .rename_i hr;cases h;exact ⟨rfl, by simpa using hc, hr⟩
theorem quc {n w : Nominator} {t : Trust} (h : declN n t = (w, 0)) : q5j n = true /\ valid t = true /\ (n.Trust = t /\ w = n \/ w = turned n { n with Trust := t }) := by
 unfold declN at h;split at h
 .have := congrArg (·.2) h; simp at this
 .rename_i hc;split at h
  .rename_i hv; have := congrArg (·.2) h; exact absurd this hv
  .rename_i hv;have hv := (q47 t).1 (by simpa using hv);split at h
   .rename_i e; cases h; exact ⟨by simpa using hc, hv, .inl ⟨e, rfl⟩⟩
   .cases h; exact ⟨by simpa using hc, hv, .inr rfl⟩
def someV : List Val := [[97], [98], [99], [97, 97], [97, 98], [122, 122], [97, 98, 99]]
theorem qbf : q0p someV = true := by decide +kernel
theorem qoh {k : List Val} (h : k.Sublist someV) : q0p k = true := by
 obtain ⟨h1, h2, h3⟩ := q0o.1 qbf;have := h.length_le;exact q0o.2 ⟨fun x hx => h1 x (h.subset hx), h2.sublist h, by omega⟩
theorem qvz {l : List Int} {i : Int} (h : q15 l i) : ∃ x j, z5v l i = some (x, l, j) /\ x ∈ someV /\ q15 l j := by
 obtain ⟨x0, i0, g0, g1, g2, g3⟩ := N_ok (n := 8) (by omega) (by omega) h;have key : ∀ x : Val, ([[97], [98], [97, 97], [97, 98], [99], [122, 122], [97, 98, 99], [98]] : List Val)[x0.toNat]? = some x -> x ∈ someV -> ∃ x j, z5v l i = some (x, l, j) /\ x ∈ someV /\ q15 l j := fun x hx hs => by
  refine ⟨x, i0, y7j _ _ _ ?_, hs, g3⟩;rw [g0, bS];exact q0r g1 hx _
 have : x0 = 0 \/ x0 = 1 \/ x0 = 2 \/ x0 = 3 \/ x0 = 4 \/ x0 = 5 \/ x0 = 6 \/ x0 = 7 := by omega
 rcases this with e | e | e | e | e | e | e | e <;> subst e
 .exact key [97] rfl (by decide)
 .exact key [98] rfl (by decide)
 .exact key [97, 97] rfl (by decide)
 .exact key [97, 98] rfl (by decide)
 .exact key [99] rfl (by decide)
 .exact key [122, 122] rfl (by decide)
 .exact key [97, 98, 99] rfl (by decide)
 .exact key [98] rfl (by decide)
theorem q9s {l : List Int} (n : Int) : ∀ (suf : List Val) (a : Nat) (acc : List Val) (i : Int), someV.drop a = suf -> acc.Sublist (someV.take a) -> q15 l i ->
  ∃ k j, z2y n acc someV ((someV.length : Nat) : Int) (a : Int) l i = some (k, l, j) /\ k.Sublist someV /\ q15 l j
 | [], a, acc, i, g, ha, h => by
  refine ⟨acc, i, qt0 _ _ _ _ _ _ _ _ (by rw [q0g g]; rfl), ?_, h⟩;rw [List.take_of_length_le (List.drop_eq_nil_iff.1 g)] at ha; exact ha
 | y :: suf, a, acc, i, g, ha, h => by
  have hlt := q0d g;have h7 : someV.length = 7 := rfl;have hy : someV[a]? = some y := by have := congrArg (·[0]?) g; simpa using this
  have hts : someV.take (a + 1) = someV.take a ++ [y] := by rw [List.take_add_one, hy]; rfl
  have stay : acc.Sublist (someV.take (a + 1)) := by rw [hts]; exact ha.trans (List.sublist_append_left _ _)
  have more : (acc ++ [y]).Sublist (someV.take (a + 1)) := by rw [hts]; exact ha.append (List.Sublist.refl _)
  have hal := ha.length_le;by_cases hn : ((acc.length : Nat) : Int) < n
  .obtain ⟨x0, i0, g0, g1, g2, g3⟩ := N_ok (n := 3) (by omega) (by omega) h;by_cases e : x0 = 0
   .obtain ⟨k, j, r1, r2, r3⟩ := q9s n suf (a + 1) (acc ++ [y]) i0 (q03 g) more g3;refine ⟨k, j, qt0 _ _ _ _ _ _ _ _ ?_, r2, r3⟩;rw [q07 g, cT, q05 g, q04 hn, cT, g0, bS]
    dsimp only
    rw [e, q3r, cT, q0z (by simp [q0m]; simp at hal; omega), q01 (by omega)]; exact r1
   .obtain ⟨k, j, r1, r2, r3⟩ := q9s n suf (a + 1) acc i0 (q03 g) stay g3;refine ⟨k, j, qt0 _ _ _ _ _ _ _ _ ?_, r2, r3⟩;rw [q07 g, cT, q05 g, q04 hn, cT, g0, bS]
    dsimp only
    rw [q4q e, cF, q01 (by omega)]; exact r1
  .obtain ⟨k, j, r1, r2, r3⟩ := q9s n suf (a + 1) acc i (q03 g) stay h;refine ⟨k, j, qt0 _ _ _ _ _ _ _ _ ?_, r2, r3⟩;rw [q07 g, cT, q05 g, q00 (by omega), cF, q01 (by omega)]; exact r1
theorem qke (n : Int) {l : List Int} {i : Int} (h : q15 l i) : ∃ k j, z5r n l i = some (k, l, j) /\ k.Sublist someV /\ q15 l j := by
 obtain ⟨k, j, r1, r2, r3⟩ := q9s (l := l) n someV 0 [] i rfl (List.nil_sublist _) h;exact ⟨k, j, y7t _ _ _ _ r1, r2, r3⟩
structure DrawnN (n : Int) (m : Nomination) : Prop where
 msg : nomB m = true
 node : 0 <= m.Node /\ m.Node < n
 seq : 1 <= m.Seq /\ m.Seq <= 5
 votes : ∀ x ∈ m.Votes, x ∈ someV
 accs : ∀ x ∈ m.Accepts, x ∈ someV
theorem qg7 {n : Int} (h1 : 1 <= n) (h2 : n <= 10) {l : List Int} {i : Int} (h : q15 l i) : ∃ t j, z5a n 2 l i = some (t, l, j) /\ valid t = true /\ q15 l j := by
 obtain ⟨t, j, g1, g2, _, g4⟩ := y0r h1 h2 1 (by decide) h;exact ⟨t, j, g1, g2.1, g4⟩
theorem qil {n : Int} (h1 : 1 <= n) (h2 : n <= 10) {l : List Int} {i : Int} (h : q15 l i) : ∃ m j, z5d n l i = some (m, l, j) /\ DrawnN n m /\ q15 l j := by
 obtain ⟨x0, i0, g0, g0', g0'x, a0⟩ := N_ok (n := n) (by omega) (by omega) h;obtain ⟨x1, i1, g1, g1', g1'x, a1⟩ := qca (a := 1) (b := 5) (by omega) (by omega) (by omega) a0;obtain ⟨t, i2, g2, g2', a2⟩ := qg7 h1 h2 a1;obtain ⟨k, i3, g3, g3', a3⟩ := qke 3 a2;obtain ⟨q, i4, g4, g4', a4⟩ := qke 2 a3;refine ⟨⟨x0, x1, t, k, q⟩, i4, y6e _ _ _ _ ?_, ⟨q2e.2 ⟨by simp [inR]; omega, by show 1 <= x1; omega, g2', qoh g3', qoh g4'⟩, by dsimp only; omega, by dsimp only; omega, fun x hx => g3'.subset hx, fun x hx => g4'.subset hx⟩, a4⟩;rw [g0, bS]
 dsimp only
 rw [g1, bS]
 dsimp only
 rw [g2, bS]
 dsimp only
 rw [g3, bS]
 dsimp only
 rw [g4, bS, Trust.etaM]
theorem DrawnN.later {n : Int} {m : Nomination} (h : DrawnN n m) {k : Int} (h0 : 0 <= k) (hk : k <= 100000) : addI .i64 m.Seq k = m.Seq + k /\ nomB ⟨m.Node, m.Seq + k, m.Trust, m.Votes, m.Accepts⟩ = true := by
 have := h.seq;obtain ⟨h1, h2, h3, h4, h5⟩ := q2e.1 h.msg;exact ⟨q2d (by omega) (by omega), q2e.2 ⟨h1, by show 1 <= m.Seq + k; omega, h3, h4, h5⟩⟩
structure InV (n : Nominator) : Prop where
 own : n.Own = [] \/ n.Own ∈ someV
 votes : ∀ x ∈ n.Votes, x ∈ someV
 accs : ∀ x ∈ n.Accepts, x ∈ someV
 heard : ∀ m ∈ n.Heard, (∀ x ∈ m.Votes, x ∈ someV) /\ ∀ x ∈ m.Accepts, x ∈ someV
theorem qjo {V : List Val} (h : q0p V = true) (hv : ∀ x ∈ V, x ∈ someV) : V.length < 40 := by
 have := qhv (q0o.1 h).2.1 hv;have : someV.length = 7 := rfl;omega
theorem qxa : ∀ {l V : List Val}, (∀ x ∈ V, x ∈ someV) -> (∀ x ∈ l, x ∈ someV) -> ∀ x ∈ q6q V l, x ∈ someV := fun hV hl x hx => by
 rcases qdw hx with h | h
 .exact hV x h
 .exact hl x h
theorem qt4 {n : Nominator} (h : InV n) {V : List Val} (hV : ∀ x ∈ V, x ∈ someV) (u : Int) : ∀ x ∈ leadV n V u, x ∈ someV := by
 intro x hx;unfold leadV at hx;split at hx
 .split at hx
  .exact hV x hx
  .rename_i ho;rcases q64 hx with h1 | h1
   .exact hV x h1
   .rw [h1]; exact h.own.resolve_left ho
 .rcases qdo hx with h1 | ⟨m, h1, _, h2⟩
  .exact hV x h1
  .rcases h2 with h2 | h2
   .exact (h.heard m h1).1 x h2
   .exact (h.heard m h1).2 x h2
theorem qse {n : Nominator} (h : InV n) : ∀ (L : List Int) {V : List Val}, (∀ x ∈ V, x ∈ someV) -> ∀ x ∈ L.foldl (leadV n) V, x ∈ someV
 | [], _, hV => hV
 | u :: L, V, hV => qse h L (V := leadV n V u) (qt4 h hV u)
theorem InV.listen {n : Nominator} (h : InV n) (L : List Int) : InV (q19 L n) := by
 unfold q19;split
 .exact ⟨h.own, qse h L h.votes, h.accs, h.heard⟩
 .exact h
theorem InV.known {n : Nominator} (h : InV n) {x : Val} (hx : x ∈ qi2 n) : x ∈ someV := by
 obtain ⟨m, hm, hx⟩ := qj9.1 (q3b.1 hx);rcases List.mem_append.1 hm with hm | hm
 .rcases hx with hx | hx
  .exact (h.heard m hm).1 x hx
  .exact (h.heard m hm).2 x hx
 .simp at hm; subst hm;rcases hx with hx | hx
  .exact h.votes x hx
  .exact h.accs x hx
theorem InV.settleF : ∀ (k : Nat) {n : Nominator}, InV n -> InV (q3f k n)
 | 0, _, h => h
 | k + 1, n, h => by
  rw [q3f];cases hx : nextN n with
  | none => exact h
  | some x =>
   refine InV.settleF k (n := qee n x) ⟨h.own, h.votes, fun y hy => ?_, h.heard⟩;rcases q64 hy with e | e
   .exact h.accs y e
   .rw [e]; exact h.known (qdd hx).1
theorem InV.settle {n : Nominator} (h : InV n) (L : List Int) : InV (q0y L n) := by
 have := (h.listen L).settleF 60;exact ⟨this.own, this.votes, this.accs, this.heard⟩
theorem InV.turn {b n : Nominator} (h : InV n) : InV (turned b n) := by
 obtain ⟨s, _, g2, _⟩ := qdz b (q0y (leadN n) n);unfold turned;rw [g2];have := h.settle (leadN n);exact ⟨this.own, this.votes, this.accs, this.heard⟩
theorem InV.hear {n : Nominator} (h : InV n) {m : Nomination} (h1 : ∀ x ∈ m.Votes, x ∈ someV) (h2 : ∀ x ∈ m.Accepts, x ∈ someV) : InV { n with Heard := q5n m n.Heard } :=
 ⟨h.own, h.votes, h.accs, fun k hk => by
  rcases qj3 hk with e | e
  .subst e; exact ⟨h1, h2⟩
  .exact h.heard k e⟩
theorem qk3 : ∀ {l V : List Val} {x : Val}, q0p V = true -> (∀ y ∈ V, y ∈ someV) -> (∀ y ∈ l, y ∈ someV) -> x ∈ l -> x ∈ q6q V l
 | [], _, _, _, _, _, h => by simp at h
 | y :: l, V, x, hV, hi, hl, h => by
  have hy := hl y (by simp);have hp := q3l hV ((q0o.1 qbf).1 y hy);have hin : ∀ z ∈ putV V y, z ∈ someV := fun z hz => by
   rcases q64 hz with e | e
   .exact hi z e
   .rw [e]; exact hy
  rcases List.mem_cons.1 h with e | h
  .subst e; exact qdl (l := l) (qlu (qjo hV hi))
  .exact qk3 (l := l) hp hin (fun z hz => hl z (by simp [hz])) h
theorem qe2 {u : Int} : ∀ {l : List Nomination} {V : List Val} {x : Val}, q0p V = true -> (∀ y ∈ V, y ∈ someV) -> (∀ m ∈ l, nomB m = true /\ (∀ y ∈ m.Votes, y ∈ someV) /\ ∀ y ∈ m.Accepts, y ∈ someV) -> (∃ m ∈ l, m.Node = u /\ (x ∈ m.Votes \/ x ∈ m.Accepts)) ->
  x ∈ l.foldl (fun V m => if m.Node = u then q6q V (setV (m.Votes ++ m.Accepts)) else V) V
 | [], V, x, _, _, _, h => by obtain ⟨m, hm, _⟩ := h; simp at hm
 | m :: l, V, x, hV, hi, hl, ⟨k, hk, hu, hx⟩ => by
  rw [List.foldl_cons];obtain ⟨q1, q2, q3⟩ := hl m (by simp);have hs : ∀ y ∈ setV (m.Votes ++ m.Accepts), y ∈ someV := fun y hy => by
   rcases List.mem_append.1 (q3b.1 hy) with e | e
   .exact q2 y e
   .exact q3 y e
  rcases List.mem_cons.1 hk with e | hk
  .subst e;rw [if_pos hu];exact qdj (qk3 hV hi hs (q3b.2 (List.mem_append.2 hx)))
  .split
   .exact qe2 (q65 hV fun y hy => qfq q1 y (q3b.1 hy)) (qxa hi hs) (fun k' hk' => hl k' (by simp [hk'])) ⟨k, hk, hu, hx⟩
   .exact qe2 hV hi (fun k' hk' => hl k' (by simp [hk'])) ⟨k, hk, hu, hx⟩
def mayV (n : Nominator) (x : Val) (u : Int) : Prop := u = n.Node /\ x = n.Own /\ n.Own ≠ [] \/ u ≠ n.Node /\ ∃ m ∈ n.Heard, m.Node = u /\ (x ∈ m.Votes \/ x ∈ m.Accepts)
theorem qwp {n : Nominator} (h : ReadyN n) (hi : InV n) {V : List Val} (hV : q0p V = true) (hVi : ∀ y ∈ V, y ∈ someV) {u : Int} {x : Val} (hx : mayV n x u) : x ∈ leadV n V u := by
 unfold leadV;rcases hx with ⟨h1, h2, h3⟩ | ⟨h1, h2⟩
 .rw [if_pos h1, if_neg h3, h2]; exact qlu (qjo hV hVi)
 .rw [if_neg h1]; exact qe2 hV hVi (fun m hm => ⟨(h.msg m hm).1, hi.heard m hm⟩) h2
theorem qge {n : Nominator} (h : ReadyN n) (hi : InV n) {x : Val} : ∀ (L : List Int) {V : List Val}, q0p V = true -> (∀ y ∈ V, y ∈ someV) -> (∃ u ∈ L, mayV n x u) -> x ∈ L.foldl (leadV n) V
 | [], _, _, _, hx => by obtain ⟨u, hu, _⟩ := hx; simp at hu
 | v :: L, V, hV, hVi, ⟨u, hu, hx⟩ => by
  rw [List.foldl_cons];rcases List.mem_cons.1 hu with e | hu
  .subst e; exact qg6 (qwp h hi hV hVi hx)
  .exact qge h hi L (qb7 h hV) (qt4 hi hVi v) ⟨u, hu, hx⟩
theorem qzt {n : Nominator} {V : List Val} {u : Int} {x : Val} (hx : x ∈ leadV n V u) : x ∈ V \/ mayV n x u := by
 unfold leadV at hx;split at hx
 .rename_i hu;split at hx
  .exact .inl hx
  .rename_i ho;rcases q64 hx with h1 | h1
   .exact .inl h1
   .exact .inr (.inl ⟨hu, h1, ho⟩)
 .rename_i hu;rcases qdo hx with h1 | h1
  .exact .inl h1
  .exact .inr (.inr ⟨hu, h1⟩)
theorem qrg {n : Nominator} {x : Val} : ∀ (L : List Int) {V : List Val}, x ∈ L.foldl (leadV n) V -> x ∈ V \/ ∃ u ∈ L, mayV n x u
 | [], _, hx => .inl hx
 | v :: L, V, hx => by
  rw [List.foldl_cons] at hx;rcases qrg L hx with h1 | ⟨u, h1, h2⟩
  .rcases qzt h1 with h1 | h1
   .exact .inl h1
   .exact .inr ⟨v, by simp, h1⟩
  .exact .inr ⟨u, by simp [h1], h2⟩
def ListN (n : Nominator) : Prop := n.Candidates = [] -> ∀ u ∈ leadN n, ∀ x, mayV n x u -> x ∈ n.Votes
structure GoneN (n : Nominator) (k : Nat) : Prop where
 ready : ReadyN n
 seq : n.Seq <= (k : Int) + 1
 inv : InV n
 list : ListN n
structure StepF (n w : Nominator) : Prop where
 step : StepN n w
 inv : InV w
 list : ListN w
 from' : ∀ x ∈ w.Votes, x ∈ n.Votes \/ ∃ u ∈ leadN w, mayV w x u
 stop : n.Candidates ≠ [] -> w.Votes = n.Votes
 all : n.Candidates = [] -> ∀ u ∈ leadN w, ∀ x, mayV w x u -> x ∈ w.Votes
 own : w.Own = n.Own
theorem qpr (n u : Nominator) : ∃ s A C, turned n u = { u with Seq := s, Votes := (q19 (leadN u) u).Votes, Accepts := A, Candidates := C } /\ (∀ x ∈ u.Candidates, x ∈ C) := by
 obtain ⟨s, _, g2, _⟩ := qdz n (q0y (leadN u) u);obtain ⟨A, C, f1, _, _, f4⟩ := q7v (leadN u) u;refine ⟨s, A, C, ?_, f4⟩;unfold turned;rw [g2, f1]
theorem q8u {n u : Nominator} (hu : ReadyN u) (hi : InV u) (h1 : u.Node = n.Node) (h2 : u.Slot = n.Slot) (h3 : u.Seq = n.Seq) (h4 : u.Votes = n.Votes) (h5 : u.Accepts = n.Accepts) (h6 : u.Candidates = n.Candidates) (h7 : u.Own = n.Own) : StepF n (turned n u) := by
 have hst := (qti hu (leadN u) h1 h2 h3 h4 h5 h6).1;obtain ⟨s, A, C, e, hC⟩ := qpr n u;have hL : leadN (turned n u) = leadN u := by rw [e]; rfl
 have hm : ∀ x k, mayV (turned n u) x k ↔ mayV u x k := fun x k => by rw [e]; exact Iff.rfl
 have hv : (turned n u).Votes = (q19 (leadN u) u).Votes := by rw [e]
 have all : n.Candidates = [] -> ∀ k ∈ leadN (turned n u), ∀ x, mayV (turned n u) x k -> x ∈ (turned n u).Votes := fun hc k hk x hx => by
  rw [hv, q19, if_pos (h6.trans hc)];rw [hL] at hk;exact qge hu hi _ hu.votes hi.votes ⟨k, hk, (hm x k).1 hx⟩
 refine ⟨hst, hi.turn, fun hc => ?_, fun x hx => ?_, fun hc => ?_, all, by rw [e]; exact h7⟩
 .have : n.Candidates = [] := by
   rw [e] at hc;have hc : C = [] := hc;rw [<- h6];cases hcc : u.Candidates with
   | nil => rfl
   | cons y r => have := hC y (by rw [hcc]; simp); rw [hc] at this; simp at this
  exact all this
 .rw [hv] at hx;unfold q19 at hx;split at hx
  .rcases qrg _ hx with e1 | ⟨k, k1, k2⟩
   .exact .inl (by rw [<- h4]; exact e1)
   .exact .inr ⟨k, by rw [hL]; exact k1, (hm x k).2 k2⟩
  .exact .inl (by rw [<- h4]; exact hx)
 .rw [hv, q19, if_neg (by rw [h6]; exact hc), h4]
theorem StepF.same {n : Nominator} (h : ReadyN n) (hi : InV n) (hl : ListN n) : StepF n n :=
 ⟨⟨rfl, rfl, .inl rfl, fun _ h => h, fun _ h => h, fun _ h => h, fun _ => h, ⟨fun _ => ⟨rfl, rfl, rfl⟩, fun _ => rfl⟩⟩, hi, hl, fun _ h => .inl h, fun _ => rfl, hl, rfl⟩
theorem GoneN.next {n w : Nominator} {k : Nat} (h : GoneN n k) (hk : k < 1000) (hs : StepF n w) : GoneN w (k + 1) := by
 have := h.seq;have := hs.step.seq;exact ⟨hs.step.ready (by omega), by omega, hs.inv, hs.list⟩
theorem GoneN.up {n : Nominator} {k : Nat} (h : GoneN n k) : GoneN n (k + 1) := ⟨h.ready, by have := h.seq; omega, h.inv, h.list⟩
theorem quk {k slot : Int} (hk : inR k = true) (hs : 0 <= slot /\ slot <= 1000000) {t : Trust} (ht : valid t = true) {own : Val} (ho : own ∈ someV) : ∃ n, z2p k slot t own = some (n, 0) /\ n.Seq = 1 /\ GoneN n 0 := by
 have hol : own.length <= 200 := (qvl.1 ((q0o.1 qbf).1 own ho)).2;have hr := qjl hk hs ht hol;have hi : InV (newN k slot t own) := ⟨.inr ho, fun x hx => by simp [newN] at hx, fun x hx => by simp [newN] at hx, fun m hm => by simp [newN] at hm⟩;have hv : verr t = 0 := (q47 t).2 ht;obtain ⟨A, C, f1, _, _, _⟩ := q7v (leadN (newN k slot t own)) (newN k slot t own);refine ⟨q0y (leadN (newN k slot t own)) (newN k slot t own), ?_, by rw [f1]; rfl, hr.settle _, by rw [f1]; show (1 : Int) <= _; omega, hi.settle _, fun hc u hu x hx => ?_⟩
 .rw [qji k slot (q22 ht) own (by omega), qmr, if_neg (by rw [hk]; simp), if_neg (by omega), if_neg (by rw [hv]; simp), if_neg (by omega)]
 .rw [f1] at hu hx ⊢;show x ∈ (q19 (leadN (newN k slot t own)) (newN k slot t own)).Votes;rw [q19, if_pos (show (newN k slot t own).Candidates = [] from rfl)];exact qge hr hi _ hr.votes hi.votes ⟨u, hu, hx⟩
theorem qzy {n : Nominator} {k : Nat} (h : GoneN n k) (_hk : k < 100) {i : Int} (hi0 : 0 <= i) (hi : i <= 100) {l : List Int} {j : Int} (ht : q15 l j) : ∃ w e j', law22_step n 4 i l j = some (w, e, l, j') /\ q15 l j' /\ (e = 0 -> StepF n w) := by
 have hsm := h.ready.small;obtain ⟨x0, i0, g0, _, _, a0⟩ := N_ok (n := 6) (by omega) (by omega) ht;by_cases e0 : x0 = 0
 .refine ⟨(tickN n).1, (tickN n).2, i0, law22_step_le _ _ _ _ _ _ ?_, a0, fun e => ?_⟩
  .rw [g0, bS]
   dsimp only
   rw [e0, q3r, cT, qwb hsm, bS, q4p]
  .obtain ⟨s1, s2, s3⟩ := qv5 (n := n) (w := (tickN n).1) (by rw [<- e]);have hr := h.ready.round;rw [s1];exact q8u (h.ready.withR (by omega) (by omega)) ⟨h.inv.own, h.inv.votes, h.inv.accs, h.inv.heard⟩ rfl rfl rfl rfl rfl rfl rfl
 .by_cases e1 : x0 = 1
  .obtain ⟨t, i1, g1, g1', a1⟩ := qg7 (n := 4) (by omega) (by omega) a0;refine ⟨(declN n t).1, (declN n t).2, i1, law22_step_le _ _ _ _ _ _ ?_, a1, fun e => ?_⟩
   .rw [g0, bS]
    dsimp only
    rw [q4q e0, cF, e1, q3r, cT, g1, bS]
    dsimp only
    rw [qyc hsm (q22 g1'), bS, q4p]
   .obtain ⟨_, s2, s3⟩ := quc (n := n) (w := (declN n t).1) (t := t) (by rw [<- e]);rcases s3 with ⟨_, s3⟩ | s3
    .rw [s3]; exact StepF.same h.ready h.inv h.list
    .rw [s3];exact q8u (h.ready.withT s2) ⟨h.inv.own, h.inv.votes, h.inv.accs, h.inv.heard⟩ rfl rfl rfl rfl rfl rfl rfl
  .obtain ⟨m, i1, g1, g1', a1⟩ := qil (n := 4) (by omega) (by omega) a0;obtain ⟨q1, q2⟩ := g1'.later (k := 5 * i) (by omega) (by omega);have hmul : mulI .i64 5 i = 5 * i := wrap64 (by omega) (by omega);refine ⟨(hearN n ⟨m.Node, m.Seq + 5 * i, m.Trust, m.Votes, m.Accepts⟩).1, (hearN n ⟨m.Node, m.Seq + 5 * i, m.Trust, m.Votes, m.Accepts⟩).2, i1, law22_step_le _ _ _ _ _ _ ?_, a1, fun e => ?_⟩
   .rw [g0, bS]
    dsimp only
    rw [q4q e0, cF, q4q e1, cF, g1, bS]
    dsimp only
    rw [hmul, q1, Trust.etaM, qwx hsm (q5c q2), bS, q4p]
   .obtain ⟨u, s1, _, s2, s3, s4⟩ := qtv (n := n) (w := (hearN n ⟨m.Node, m.Seq + 5 * i, m.Trust, m.Votes, m.Accepts⟩).1) (m := ⟨m.Node, m.Seq + 5 * i, m.Trust, m.Votes, m.Accepts⟩) (by rw [<- e]);rw [s1, s4];exact q8u (h.ready.withH s2 s3) (h.inv.hear g1'.votes g1'.accs) rfl rfl rfl rfl rfl rfl rfl
theorem qmp (l k : List Val) (hl : l.length < 1152921504606846976) (hk : l.length = k.length) : ∀ (suf suk : List Val) (i : Nat), l.drop i = suf -> k.drop i = suk -> z4l l k ((l.length : Nat) : Int) (i : Int) = some (decide (suf = suk))
 | [], suk, i, h, h' => by
  have : suk = [] := by rw [<- h', List.drop_eq_nil_iff, <- hk]; exact List.drop_eq_nil_iff.1 h
  subst this;apply y29;rw [q0g h]; simp
 | y :: suf, [], i, h, h' => by
  have := q0d h;have := List.drop_eq_nil_iff.1 h';omega
 | y :: suf, z :: suk, i, h, h' => by
  have hlt := q0d h;apply y29;rw [q07 h, cT, q05 h, q05 h', q01 (by omega), qmp l k hl hk suf suk (i + 1) (q03 h) (q03 h')];by_cases hx : y = z
  .subst hx; simp [eqS]
  .simp [eqS, hx]
theorem q4h (l k : List Val) (hl : l.length < 1152921504606846976) : z4p l k = some (decide (l = k)) := by
 apply y5x;by_cases hk : l.length = k.length
 .rw [hk, q0x, cF, <- hk];exact qmp l k hl hk l k 0 rfl rfl
 .rw [q2o (by omega), cT];have : l ≠ k := fun e => hk (by rw [e])
  simp [this]
theorem qur {a : Nomination} (h : SmallN a) (b : Nomination) : z3q a b = some (nomEq a b) := by
 apply y7e;rw [qsm _ h.tr, bS, q4h _ _ (by have := h.votes; omega), bS, q4h _ _ (by have := h.accs; omega)];simp only [eqB, nomEq, bS];cases decide (a.Node = b.Node) <;> cases decide (a.Seq = b.Seq) <;> cases decide (a.Trust = b.Trust) <;> cases decide (a.Votes = b.Votes) <;> rfl
theorem qna (a b : Nominator) (hl : a.Heard.length < 1000000) (hk : a.Heard.length = b.Heard.length) (hm : ∀ m ∈ a.Heard, SmallN m) : ∀ (suf suk : List Nomination) (i : Nat), a.Heard.drop i = suf -> b.Heard.drop i = suk ->
  z3x ((a.Heard.length : Nat) : Int) (i : Int) a.Node a.Slot a.Round a.Seq a.Trust.Threshold a.Trust.Nodes a.Trust.Inner a.Own a.Votes a.Accepts a.Candidates a.Heard b.Node b.Slot b.Round b.Seq b.Trust.Threshold b.Trust.Nodes b.Trust.Inner b.Own b.Votes b.Accepts b.Candidates b.Heard = some (q8e suf suk)
 | [], suk, i, h, h' => by
  have : suk = [] := by rw [<- h', List.drop_eq_nil_iff, <- hk]; exact List.drop_eq_nil_iff.1 h
  subst this;apply y2t;rw [q0g h]; rfl
 | y :: suf, [], i, h, h' => by
  have := q0d h;have := List.drop_eq_nil_iff.1 h';omega
 | y :: suf, z :: suk, i, h, h' => by
  have hlt := q0d h;apply y2t;rw [q07 h, cT, q05 h, q05 h', qur (hm y (List.mem_of_mem_drop (i := i) (by rw [h]; simp))), bS, q01 (by omega), qna a b hl hk hm suf suk (i + 1) (q03 h) (q03 h'), q8e];cases nomEq y z <;> rfl
theorem qu9 {a : Nominator} (h : SmallR a) (b : Nominator) : z5t a b = some (sameN a b) := by
 apply y5m;rw [qsm _ h.tr, bS, q4h _ _ (by have := h.votes; omega), bS, q4h _ _ (by have := h.accs; omega), bS, q4h _ _ (by have := h.cands; omega), bS];have heq : (bif neB ((a.Heard.length : Nat) : Int) ((b.Heard.length : Nat) : Int) then some false else z3x ((a.Heard.length : Nat) : Int) 0 a.Node a.Slot a.Round a.Seq a.Trust.Threshold a.Trust.Nodes a.Trust.Inner a.Own a.Votes a.Accepts a.Candidates a.Heard b.Node b.Slot b.Round b.Seq b.Trust.Threshold b.Trust.Nodes b.Trust.Inner b.Own b.Votes b.Accepts b.Candidates b.Heard) = some (q8e a.Heard b.Heard) := by
  by_cases hk : a.Heard.length = b.Heard.length
  .have : neB ((a.Heard.length : Nat) : Int) ((b.Heard.length : Nat) : Int) = false := by rw [hk]; exact q0x _
   rw [this, cF];exact qna a b h.heard hk h.msgs a.Heard b.Heard 0 rfl rfl
  .rw [q2o (by omega), cT];congr 1
   cases e : q8e a.Heard b.Heard with
   | false => rfl
   | true => exact absurd (by rw [q9y.1 e]) hk
 rw [heq];have e : sameN a b = (decide (a.Node = b.Node) && (decide (a.Slot = b.Slot) && (decide (a.Round = b.Round) && (decide (a.Seq = b.Seq) && (decide (a.Own = b.Own) && (decide (a.Trust = b.Trust) && (decide (a.Votes = b.Votes) && (decide (a.Accepts = b.Accepts) && (decide (a.Candidates = b.Candidates) && q8e a.Heard b.Heard))))))))) := by
  rw [Bool.eq_iff_iff, qms];simp only [aT, dT', q9y];constructor
  .rintro rfl; exact ⟨rfl, rfl, rfl, rfl, rfl, rfl, rfl, rfl, rfl, rfl⟩
  .rintro ⟨h1, h2, h3, h4, h5, h6, h7, h8, h9, h10⟩;cases a; cases b;simp only at h1 h2 h3 h4 h5 h6 h7 h8 h9 h10;subst h1; subst h2; subst h3; subst h4; subst h5; subst h6; subst h7; subst h8; subst h9; subst h10; rfl
 rw [e];simp only [neB, eqS];cases decide (a.Node = b.Node) <;> cases decide (a.Slot = b.Slot) <;> cases decide (a.Round = b.Round) <;> cases decide (a.Seq = b.Seq) <;> cases decide (a.Own = b.Own) <;> cases decide (a.Trust = b.Trust) <;> cases decide (a.Votes = b.Votes) <;> cases decide (a.Accepts = b.Accepts) <;> cases decide (a.Candidates = b.Candidates) <;> rfl
theorem qnr (x : Val) : z5n x = some (vvl x) := by
 apply y5p;unfold leB vvl;by_cases h : 1 <= x.length
 .have : (1 : Int) <= ((x.length : Nat) : Int) := by omega
  simp only [h, this, decide_true, cT, tA'];congr 1
  by_cases h2 : x.length <= 200
  .have : ((x.length : Nat) : Int) <= 200 := by omega
   simp [h2, this]
  .have : ¬ ((x.length : Nat) : Int) <= 200 := by omega
   simp [h2, this]
 .have : ¬ (1 : Int) <= ((x.length : Nat) : Int) := by omega
  simp only [h, this, decide_false, cF, Bool.false_and]
theorem y0e (a b : Val) : z5e a b = some (cmpv a b) := by
 apply y8t;unfold cmpv eqS;by_cases e : a = b
 .subst e;rw [decide_eq_true rfl, cT, if_neg (q1v a), if_pos rfl]
 .rw [decide_eq_false e, cF];by_cases h1 : a.length < b.length
  .rw [q04 (by omega), cT, if_pos (show ltv a b from .inl h1)]
  .rw [q00 (by omega), cF];by_cases h2 : a.length = b.length
   .rw [show eqB ((a.length : Nat) : Int) ((b.length : Nat) : Int) = true by simp [eqB, h2], cT, qsj];by_cases h3 : a < b
    .rw [decide_eq_true h3, cT, if_pos (show ltv a b from .inr ⟨h2, h3⟩)]
    .rw [decide_eq_false h3, cF, if_neg (show ¬ ltv a b by rintro (h | ⟨_, h⟩); exact h1 h; exact h3 h), if_neg e]
   .rw [q4q (by omega), cF, if_neg (show ¬ ltv a b by rintro (h | ⟨h, _⟩); exact h1 h; exact h2 h), if_neg e]
theorem qj2 (l : List Val) (hl : l.length < 1152921504606846976) : ∀ (suf : List Val) (i : Nat) (z : Val), l[i]? = some z -> l.drop (i + 1) = suf -> z2i l l ((l.length : Nat) : Int) ((i + 1 : Nat) : Int) = some (plV (some z) suf && decide (l.length <= 40))
 | [], i, z, hz, h => by
  apply qte;rw [q0g h, cF];unfold leB plV;congr 1
  by_cases h2 : l.length <= 40
  .have : ((l.length : Nat) : Int) <= 40 := by omega
   simp [h2, this]
  .have : ¬ ((l.length : Nat) : Int) <= 40 := by omega
   simp [h2, this]
 | y :: suf, i, z, hz, h => by
  have hlt := q0d h;apply qte;rw [q07 h, cT, q05 h, qnr, bS, q04 (by omega), cT, q2t (by omega) (by omega), q0r (y := z) (by omega) (by rw [show (((i + 1 : Nat) : Int) - 1).toNat = i by omega]; exact hz), y0e, bS, qw5, q01 (by omega),
   qj2 l hl suf (i + 1) y (by have := congrArg (·[0]?) h; simpa using this) (q03 h)]
  rw [plV];cases vvl y <;> by_cases hc : ltv z y <;> simp [hc]
theorem q6o (l : List Val) (hl : l.length < 1152921504606846976) : z48 l = some (q0p l) := by
 apply y5z;unfold q0p;cases l with
 | nil =>
  apply qte;simp [ltB, plV, leB]
 | cons y r =>
  apply qte;have h0 : ltB 0 (((y :: r).length : Nat) : Int) = true := q04 (by rw [List.length_cons]; omega);rw [h0, cT, q0r (y := y) (by omega) rfl, qnr, bS, q00 (by omega), cF, show addI .i64 0 1 = ((0 + 1 : Nat) : Int) from rfl, qj2 (y :: r) hl r 0 y rfl rfl, plV];cases vvl y <;> simp
theorem qs4 (l : List Val) (hl : l.length < 1152921504606846976) (x : Val) : ∀ (suf : List Val) (i : Nat), l.drop i = suf -> z4w x l ((l.length : Nat) : Int) (i : Int) = some (decide (x ∈ suf))
 | [], i, h => by
  apply y35;rw [q0g h]; simp
 | y :: suf, i, h => by
  have hlt := q0d h;apply y35;rw [q07 h, cT, q05 h, q01 (by omega), qs4 l hl x suf (i + 1) (q03 h)];unfold eqS;by_cases hx : x = y <;> simp [hx]
theorem qzs (l : List Val) (hl : l.length < 1152921504606846976) (x : Val) : z5x l x = some (decide (x ∈ l)) := y5i _ _ _ (qs4 l hl x l 0 rfl)
theorem qxe {m : Nomination} (h : SmallN m) : z5p m = some (nomB m) := by
 apply y9m;rw [qso _ h.tr, q6o _ (by have := h.votes; omega), q6o _ (by have := h.accs; omega)];simp only [bS, q8w, nomB, leB, ltB, inR];cases decide (0 <= m.Node) <;> cases decide (m.Node < 10) <;> cases decide (1 <= m.Seq) <;> cases valid m.Trust <;> cases q0p m.Votes <;> rfl
theorem qv8 (n : Nominator) (hl : n.Heard.length < 1000000) (hm : ∀ m ∈ n.Heard, SmallN m) : ∀ (suf : List Nomination) (i : Nat) (z : Nomination), n.Heard[i]? = some z -> n.Heard.drop (i + 1) = suf ->
  z29 n.Heard ((n.Heard.length : Nat) : Int) ((i + 1 : Nat) : Int) n.Node n.Slot n.Round n.Seq n.Trust.Threshold n.Trust.Nodes n.Trust.Inner n.Own n.Votes n.Accepts n.Candidates n.Heard = some (q2c n.Node (some z.Node) suf)
 | [], i, z, hz, h => by
  apply qt7;rw [q0g h]; rfl
 | y :: suf, i, z, hz, h => by
  have hlt := q0d h;apply qt7;rw [q07 h, cT, q05 h, qxe (hm y (List.mem_of_mem_drop (i := i + 1) (by rw [h]; simp))), bS, q04 (by omega), cT, q2t (by omega) (by omega), q0r (y := z) (by omega) (by rw [show (((i + 1 : Nat) : Int) - 1).toNat = i by omega]; exact hz), q01 (by omega),
   qv8 n hl hm suf (i + 1) y (by have := congrArg (·[0]?) h; simpa using this) (q03 h)]
  rw [q2c, show leB y.Node z.Node = !decide (z.Node < y.Node) by by_cases h2 : z.Node < y.Node <;> simp [leB, h2] <;> omega];simp only [eqB];cases nomB y <;> cases decide (y.Node = n.Node) <;> cases decide (z.Node < y.Node) <;> rfl
theorem y4d (n : Nominator) (hl : n.Heard.length < 1000000) (hm : ∀ m ∈ n.Heard, SmallN m) : z29 n.Heard ((n.Heard.length : Nat) : Int) 0 n.Node n.Slot n.Round n.Seq n.Trust.Threshold n.Trust.Nodes n.Trust.Inner n.Own n.Votes n.Accepts n.Candidates n.Heard = some (q2c n.Node none n.Heard) := by
 cases hh : n.Heard with
 | nil =>
  apply qt7;simp [ltB, q2c]
 | cons y r =>
  have h1 := qv8 n hl hm r 0 y (by rw [hh]; rfl) (by rw [hh]; rfl);rw [hh] at h1 hm;apply qt7;rw [q04 (by rw [List.length_cons]; omega), cT, q0r (y := y) (by omega) rfl, qxe (hm y (by simp)), bS, q00 (by omega), cF, show addI .i64 0 1 = ((0 + 1 : Nat) : Int) from rfl, h1, q2c];by_cases h1 : y.Node = n.Node
  all_goals cases nomB y <;> simp [h1, eqB]
theorem qvp (n : Nominator) (hl : n.Heard.length < 1000000) (hm : ∀ m ∈ n.Heard, SmallN m) (ha : n.Accepts.length < 1000000) (l : List Val) (hll : l.length < 1152921504606846976) : ∀ (suf : List Val) (i : Nat), l.drop i = suf ->
  z3i l ((l.length : Nat) : Int) (i : Int) n.Node n.Slot n.Round n.Seq n.Trust.Threshold n.Trust.Nodes n.Trust.Inner n.Own n.Votes n.Accepts n.Candidates n.Heard = some ((suf.all fun x => decide (x ∈ n.Accepts)) && q2c n.Node none n.Heard)
 | [], i, h => by
  apply y25;rw [q0g h, cF, y4d n hl hm]; rfl
 | y :: suf, i, h => by
  have hlt := q0d h;apply y25;rw [q07 h, cT, q05 h, qzs _ (by omega), bS, q01 (by omega), qvp n hl hm ha l hll suf (i + 1) (q03 h)];by_cases hy : y ∈ n.Accepts <;> simp [hy]
theorem qun {n : Nominator} (h : SmallR n) : z5m n = some (q5j n) := by
 obtain ⟨h1, h2, h3, h4, h5, h6, h7⟩ := h;apply y76;rw [qso _ h1, q6o _ (by omega), q6o _ (by omega), q6o _ (by omega)];have hv1 := qvp n h6 h7 h4 n.Candidates (by omega) n.Candidates 0 rfl;have hv1 : z3i n.Candidates ((n.Candidates.length : Nat) : Int) 0 n.Node n.Slot n.Round n.Seq n.Trust.Threshold n.Trust.Nodes n.Trust.Inner n.Own n.Votes n.Accepts n.Candidates n.Heard = _ := hv1;simp only [bS, hv1, qos];have e1 : ltB n.Node 0 = !decide (0 <= n.Node) := by unfold ltB; rw [Bool.eq_iff_iff]; simp
 have e2 : leB 10 n.Node = !decide (n.Node < 10) := by unfold leB; rw [Bool.eq_iff_iff]; simp
 have e3 : ltB n.Slot 0 = !decide (0 <= n.Slot) := by unfold ltB; rw [Bool.eq_iff_iff]; simp
 have e4 : ltB 1000000 n.Slot = !decide (n.Slot <= 1000000) := by unfold ltB; rw [Bool.eq_iff_iff]; simp
 have e5 : ltB n.Round 1 = !decide (1 <= n.Round) := by unfold ltB; rw [Bool.eq_iff_iff]; simp
 have e6 : ltB 1000 n.Round = !decide (n.Round <= 1000) := by unfold ltB; rw [Bool.eq_iff_iff]; simp
 have e7 : ltB n.Seq 1 = !decide (1 <= n.Seq) := by unfold ltB; rw [Bool.eq_iff_iff]; simp
 have e8 : ltB 1000000 n.Seq = !decide (n.Seq <= 1000000) := by unfold ltB; rw [Bool.eq_iff_iff]; simp
 have e9 : ltB 200 ((n.Own.length : Nat) : Int) = !decide (n.Own.length <= 200) := by unfold ltB; rw [Bool.eq_iff_iff]; simp; omega
 rw [e1, e2, e3, e4, e5, e6, e7, e8, e9];unfold q5j numsN inR;cases decide (0 <= n.Node) <;> cases decide (n.Node < 10) <;> cases decide (0 <= n.Slot) <;> cases decide (n.Slot <= 1000000) <;> cases decide (1 <= n.Round) <;> cases decide (n.Round <= 1000) <;> cases decide (1 <= n.Seq) <;> cases decide (n.Seq <= 1000000) <;> first | rfl | (cases valid n.Trust <;> cases decide (n.Own.length <= 200) <;> cases q0p n.Votes <;> cases q0p n.Accepts <;> cases q0p n.Candidates <;> rfl)
theorem qr2 {A B : List Val} (ha : A.length < 1000000) (hb : B.length < 1000000) (h : ∀ x ∈ A, x ∈ B) : law22_kept A B = some true := by
 rw [qzz _ _ (by omega) (by omega)];congr 1
 rw [List.all_eq_true];intro x hx;rw [dT']; exact h x hx
theorem qld {l : List Int} : ∀ (r i : Nat) (n : Nominator) (k : Nat) (j : Int), i + r = 9 -> k <= i -> GoneN n k -> q15 l j -> z1r (i : Int) l j n.Node n.Slot n.Round n.Seq n.Trust.Threshold n.Trust.Nodes n.Trust.Inner n.Own n.Votes n.Accepts n.Candidates n.Heard = some true
 | 0, i, n, k, j, hi, hk, h, ht => by
  apply y1k;rw [q00 (by omega), cF, y3p]; rfl
 | r + 1, i, n, k, j, hi, hk, h, ht => by
  obtain ⟨w, e, j', g1, g2, g3⟩ := qzy h (by omega) (i := (i : Int)) (by omega) (by omega) ht;have hn := h.ready;apply y1k;rw [q04 (by omega), cT, q4p, g1, bS]
  dsimp only
  by_cases he : e = 0
  .have hs := g3 he;have ho := hs.own;have hw := h.next (by omega) hs;have hr := hw.ready;have hq := hs.step.seq;have hsq := hn.seq;have hsm : SmallR (⟨n.Node, n.Slot, 0, 0, ⟨n.Trust.Threshold, n.Trust.Nodes, n.Trust.Inner⟩, n.Own, n.Votes, n.Accepts, [], []⟩ : Nominator) := by
    rw [Trust.etaM];exact ⟨hn.small.tr, hn.small.own, hn.small.votes, hn.small.accs, by simp, by simp, fun m hm => by simp at hm⟩
   have hsame : sameN (⟨n.Node, n.Slot, 0, 0, ⟨n.Trust.Threshold, n.Trust.Nodes, n.Trust.Inner⟩, n.Own, n.Votes, n.Accepts, [], []⟩ : Nominator) ⟨w.Node, w.Slot, 0, 0, ⟨w.Trust.Threshold, w.Trust.Nodes, w.Trust.Inner⟩, w.Own, w.Votes, w.Accepts, [], []⟩ = eqB w.Seq n.Seq := by
    rw [Bool.eq_iff_iff, qms, Trust.etaM, Trust.etaM, hs.step.node, hs.step.slot, ho];unfold eqB;rw [dT', hs.step.chg];simp
   rw [he, q0x, cF, qun hr.small, qa2 hr.small, qa3.2 hr];simp only [bS, nT, cF];rw [qr2 (by have := hn.vlen; omega) (by have := hr.vlen; omega) hs.step.votes, qr2 (by have := hn.alen; omega) (by have := hr.alen; omega) hs.step.accs, qr2 (by have := hn.clen; omega) (by have := hr.clen; omega) hs.step.cands];simp only [bS, nT, cF];rw [qu9 hsm, hsame];simp only [bS, BEq.rfl, nT, cF];rw [q2d (by omega) (by omega), q00 (by omega), cF, q00 (by omega), cF, q01 (by omega)];exact qld r (i + 1) w (k + 1) j' (by omega) (by omega) hw g2
  .rw [q2o he, cT, q01 (by omega)];exact qld r (i + 1) n k j' (by omega) (by omega) h g2
theorem y49 (t : List Int) : law22_NominationKeeps t = some true := by
 obtain ⟨l, g0, a0⟩ := y7g t;obtain ⟨x1, i1, g1, q1, q1', a1⟩ := N_ok (n := 4) (by omega) (by omega) a0;obtain ⟨x2, i2, g2, q2, q2', a2⟩ := N_ok (n := 100) (by omega) (by omega) a1;obtain ⟨t3, i3, g3, q3, a3⟩ := qg7 (n := 4) (by omega) (by omega) a2;obtain ⟨v, i4, g4, q4, a4⟩ := qvz a3;obtain ⟨n, g5, hq, hg⟩ := quk (k := x1) (slot := x2) (by simp [inR]; omega) (by omega) q3 q4;apply law22_NominationKeeps_le;rw [g0, bS]
 dsimp only
 rw [g1, bS]
 dsimp only
 rw [g2, bS]
 dsimp only
 rw [g3, bS]
 dsimp only
 rw [g4, bS]
 dsimp only
 have hb : neB n.Seq 1 = false := by rw [hq, q0x]
 rw [g5, bS, q0x, cF]
 dsimp only
 rw [hb, cF];exact qld 8 1 n 0 i4 rfl (by omega) hg a4
end Go.Proofs.YtglokalgdbegeaaGreat
namespace Go.Proofs.YtglokalgdbegeaaGreat
open Go Go.Ab Go.ChangeShapes Go.WideShapes Go.ChangeAt Go.WideMaps Go.WideElems Go.RowKit
theorem Tryz.own : ownKnob Tryz.prog.godebug = none := by kernel_rfl
theorem Tryz.laidOut : laidOutB Tryz.prog = true := by kernel_rfl
theorem qvo {f : Nat} (hlaw : ∀ zs : List Int, (∀ z ∈ zs, (Lit.int .i64 z).wf = true) -> ∃ n h', call env n f [.d (ints .i64 zs)] [] = some (.d (.v (.bool true)), h'))
  {W : World} {v : Value} {zs : List Int} (hz : ∀ z ∈ zs, (Lit.int .i64 z).wf = true) (hv : Rep W qc4 (ints .i64 zs) v) :
  Calls Tryz.prog f #[v] W fun e w' => e = .returned (.bool true) /\ Below W.heap.size W w' := by
 obtain ⟨n, h', hc⟩ := hlaw zs hz;exact top (E := env) (y7n n) (fun g cs hg => by cases hg) (ds := [ints .i64 zs]) hc rfl (fun i d hd => by
  cases i with
  | zero => simp at hd; subst hd; exact hv
  | succ i => simp at hd)
end Go.Proofs.YtglokalgdbegeaaGreat
