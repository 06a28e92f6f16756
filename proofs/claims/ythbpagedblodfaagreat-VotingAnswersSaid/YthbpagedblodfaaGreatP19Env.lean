/- The seat's program for the machines. -/
import Derived.Test.YthbpagedblodfaaGreatP19An
import Derived.Test.YthbpagedblodfaaGreatMachT
import Derived.Test.YthbpagedblodfaaGreatChecked
namespace Go.Proofs.YthbpagedblodfaaGreat
open Go Go.Ab
def look1 {α : Type} (d : α) : List (Nat × α) -> Nat -> α
 | [], _ => d
 | (k, v) :: r, t => if k = t then v else look1 d r t
def an : An := { flag := fun f t => if (look1 [] y89 f).contains t then .keep else .view, clear := fun f => look1 [] (look1 [] y50 f), mode := fun f => look1 0 (look1 [] y7h f), order := fun f => look1 [] (look1 [] y4h f), own := fun f => anOwn.contains f }
def lastF : Nat := 176
def badF : List Nat := [107]
def okF (h : Nat) : Bool := decide (2 <= h /\ h <= lastF) && !badF.contains h
noncomputable def qw5 : List (Nat × Option (List AV -> Heap -> Option (AV × Heap))) := [(62, some (q78 7)),(82, some q3h),(125, some (q7g 2)),(139, some (q5p 2))]
noncomputable def env : Env0 := { P := Tryz.prog, glob := fun _ => none, an := an, ok := okF, lib := look1 none qw5 }
structure Claim where
 Topic : Int
 Value : Int
structure Tape where
 l : List (Int)
 at_ : Int
structure Trust where
 Threshold : Int
 Nodes : List (Int)
 Inner : List (Trust)
structure Message where
 Node : Int
 Seq : Int
 Trust : Trust
 Votes : List (Claim)
 Accepts : List (Claim)
structure Member where
 Declared : Bool
 Trust : Trust
structure Voter where
 Node : Int
 Seq : Int
 Trust : Trust
 Votes : List (Claim)
 Accepts : List (Claim)
 Confirms : List (Claim)
 Heard : List (Message)
structure Config where
 Members : List (Member)
inductive TC where
 | i64 | l_i64 | Claim | l_Claim | Tape | b | Trust | l_Trust | Message | l_Message | Member | l_Member | Voter | Config
 deriving DecidableEq
def Ty : TC -> Type
 | .i64 => Int
 | .l_i64 => List (Int)
 | .Claim => Claim
 | .l_Claim => List (Claim)
 | .Tape => Tape
 | .b => Bool
 | .Trust => Trust
 | .l_Trust => List (Trust)
 | .Message => Message
 | .l_Message => List (Message)
 | .Member => Member
 | .l_Member => List (Member)
 | .Voter => Voter
 | .Config => Config
abbrev Lv := Leaf TC Ty
def asL (c : TC) : Lv -> Option (List (Ty c))
 | .l c' xs => if h : c' = c then some (h ▸ xs) else none
 | _ => none
theorem q3t {c : TC} {x : Lv} {xs : List (Ty c)} (h : asL c x = some xs) : x = .l c xs := by
 cases x with
 | l c' ys =>
  simp only [asL] at h;split at h
  .rename_i hc;subst hc;cases h; rfl
  .cases h
 | _ => cases h
def q4d (x : Int) : D := .v (.int .i64 x)
theorem qbi (x y : Int) (h : q4d x = q4d y) : x = y := q4x h
def qnf (x : Int) : List Lv := [.i .i64 x]
def qbp : List Lv -> Option (Int)
 | [.i .i64 x] => some x
 | _ => none
theorem y5x (cs : List Lv) (x : Int) (h : qbp cs = some x) : qnf x = cs := by
 unfold qbp at h;split at h
 .cases h; rfl
 .cases h
def qhd (x : List (Int)) : D := .list (x.map q4d)
theorem qw3 (x y : List (Int)) (h : qhd x = qhd y) : x = y := q1n qbi h
def qgm (x : List (Int)) : List Lv := [.l .i64 x]
def qcs : List Lv -> Option (List (Int))
 | [x] => asL .i64 x
 | _ => none
theorem qyt : ∀ (cs : List Lv) (x : List (Int)), qcs cs = some x -> qgm x = cs
 | [y], x, h => by rw [q3t (c := .i64) (x := y) (xs := x) h]; rfl
 | [], x, h => by
  have h' : (none : Option (List (Int))) = some x := h;cases h'
 | _ :: _ :: _, x, h => by
  have h' : (none : Option (List (Int))) = some x := h;cases h'
def q0c (x : Claim) : D := .agg [.v (.int .i64 (x.Topic)), .v (.int .i64 (x.Value))]
theorem q4r : ∀ x y : Claim, q0c x = q0c y -> x = y
 | ⟨a0, a1⟩, ⟨b0, b1⟩, h => by
  simp only [q0c, D.agg.injEq, List.cons.injEq, and_true] at h;obtain ⟨h0, h1⟩ := h;have e0 : a0 = b0 := q4x h0;have e1 : a1 = b1 := q4x h1;rw [e0, e1]
def qbf (x : Claim) : List Lv := [.i .i64 x.Topic, .i .i64 x.Value]
def q84 : List Lv -> Option Claim
 | [.i .i64 a0, .i .i64 a1] => some (Claim.mk a0 a1)
 | _ => none
theorem y01 (cs : List Lv) (x : Claim) (h : q84 cs = some x) : qbf x = cs := by
 unfold q84 at h;split at h
 .cases h; rfl
 .cases h
def qbq (x : List (Claim)) : D := .list (x.map q0c)
theorem qqo (x y : List (Claim)) (h : qbq x = qbq y) : x = y := q1n q4r h
def qdh (x : List (Claim)) : List Lv := [.l .Claim x]
def q9l : List Lv -> Option (List (Claim))
 | [x] => asL .Claim x
 | _ => none
theorem qt5 : ∀ (cs : List Lv) (x : List (Claim)), q9l cs = some x -> qdh x = cs
 | [y], x, h => by rw [q3t (c := .Claim) (x := y) (xs := x) h]; rfl
 | [], x, h => by
  have h' : (none : Option (List (Claim))) = some x := h;cases h'
 | _ :: _ :: _, x, h => by
  have h' : (none : Option (List (Claim))) = some x := h;cases h'
def qg3 (x : Tape) : D := .agg [.list (((x.l)).map q4d), .v (.int .i64 (x.at_))]
theorem y00 : ∀ x y : Tape, qg3 x = qg3 y -> x = y
 | ⟨a0, a1⟩, ⟨b0, b1⟩, h => by
  simp only [qg3, D.agg.injEq, List.cons.injEq, and_true] at h;obtain ⟨h0, h1⟩ := h;have e0 : a0 = b0 := q1n qbi h0;have e1 : a1 = b1 := q4x h1;rw [e0, e1]
def qjg (x : Tape) : List Lv := [.l .i64 x.l, .i .i64 x.at_]
def q9x : List Lv -> Option Tape
 | [l0, .i .i64 a1] => match asL .i64 l0 with
  | some m0 => some (Tape.mk m0 a1)
  | _ => none
 | _ => none
theorem y3w (cs : List Lv) (x : Tape) (h : q9x cs = some x) : qjg x = cs := by
 unfold q9x at h;split at h
 .split at h
  .rename_i m0 h0;cases q3t h0;cases h; rfl
  .cases h
 .cases h
def enc_b (x : Bool) : D := .v (.bool x)
theorem inj_b (x y : Bool) (h : enc_b x = enc_b y) : x = y := qr8 h
def qym (x : Bool) : List Lv := [.b x]
def qip : List Lv -> Option (Bool)
 | [.b x] => some x
 | _ => none
theorem of_b (cs : List Lv) (x : Bool) (h : qip cs = some x) : qym x = cs := by
 unfold qip at h;split at h
 .cases h; rfl
 .cases h
mutual
def q10 : Trust -> D
 | ⟨a0, a1, a2⟩ => .agg [.v (.int .i64 a0), .list ((a1).map q4d), .list (q2y a2)]
def q2y : List Trust -> List D
 | [] => []
 | x :: r => q10 x :: q2y r
end
theorem q49 : ∀ l : List Trust, q2y l = l.map q10
 | [] => rfl
 | x :: r => by simp only [q2y, q49 r, List.map_cons]
mutual
theorem q6q : ∀ x y : Trust, q10 x = q10 y -> x = y
 | ⟨a0, a1, a2⟩, ⟨b0, b1, b2⟩, h => by
  simp only [q10, D.agg.injEq, List.cons.injEq, and_true] at h;obtain ⟨h0, h1, h2⟩ := h;have e0 : a0 = b0 := q4x h0;have e1 : a1 = b1 := q1n qbi h1;have e2 : a2 = b2 := qjn _ _ (D.list.inj h2);rw [e0, e1, e2]
theorem qjn : ∀ x y : List Trust, q2y x = q2y y -> x = y
 | [], [], _ => rfl
 | [], _ :: _, h => by simp [q2y] at h
 | _ :: _, [], h => by simp [q2y] at h
 | x :: r, y :: r', h => by
  simp only [q2y, List.cons.injEq] at h;rw [q6q x y h.1, qjn r r' h.2]
end
def q7o (x : Trust) : List Lv := [.i .i64 x.Threshold, .l .i64 x.Nodes, .l .Trust x.Inner]
def q8a : List Lv -> Option Trust
 | [.i .i64 a0, l1, l2] => match asL .i64 l1, asL .Trust l2 with
  | some m1, some m2 => some (Trust.mk a0 m1 m2)
  | _, _ => none
 | _ => none
theorem qz1 (cs : List Lv) (x : Trust) (h : q8a cs = some x) : q7o x = cs := by
 unfold q8a at h;split at h
 .split at h
  .rename_i m1 m2 h1 h2;cases q3t h1;cases q3t h2;cases h; rfl
  .cases h
 .cases h
def qaw (x : List (Trust)) : D := .list (x.map q10)
theorem qr1 (x y : List (Trust)) (h : qaw x = qaw y) : x = y := q1n q6q h
def qbz (x : List (Trust)) : List Lv := [.l .Trust x]
def q8r : List Lv -> Option (List (Trust))
 | [x] => asL .Trust x
 | _ => none
theorem qt7 : ∀ (cs : List Lv) (x : List (Trust)), q8r cs = some x -> qbz x = cs
 | [y], x, h => by rw [q3t (c := .Trust) (x := y) (xs := x) h]; rfl
 | [], x, h => by
  have h' : (none : Option (List (Trust))) = some x := h;cases h'
 | _ :: _ :: _, x, h => by
  have h' : (none : Option (List (Trust))) = some x := h;cases h'
def q0q (x : Message) : D := .agg [.v (.int .i64 (x.Node)), .v (.int .i64 (x.Seq)), .v (.int .i64 (x.Trust.Threshold)), .list (((x.Trust.Nodes)).map q4d), .list (((x.Trust.Inner)).map q10), .list (((x.Votes)).map q0c), .list (((x.Accepts)).map q0c)]
theorem qb8 : ∀ x y : Message, q0q x = q0q y -> x = y
 | ⟨a0, a1, ⟨a2, a3, a4⟩, a5, a6⟩, ⟨b0, b1, ⟨b2, b3, b4⟩, b5, b6⟩, h => by
  simp only [q0q, D.agg.injEq, List.cons.injEq, and_true] at h;obtain ⟨h0, h1, h2, h3, h4, h5, h6⟩ := h;have e0 : a0 = b0 := q4x h0;have e1 : a1 = b1 := q4x h1;have e2 : a2 = b2 := q4x h2;have e3 : a3 = b3 := q1n qbi h3;have e4 : a4 = b4 := q1n q6q h4;have e5 : a5 = b5 := q1n q4r h5;have e6 : a6 = b6 := q1n q4r h6;rw [e0, e1, e2, e3, e4, e5, e6]
def q7s (x : Message) : List Lv := [.i .i64 x.Node, .i .i64 x.Seq, .i .i64 x.Trust.Threshold, .l .i64 x.Trust.Nodes, .l .Trust x.Trust.Inner, .l .Claim x.Votes, .l .Claim x.Accepts]
def q5y : List Lv -> Option Message
 | [.i .i64 a0, .i .i64 a1, .i .i64 a2, l3, l4, l5, l6] => match asL .i64 l3, asL .Trust l4, asL .Claim l5, asL .Claim l6 with
  | some m3, some m4, some m5, some m6 => some (Message.mk a0 a1 (Trust.mk a2 m3 m4) m5 m6)
  | _, _, _, _ => none
 | _ => none
theorem qtr (cs : List Lv) (x : Message) (h : q5y cs = some x) : q7s x = cs := by
 unfold q5y at h;split at h
 .split at h
  .rename_i m3 m4 m5 m6 h3 h4 h5 h6;cases q3t h3;cases q3t h4;cases q3t h5;cases q3t h6;cases h; rfl
  .cases h
 .cases h
def q8b (x : List (Message)) : D := .list (x.map q0q)
theorem qli (x y : List (Message)) (h : q8b x = q8b y) : x = y := q1n qb8 h
def q94 (x : List (Message)) : List Lv := [.l .Message x]
def q72 : List Lv -> Option (List (Message))
 | [x] => asL .Message x
 | _ => none
theorem qoq : ∀ (cs : List Lv) (x : List (Message)), q72 cs = some x -> q94 x = cs
 | [y], x, h => by rw [q3t (c := .Message) (x := y) (xs := x) h]; rfl
 | [], x, h => by
  have h' : (none : Option (List (Message))) = some x := h;cases h'
 | _ :: _ :: _, x, h => by
  have h' : (none : Option (List (Message))) = some x := h;cases h'
def q5m (x : Member) : D := .agg [.v (.bool (x.Declared)), .v (.int .i64 (x.Trust.Threshold)), .list (((x.Trust.Nodes)).map q4d), .list (((x.Trust.Inner)).map q10)]
theorem qed : ∀ x y : Member, q5m x = q5m y -> x = y
 | ⟨a0, ⟨a1, a2, a3⟩⟩, ⟨b0, ⟨b1, b2, b3⟩⟩, h => by
  simp only [q5m, D.agg.injEq, List.cons.injEq, and_true] at h;obtain ⟨h0, h1, h2, h3⟩ := h;have e0 : a0 = b0 := qr8 h0;have e1 : a1 = b1 := q4x h1;have e2 : a2 = b2 := q1n qbi h2;have e3 : a3 = b3 := q1n q6q h3;rw [e0, e1, e2, e3]
def qf7 (x : Member) : List Lv := [.b x.Declared, .i .i64 x.Trust.Threshold, .l .i64 x.Trust.Nodes, .l .Trust x.Trust.Inner]
def q6j : List Lv -> Option Member
 | [.b a0, .i .i64 a1, l2, l3] => match asL .i64 l2, asL .Trust l3 with
  | some m2, some m3 => some (Member.mk a0 (Trust.mk a1 m2 m3))
  | _, _ => none
 | _ => none
theorem qwv (cs : List Lv) (x : Member) (h : q6j cs = some x) : qf7 x = cs := by
 unfold q6j at h;split at h
 .split at h
  .rename_i m2 m3 h2 h3;cases q3t h2;cases q3t h3;cases h; rfl
  .cases h
 .cases h
def q99 (x : List (Member)) : D := .list (x.map q5m)
theorem qml (x y : List (Member)) (h : q99 x = q99 y) : x = y := q1n qed h
def qan (x : List (Member)) : List Lv := [.l .Member x]
def q8l : List Lv -> Option (List (Member))
 | [x] => asL .Member x
 | _ => none
theorem qqq : ∀ (cs : List Lv) (x : List (Member)), q8l cs = some x -> qan x = cs
 | [y], x, h => by rw [q3t (c := .Member) (x := y) (xs := x) h]; rfl
 | [], x, h => by
  have h' : (none : Option (List (Member))) = some x := h;cases h'
 | _ :: _ :: _, x, h => by
  have h' : (none : Option (List (Member))) = some x := h;cases h'
def q3w (x : Voter) : D := .agg [.v (.int .i64 (x.Node)), .v (.int .i64 (x.Seq)), .v (.int .i64 (x.Trust.Threshold)), .list (((x.Trust.Nodes)).map q4d), .list (((x.Trust.Inner)).map q10), .list (((x.Votes)).map q0c), .list (((x.Accepts)).map q0c), .list (((x.Confirms)).map q0c), .list (((x.Heard)).map q0q)]
theorem qxb : ∀ x y : Voter, q3w x = q3w y -> x = y
 | ⟨a0, a1, ⟨a2, a3, a4⟩, a5, a6, a7, a8⟩, ⟨b0, b1, ⟨b2, b3, b4⟩, b5, b6, b7, b8⟩, h => by
  simp only [q3w, D.agg.injEq, List.cons.injEq, and_true] at h;obtain ⟨h0, h1, h2, h3, h4, h5, h6, h7, h8⟩ := h;have e0 : a0 = b0 := q4x h0;have e1 : a1 = b1 := q4x h1;have e2 : a2 = b2 := q4x h2;have e3 : a3 = b3 := q1n qbi h3;have e4 : a4 = b4 := q1n q6q h4;have e5 : a5 = b5 := q1n q4r h5;have e6 : a6 = b6 := q1n q4r h6;have e7 : a7 = b7 := q1n q4r h7;have e8 : a8 = b8 := q1n qb8 h8;rw [e0, e1, e2, e3, e4, e5, e6, e7, e8]
def qb1 (x : Voter) : List Lv := [.i .i64 x.Node, .i .i64 x.Seq, .i .i64 x.Trust.Threshold, .l .i64 x.Trust.Nodes, .l .Trust x.Trust.Inner, .l .Claim x.Votes, .l .Claim x.Accepts, .l .Claim x.Confirms, .l .Message x.Heard]
def q7x : List Lv -> Option Voter
 | [.i .i64 a0, .i .i64 a1, .i .i64 a2, l3, l4, l5, l6, l7, l8] => match asL .i64 l3, asL .Trust l4, asL .Claim l5, asL .Claim l6, asL .Claim l7, asL .Message l8 with
  | some m3, some m4, some m5, some m6, some m7, some m8 => some (Voter.mk a0 a1 (Trust.mk a2 m3 m4) m5 m6 m7 m8)
  | _, _, _, _, _, _ => none
 | _ => none
theorem qzr (cs : List Lv) (x : Voter) (h : q7x cs = some x) : qb1 x = cs := by
 unfold q7x at h;split at h
 .split at h
  .rename_i m3 m4 m5 m6 m7 m8 h3 h4 h5 h6 h7 h8;cases q3t h3;cases q3t h4;cases q3t h5;cases q3t h6;cases q3t h7;cases q3t h8;cases h; rfl
  .cases h
 .cases h
def qa3 (x : Config) : D := .agg [.list (((x.Members)).map q5m)]
theorem qtj : ∀ x y : Config, qa3 x = qa3 y -> x = y
 | ⟨a0⟩, ⟨b0⟩, h => by
  simp only [qa3, D.agg.injEq, List.cons.injEq, and_true] at h;have h0 := h;have e0 : a0 = b0 := q1n qed h0;rw [e0]
def qfh (x : Config) : List Lv := [.l .Member x.Members]
def q6n : List Lv -> Option Config
 | [l0] => match asL .Member l0 with
  | some m0 => some (Config.mk m0)
  | _ => none
 | _ => none
theorem qwi (cs : List Lv) (x : Config) (h : q6n cs = some x) : qfh x = cs := by
 unfold q6n at h;split at h
 .split at h
  .rename_i m0 h0;cases q3t h0;cases h; rfl
  .cases h
 .cases h
def encT : (c : TC) -> Ty c -> D
 | .i64 => q4d
 | .l_i64 => qhd
 | .Claim => q0c
 | .l_Claim => qbq
 | .Tape => qg3
 | .b => enc_b
 | .Trust => q10
 | .l_Trust => qaw
 | .Message => q0q
 | .l_Message => q8b
 | .Member => q5m
 | .l_Member => q99
 | .Voter => q3w
 | .Config => qa3
def y5e : (c : TC) -> Ty c -> List Lv
 | .i64 => qnf
 | .l_i64 => qgm
 | .Claim => qbf
 | .l_Claim => qdh
 | .Tape => qjg
 | .b => qym
 | .Trust => q7o
 | .l_Trust => qbz
 | .Message => q7s
 | .l_Message => q94
 | .Member => qf7
 | .l_Member => qan
 | .Voter => qb1
 | .Config => qfh
def y02 : (c : TC) -> List Lv -> Option (Ty c)
 | .i64 => qbp
 | .l_i64 => qcs
 | .Claim => q84
 | .l_Claim => q9l
 | .Tape => q9x
 | .b => qip
 | .Trust => q8a
 | .l_Trust => q8r
 | .Message => q5y
 | .l_Message => q72
 | .Member => q6j
 | .l_Member => q8l
 | .Voter => q7x
 | .Config => q6n
def aggF : TC -> Bool
 | .i64 => false
 | .l_i64 => false
 | .Claim => true
 | .l_Claim => false
 | .Tape => true
 | .b => false
 | .Trust => true
 | .l_Trust => false
 | .Message => true
 | .l_Message => false
 | .Member => true
 | .l_Member => false
 | .Voter => true
 | .Config => true
def sizeF : TC -> Nat
 | .i64 => 1
 | .l_i64 => 1
 | .Claim => 2
 | .l_Claim => 1
 | .Tape => 2
 | .b => 1
 | .Trust => 3
 | .l_Trust => 1
 | .Message => 7
 | .l_Message => 1
 | .Member => 4
 | .l_Member => 1
 | .Voter => 9
 | .Config => 1
def qv9 : List (TypeId × TC × TypeId) := [(22, .i64,3),(25, .Trust, 27),(28, .Claim, 38),(29, .Message, 40),(54, .Member, 96),(68, .Voter, 31),(129, .l_Claim, 28)]
def qzz : List (TypeId × List (Option TC)) := [(22,[some .i64]),(25,[some .Trust]),(26,[none, some .i64, some .Trust]),(27,[none, some .i64, some .Trust]),(28,[some .Claim]),(29,[some .Message]),(30,[none, none, none, some .i64, some .Trust, some .Claim, some .Claim, some .Claim, some .Message]),(31,[none, none, none, some .i64, some .Trust, some .Claim, some .Claim, some .Claim, some .Message]),(39,[none, none, none, some .i64, some .Trust, some .Claim, some .Claim]),(40,[none, none, none, some .i64, some .Trust, some .Claim, some .Claim]),(54,[some .Member]),(55,[some .Member]),(56,[some .Member]),(68,[some .Voter]),(73,[some .i64, none]),(74,[some .i64, none]),(95,[none, none, some .i64, some .Trust]),(96,[none, none, some .i64, some .Trust]),(129,[some .l_Claim])]
def elemF : List (TypeId × TC × TypeId) -> TypeId -> Option TC
 | [], _ => none
 | (u, c, _) :: r, t => if u = t then some c else elemF r t
def sig : Sig := { TC := TC, Ty := Ty, enc := encT, cells := y5e, ofCells := y02, agg := aggF, size := sizeF, elem := elemF qv9, lists := look1 [] qzz }
theorem qsr (P : Program) : ∀ (tab : List (TypeId × TC × TypeId)), (tab.all fun p => q22 P p.1 == some p.2.2 && tyAgg P p.2.2 == some (aggF p.2.1) && q0l P p.2.2 == some (sizeF p.2.1)) = true -> ∀ t c, elemF tab t = some c -> ∃ e, q22 P t = some e /\ tyAgg P e = some (aggF c) /\ q0l P e = some (sizeF c)
 | [], _, _, _, h => by cases h
 | (u, d, e) :: r, ha, t, c, h => by
  simp only [List.all_cons, aT, beq_iff_eq] at ha;simp only [elemF] at h;split at h
  .rename_i hu; cases h; subst hu; exact ⟨e, ha.1.1.1, ha.1.1.2, ha.1.2⟩
  .exact qsr P r ha.2 t c h
theorem qq2 (x : Trust) : sig.enc .Trust x = (packT (S := sig) true (q7o x)).toD := by
 cases x;show q10 _ = _;simp only [q10, q49];rfl
theorem sigOk : sig.Ok Tryz.prog where
 enc_eq := fun c x => by cases c <;> first | rfl | exact qq2 x
 of_eq := fun c cs x h => by
  have : sig.cells c x = cs := by
   cases c
   .exact y5x cs x h
   .exact qyt cs x h
   .exact y01 cs x h
   .exact qt5 cs x h
   .exact y3w cs x h
   .exact of_b cs x h
   .exact qz1 cs x h
   .exact qt7 cs x h
   .exact qtr cs x h
   .exact qoq cs x h
   .exact qwv cs x h
   .exact qqq cs x h
   .exact qzr cs x h
   .exact qwi cs x h
  rw [this]
 inj := fun c x y h => by
  cases c
  .exact qbi x y h
  .exact qw3 x y h
  .exact q4r x y h
  .exact qqo x y h
  .exact y00 x y h
  .exact inj_b x y h
  .exact q6q x y h
  .exact qr1 x y h
  .exact qb8 x y h
  .exact qli x y h
  .exact qed x y h
  .exact qml x y h
  .exact qxb x y h
  .exact qtj x y h
 len := fun c x => by cases c <;> rfl
 pos := fun c => by cases c <;> decide
 one := fun c h => by cases c <;> first | rfl | cases h
 elem := qsr Tryz.prog qv9 (by kernel_rfl)
def yad : List (Nat × List (OT sig)) := [(7,[.lf .b]),(4,[.lf .b]),(6,[.lf .b]),(3,[.lf .b]),(5,[.lf .b]),(29,[.lf .b]),(16,[.lf .b]),(30,[.lf .b]),(31,[.lf .b]),(8,[.ptr 0 0]),(32,[.ag .Voter]),(26,[.ag .Message]),(33,[.ag .Voter]),(17,[.ag .Voter, .lf .b]),(10,[.ag .Trust]),(9,[.ag .Voter, .lf (.i .i64)]),(11,[.ag .Voter, .lf (.i .i64)]),(12,[.lf (.i .i64)]),(18,[.lf (.l .Claim)]),(14,[.ag .Voter, .lf (.i .i64)]),(19,[.lf (.l .Claim)]),(77,[.lf .b]),(37,[.ag .Message]),(78,[.lf (.i .i64)]),(44,[.ag .Voter, .lf (.i .i64)]),(73,[.lf (.i .i64)]),(74,[.lf (.l .Claim)]),(79,[.lf (.i .i64)]),(80,[.ag .Trust]),(41,[.ag .Message]),(47,[.ag .Trust]),(48,[.lf (.i .i64)]),(45,[.lf (.i .i64)]),(46,[.ag .Trust]),(34,[.lf .b]),(49,[.lf .b]),(52,[.lf .b]),(53,[.lf .b]),(54,[.ag .Voter]),(55,[.lf (.l .Claim)]),(56,[.ag .Voter]),(57,[.lf .b]),(58,[.lf (.i .i64), .lf .b]),(61,[.ref 0]),(62,[.lf (.l .Message)]),(65,[.lf (.l .Message)]),(86,[.ag .Message]),(85,[.ag .Message]),(13,[.lf (.l .i64)]),(97,[.lf (.i .i64)]),(98,[.lf (.i .i64)]),(99,[.lf (.i .i64)]),(93,[.lf (.i .i64)]),(94,[.lf (.i .i64)]),(95,[.lf (.i .i64)]),(96,[.ref 0]),(81,[.lf .b]),(82,[.lf .b]),(100,[.lf (.i .i64)]),(101,[.lf .b]),(102,[.ref 0]),(103,[.lf (.l .Claim)]),(104,[.ag .Voter]),(75,[.lf .b]),(88,[.lf .b]),(105,[.lf .b]),(21,[.ag .Message]),(118,[.lf .b]),(121,[.lf (.i .i64), .lf (.i .i64)]),(123,[.lf (.i .i64)]),(125,[.ref 0]),(124,[.lf (.l .Claim)]),(126,[.ag .Config]),(127,[.ag .Claim, .lf .b]),(113,[.lf .b]),(114,[.lf .b]),(134,[.lf (.i .i64)]),(136,[.ref 0]),(138,[]),(139,[.lf (.l .Claim)]),(142,[.lf (.l .Claim)]),(151,[.lf (.i .i64)]),(150,[]),(165,[.lf (.i .i64)]),(35,[.lf .b]),(36,[.lf .b]),(38,[.lf .b]),(28,[.lf .b]),(39,[.ag .Claim]),(84,[.lf .b]),(64,[.lf .b]),(76,[.lf .b]),(15,[.lf .b]),(87,[.lf .b]),(89,[.lf .b]),(115,[.lf .b]),(27,[.ag .Voter, .lf (.i .i64)]),(20,[.lf .b]),(25,[.lf .b]),(40,[.ag .Voter, .lf (.i .i64)]),(43,[.ag .Voter, .lf (.i .i64)]),(42,[.ag .Voter, .lf (.i .i64)]),(90,[.lf .b]),(66,[.lf (.l .Claim)]),(92,[.ag .Voter]),(72,[.lf .b]),(63,[.lf .b]),(59,[.lf (.i .i64)]),(60,[.lf (.i .i64)]),(106,[.lf .b]),(122,[.lf (.i .i64), .lf (.i .i64)]),(116,[.lf (.i .i64)]),(133,[.lf (.i .i64)]),(50,[.lf .b]),(51,[.lf .b]),(135,[.lf .b]),(149,[.lf .b]),(155,[.lf .b]),(83,[.lf .b]),(141,[.ag .Trust]),(144,[.lf (.i .i64)]),(129,[.lf (.i .i64)]),(143,[.lf .b]),(146,[.lf (.i .i64)]),(152,[.lf .b]),(145,[.lf (.i .i64)]),(166,[.lf (.i .i64)]),(167,[.lf .b]),(154,[.lf (.i .i64), .lf (.l .i64)]),(119,[.lf .b]),(120,[.lf .b]),(137,[.lf .b]),(156,[]),(157,[]),(158,[]),(159,[.lf (.i .i64), .lf (.i .i64)]),(160,[]),(161,[.lf .b]),(162,[.lf (.i .i64)]),(163,[.lf (.i .i64), .lf .b]),(170,[.lf (.i .u64)]),(172,[.lf (.i .i64)]),(173,[.lf (.i .i64)]),(176,[.lf (.i .i64), .lf (.i .i64)]),(117,[.lf (.i .i64)]),(23,[.ag .Config]),(24,[.lf (.i .i64)]),(22,[.lf .b]),(71,[.lf (.i .i64)]),(70,[.lf .b]),(109,[.lf .b]),(111,[.lf (.i .i64)]),(112,[.lf (.l .i64)]),(67,[.lf .b]),(69,[.lf (.i .i64)]),(68,[.lf .b]),(110,[.lf .b]),(131,[.lf .b]),(91,[.lf (.l .Claim)]),(128,[.lf .b]),(153,[.lf (.l .Claim)]),(147,[.lf (.l .Claim)]),(168,[.lf (.i .i64), .lf .b]),(174,[.lf (.l .i64)]),(169,[]),(171,[.lf (.i .u64)]),(132,[.lf (.l .i64)]),(175,[.lf .b])]
def y41 : List (Nat × List (List (OT sig))) := [(8,[[.lf (.l .i64), .lf (.i .i64)]]),(61,[[.own .Message false]]),(96,[[.own .i64 false]]),(102,[[.own .Claim false]]),(125,[[.own .Claim false]])]
noncomputable def tn : TEn := { E := env, S := sig, res := look1 [] yad, news := look1 [] y41, outs := fun f => if List.contains [62,139] f then some [[.undef]] else none, cut := fun _ _ => false }
def qfb (fn : Func) : Code := match fn.body with | some c => c | none => .skip
def q09 (fn : Func) (p : List Nat) : Code := qiq p (qfb fn)
def y6u (fn : Func) (p ms : List Nat) : List Fr := qie p (qfb fn) ms []
abbrev o0' : OSpec sig := ⟨[.lf .b],[]⟩
abbrev o1' : OSpec sig := ⟨[.lf (.i .i64)],[]⟩
abbrev o2' : OSpec sig := ⟨[.lf (.l .Claim)],[]⟩
abbrev o3' : OSpec sig := ⟨[],[[.own .Claim false]]⟩
abbrev o4' : OSpec sig := ⟨[.ag .Voter],[]⟩
abbrev o5' : OSpec sig := ⟨[.ag .Voter, .lf (.i .i64)],[]⟩
abbrev o6' : OSpec sig := ⟨[.ag .Trust],[[.lf (.l .i64), .lf (.i .i64)]]⟩
abbrev o7' : OSpec sig := ⟨[.lf (.i .i64), .lf .b],[[.own .Claim false]]⟩
abbrev o8' : OSpec sig := ⟨[.lf (.l .i64)],[]⟩
abbrev o9' : OSpec sig := ⟨[.lf (.i .i64)],[[.own .Claim false]]⟩
abbrev o10' : OSpec sig := ⟨[.lf .b],[[.own .Claim false]]⟩
abbrev o11' : OSpec sig := ⟨[.ag .Message],[]⟩
abbrev o12' : OSpec sig := ⟨[.ag .Trust],[]⟩
abbrev o13' : OSpec sig := ⟨[.lf (.i .i64), .lf .b],[]⟩
abbrev o14' : OSpec sig := ⟨[.lf (.i .i64), .lf (.i .i64)],[]⟩
abbrev o15' : OSpec sig := ⟨[.ag .Config],[]⟩
abbrev o16' : OSpec sig := ⟨[.ag .Voter],[[.lf (.l .i64), .lf (.i .i64)]]⟩
abbrev o17' : OSpec sig := ⟨[.lf (.i .i64)],[[.lf (.l .i64), .lf (.i .i64)]]⟩
abbrev o18' : OSpec sig := ⟨[.lf (.l .i64)],[[.lf (.l .i64), .lf (.i .i64)]]⟩
abbrev o19' : OSpec sig := ⟨[.ref 0],[[.own .Claim false]]⟩
abbrev o20' : OSpec sig := ⟨[.ag .Message],[[.lf (.l .i64), .lf (.i .i64)]]⟩
abbrev o21' : OSpec sig := ⟨[.lf (.l .Claim)],[[.lf (.l .i64), .lf (.i .i64)]]⟩
abbrev o22' : OSpec sig := ⟨[.lf .b],[[.lf (.i .i64), .lf (.i .i64)]]⟩
abbrev o23' : OSpec sig := ⟨[.lf .b],[[.lf (.i .i64), .lf (.i .i64), .lf (.i .i64), .lf (.l .i64), .lf (.l .Trust), .lf (.l .Claim), .lf (.l .Claim), .lf (.l .Claim), .lf (.l .Message)]]⟩
abbrev o24' : OSpec sig := ⟨[.lf (.i .i64)],[[.lf (.i .i64), .lf (.i .i64)]]⟩
abbrev o25' : OSpec sig := ⟨[.lf (.i .i64)],[[.lf (.i .i64), .lf (.i .i64), .lf (.i .i64), .lf (.l .i64), .lf (.l .Trust), .lf (.l .Claim), .lf (.l .Claim), .lf (.l .Claim), .lf (.l .Message)]]⟩
abbrev o26' : OSpec sig := ⟨[.ag .Claim, .lf .b],[]⟩
abbrev o27' : OSpec sig := ⟨[.lf (.i .i64), .lf (.l .i64)],[]⟩
abbrev o28' : OSpec sig := ⟨[.lf (.i .i64)],[[.own .Claim false],[.lf (.i .i64)]]⟩
abbrev o29' : OSpec sig := ⟨[.ptr 0 0],[[.lf (.l .i64), .lf (.i .i64)]]⟩
abbrev o30' : OSpec sig := ⟨[.ag .Claim],[[.lf (.l .i64), .lf (.i .i64)]]⟩
abbrev o31' : OSpec sig := ⟨[.lf (.i .i64), .lf (.i .i64)],[[.own .Claim false]]⟩
abbrev o32' : OSpec sig := ⟨[.lf (.i .i64), .lf (.i .i64)],[[.own .Claim false],[.lf (.i .i64)]]⟩
abbrev o33' : OSpec sig := ⟨[.lf (.i .u64)],[[.lf (.i .u64)]]⟩
def eL {α : Type} (b a : Option α) : Prop := ∀ r, a = some r -> b = some r
theorem cL {f : FuncId} {fn : Func} {vs : List (TL sig)} {hs : THeap sig} (o : OSpec sig) (hf : Tryz.prog.funcs[f]? = some fn) {p : Option o.Out} (hok : env.ok f = true := by kernel_rfl) (hb : fn.body = some (qfb fn) := by kernel_rfl) (hn0 : (decide (vs.length <= fn.ntmps) && (q6h Tryz.prog fn (qfb fn)).isNone && (env.seek f).isNone && (env.lib f).isNone) = true := by kernel_rfl) (h : te tn ⟨f, fn, hs.length⟩ o 100000 (qfb fn) [] ⟨bindT 0 vs, hs⟩ = p := by kernel_rfl) : eL (callC tn f vs hs o) p := qyr (T := tn) sigOk 100000 hok hf hb hn0 h
theorem gL {F : Fx} (o : OSpec sig) (b : Code) {c : Code} {K : List Fr} {s : TSt sig} {p : Option o.Out} (hc : c = .loop b := by kernel_rfl) (h : te tn F o 100000 b (.loop b s.heap.length :: K) s = p := by kernel_rfl) : eL (goC tn F o c K s) p := qu3 (T := tn) sigOk 100000 hc h
end Go.Proofs.YthbpagedblodfaaGreat
