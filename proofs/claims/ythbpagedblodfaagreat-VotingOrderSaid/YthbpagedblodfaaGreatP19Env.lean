/- The seat's program for the machines. -/
import Derived.Test.YthbpagedblodfaaGreatP19An
import Derived.Test.YthbpagedblodfaaGreatMachT
import Derived.Test.YthbpagedblodfaaGreatChecked
namespace Go.Proofs.YthbpagedblodfaaGreat
open Go Go.Ab
def look1 {α : Type} (d : α) : List (Nat × α) → Nat → α
 | [], _ => d
 | (k, v) :: r, t => if k = t then v else look1 d r t
def an : An := { flag := fun f t => if (look1 [] y43 f).contains t then .keep else .view, clear := fun f => look1 [] (look1 [] y06 f), mode := fun f => look1 0 (look1 [] y49 f), order := fun f => look1 [] (look1 [] qzz f), own := fun f => anOwn.contains f }
def lastF : Nat := 176
def badF : List Nat := [107]
def okF (h : Nat) : Bool := decide (2 ≤ h ∧ h ≤ lastF) && !badF.contains h
noncomputable def qs8 : List (Nat × Option (List AV → Heap → Option (AV × Heap))) := [(62, some (q6n 7)),(82, some q30),(125, some (q62 2)),(139, some (q4z 2))]
noncomputable def env : Env0 := { P := Tryz.prog, glob := fun _ => none, an := an, ok := okF, lib := look1 none qs8 }
structure Claim where
 Topic : Int
 Value : Int
structure Tape where
 l : List (Int)
 at_ : Int
structure Trust where
 Threshold : Int
 Nodes : List (Int)
 Inner : List (Trust)
structure Message where
 Node : Int
 Seq : Int
 Trust : Trust
 Votes : List (Claim)
 Accepts : List (Claim)
structure Member where
 Declared : Bool
 Trust : Trust
structure Voter where
 Node : Int
 Seq : Int
 Trust : Trust
 Votes : List (Claim)
 Accepts : List (Claim)
 Confirms : List (Claim)
 Heard : List (Message)
structure Config where
 Members : List (Member)
inductive TC where
 | i64 | l_i64 | Claim | l_Claim | Tape | b | Trust | l_Trust | Message | l_Message | Member | l_Member | Voter | Config
 deriving DecidableEq
def Ty : TC → Type
 | .i64 => Int
 | .l_i64 => List (Int)
 | .Claim => Claim
 | .l_Claim => List (Claim)
 | .Tape => Tape
 | .b => Bool
 | .Trust => Trust
 | .l_Trust => List (Trust)
 | .Message => Message
 | .l_Message => List (Message)
 | .Member => Member
 | .l_Member => List (Member)
 | .Voter => Voter
 | .Config => Config
abbrev Lv := Leaf TC Ty
def asL (c : TC) : Lv → Option (List (Ty c))
 | .l c' xs => if h : c' = c then some (h ▸ xs) else none
 | _ => none
theorem q3d {c : TC} {x : Lv} {xs : List (Ty c)} (h : asL c x = some xs) : x = .l c xs := by
 cases x with
 | l c' ys =>
  simp only [asL] at h;split at h
  ·rename_i hc;subst hc;cases h; rfl
  ·cases h
 | _ => cases h
def q76 (x : Int) : D := .v (.int .i64 x)
theorem qa4 (x y : Int) (h : q76 x = q76 y) : x = y := q4e h
def qlp (x : Int) : List Lv := [.i .i64 x]
def qa8 : List Lv → Option (Int)
 | [.i .i64 x] => some x
 | _ => none
theorem y4g (cs : List Lv) (x : Int) (h : qa8 cs = some x) : qlp x = cs := by
 unfold qa8 at h;split at h
 ·cases h; rfl
 ·cases h
def qgt (x : List (Int)) : D := .list (x.map q76)
theorem qtr (x y : List (Int)) (h : qgt x = qgt y) : x = y := q1f qa4 h
def qg5 (x : List (Int)) : List Lv := [.l .i64 x]
def qc0 : List Lv → Option (List (Int))
 | [x] => asL .i64 x
 | _ => none
theorem qxl : ∀ (cs : List Lv) (x : List (Int)), qc0 cs = some x → qg5 x = cs
 | [y], x, h => by rw [q3d (c := .i64) (x := y) (xs := x) h]; rfl
 | [], x, h => by
  have h' : (none : Option (List (Int))) = some x := h;cases h'
 | _ :: _ :: _, x, h => by
  have h' : (none : Option (List (Int))) = some x := h;cases h'
def q0j (x : Claim) : D := .agg [.v (.int .i64 (x.Topic)), .v (.int .i64 (x.Value))]
theorem q4b : ∀ x y : Claim, q0j x = q0j y → x = y
 | ⟨a0, a1⟩, ⟨b0, b1⟩, h => by
  simp only [q0j, D.agg.injEq, List.cons.injEq, and_true] at h;obtain ⟨h0, h1⟩ := h;have e0 : a0 = b0 := q4e h0;have e1 : a1 = b1 := q4e h1;rw [e0, e1]
def qgl (x : Claim) : List Lv := [.i .i64 x.Topic, .i .i64 x.Value]
def q73 : List Lv → Option Claim
 | [.i .i64 a0, .i .i64 a1] => some (Claim.mk a0 a1)
 | _ => none
theorem qx9 (cs : List Lv) (x : Claim) (h : q73 cs = some x) : qgl x = cs := by
 unfold q73 at h;split at h
 ·cases h; rfl
 ·cases h
def qat (x : List (Claim)) : D := .list (x.map q0j)
theorem qp0 (x y : List (Claim)) (h : qat x = qat y) : x = y := q1f q4b h
def qbf (x : List (Claim)) : List Lv := [.l .Claim x]
def q8k : List Lv → Option (List (Claim))
 | [x] => asL .Claim x
 | _ => none
theorem qra : ∀ (cs : List Lv) (x : List (Claim)), q8k cs = some x → qbf x = cs
 | [y], x, h => by rw [q3d (c := .Claim) (x := y) (xs := x) h]; rfl
 | [], x, h => by
  have h' : (none : Option (List (Claim))) = some x := h;cases h'
 | _ :: _ :: _, x, h => by
  have h' : (none : Option (List (Claim))) = some x := h;cases h'
def qez (x : Tape) : D := .agg [.list (((x.l)).map q76), .v (.int .i64 (x.at_))]
theorem qx4 : ∀ x y : Tape, qez x = qez y → x = y
 | ⟨a0, a1⟩, ⟨b0, b1⟩, h => by
  simp only [qez, D.agg.injEq, List.cons.injEq, and_true] at h;obtain ⟨h0, h1⟩ := h;have e0 : a0 = b0 := q1f qa4 h0;have e1 : a1 = b1 := q4e h1;rw [e0, e1]
def qiw (x : Tape) : List Lv := [.l .i64 x.l, .i .i64 x.at_]
def q92 : List Lv → Option Tape
 | [l0, .i .i64 a1] => match asL .i64 l0 with
  | some m0 => some (Tape.mk m0 a1)
  | _ => none
 | _ => none
theorem y02 (cs : List Lv) (x : Tape) (h : q92 cs = some x) : qiw x = cs := by
 unfold q92 at h;split at h
 ·split at h
  ·rename_i m0 h0;cases q3d h0;cases h; rfl
  ·cases h
 ·cases h
def enc_b (x : Bool) : D := .v (.bool x)
theorem inj_b (x y : Bool) (h : enc_b x = enc_b y) : x = y := qqm h
def qv5 (x : Bool) : List Lv := [.b x]
def qhd : List Lv → Option (Bool)
 | [.b x] => some x
 | _ => none
theorem of_b (cs : List Lv) (x : Bool) (h : qhd cs = some x) : qv5 x = cs := by
 unfold qhd at h;split at h
 ·cases h; rfl
 ·cases h
mutual
def q2g : Trust → D
 | ⟨a0, a1, a2⟩ => .agg [.v (.int .i64 a0), .list ((a1).map q76), .list (q35 a2)]
def q35 : List Trust → List D
 | [] => []
 | x :: r => q2g x :: q35 r
end
theorem qb8 : ∀ l : List Trust, q35 l = l.map q2g
 | [] => rfl
 | x :: r => by simp only [q35, qb8 r, List.map_cons]
mutual
theorem q6p : ∀ x y : Trust, q2g x = q2g y → x = y
 | ⟨a0, a1, a2⟩, ⟨b0, b1, b2⟩, h => by
  simp only [q2g, D.agg.injEq, List.cons.injEq, and_true] at h;obtain ⟨h0, h1, h2⟩ := h;have e0 : a0 = b0 := q4e h0;have e1 : a1 = b1 := q1f qa4 h1;have e2 : a2 = b2 := qi6 _ _ (D.list.inj h2);rw [e0, e1, e2]
theorem qi6 : ∀ x y : List Trust, q35 x = q35 y → x = y
 | [], [], _ => rfl
 | [], _ :: _, h => by simp [q35] at h
 | _ :: _, [], h => by simp [q35] at h
 | x :: r, y :: r', h => by
  simp only [q35, List.cons.injEq] at h;rw [q6p x y h.1, qi6 r r' h.2]
end
def qa3 (x : Trust) : List Lv := [.i .i64 x.Threshold, .l .i64 x.Nodes, .l .Trust x.Inner]
def q6u : List Lv → Option Trust
 | [.i .i64 a0, l1, l2] => match asL .i64 l1, asL .Trust l2 with
  | some m1, some m2 => some (Trust.mk a0 m1 m2)
  | _, _ => none
 | _ => none
theorem qw8 (cs : List Lv) (x : Trust) (h : q6u cs = some x) : qa3 x = cs := by
 unfold q6u at h;split at h
 ·split at h
  ·rename_i m1 m2 h1 h2;cases q3d h1;cases q3d h2;cases h; rfl
  ·cases h
 ·cases h
def qab (x : List (Trust)) : D := .list (x.map q2g)
theorem qn3 (x y : List (Trust)) (h : qab x = qab y) : x = y := q1f q6p h
def qbx (x : List (Trust)) : List Lv := [.l .Trust x]
def q8y : List Lv → Option (List (Trust))
 | [x] => asL .Trust x
 | _ => none
theorem qrm : ∀ (cs : List Lv) (x : List (Trust)), q8y cs = some x → qbx x = cs
 | [y], x, h => by rw [q3d (c := .Trust) (x := y) (xs := x) h]; rfl
 | [], x, h => by
  have h' : (none : Option (List (Trust))) = some x := h;cases h'
 | _ :: _ :: _, x, h => by
  have h' : (none : Option (List (Trust))) = some x := h;cases h'
def q19 (x : Message) : D := .agg [.v (.int .i64 (x.Node)), .v (.int .i64 (x.Seq)), .v (.int .i64 (x.Trust.Threshold)), .list (((x.Trust.Nodes)).map q76), .list (((x.Trust.Inner)).map q2g), .list (((x.Votes)).map q0j), .list (((x.Accepts)).map q0j)]
theorem qam : ∀ x y : Message, q19 x = q19 y → x = y
 | ⟨a0, a1, ⟨a2, a3, a4⟩, a5, a6⟩, ⟨b0, b1, ⟨b2, b3, b4⟩, b5, b6⟩, h => by
  simp only [q19, D.agg.injEq, List.cons.injEq, and_true] at h;obtain ⟨h0, h1, h2, h3, h4, h5, h6⟩ := h;have e0 : a0 = b0 := q4e h0;have e1 : a1 = b1 := q4e h1;have e2 : a2 = b2 := q4e h2;have e3 : a3 = b3 := q1f qa4 h3;have e4 : a4 = b4 := q1f q6p h4;have e5 : a5 = b5 := q1f q4b h5;have e6 : a6 = b6 := q1f q4b h6;rw [e0, e1, e2, e3, e4, e5, e6]
def qb4 (x : Message) : List Lv := [.i .i64 x.Node, .i .i64 x.Seq, .i .i64 x.Trust.Threshold, .l .i64 x.Trust.Nodes, .l .Trust x.Trust.Inner, .l .Claim x.Votes, .l .Claim x.Accepts]
def q5b : List Lv → Option Message
 | [.i .i64 a0, .i .i64 a1, .i .i64 a2, l3, l4, l5, l6] => match asL .i64 l3, asL .Trust l4, asL .Claim l5, asL .Claim l6 with
  | some m3, some m4, some m5, some m6 => some (Message.mk a0 a1 (Trust.mk a2 m3 m4) m5 m6)
  | _, _, _, _ => none
 | _ => none
theorem qqu (cs : List Lv) (x : Message) (h : q5b cs = some x) : qb4 x = cs := by
 unfold q5b at h;split at h
 ·split at h
  ·rename_i m3 m4 m5 m6 h3 h4 h5 h6;cases q3d h3;cases q3d h4;cases q3d h5;cases q3d h6;cases h; rfl
  ·cases h
 ·cases h
def q7e (x : List (Message)) : D := .list (x.map q19)
theorem qj9 (x y : List (Message)) (h : q7e x = q7e y) : x = y := q1f qam h
def q8i (x : List (Message)) : List Lv := [.l .Message x]
def q66 : List Lv → Option (List (Message))
 | [x] => asL .Message x
 | _ => none
theorem qlr : ∀ (cs : List Lv) (x : List (Message)), q66 cs = some x → q8i x = cs
 | [y], x, h => by rw [q3d (c := .Message) (x := y) (xs := x) h]; rfl
 | [], x, h => by
  have h' : (none : Option (List (Message))) = some x := h;cases h'
 | _ :: _ :: _, x, h => by
  have h' : (none : Option (List (Message))) = some x := h;cases h'
def q4v (x : Member) : D := .agg [.v (.bool (x.Declared)), .v (.int .i64 (x.Trust.Threshold)), .list (((x.Trust.Nodes)).map q76), .list (((x.Trust.Inner)).map q2g)]
theorem qcn : ∀ x y : Member, q4v x = q4v y → x = y
 | ⟨a0, ⟨a1, a2, a3⟩⟩, ⟨b0, ⟨b1, b2, b3⟩⟩, h => by
  simp only [q4v, D.agg.injEq, List.cons.injEq, and_true] at h;obtain ⟨h0, h1, h2, h3⟩ := h;have e0 : a0 = b0 := qqm h0;have e1 : a1 = b1 := q4e h1;have e2 : a2 = b2 := q1f qa4 h2;have e3 : a3 = b3 := q1f q6p h3;rw [e0, e1, e2, e3]
def qdu (x : Member) : List Lv := [.b x.Declared, .i .i64 x.Trust.Threshold, .l .i64 x.Trust.Nodes, .l .Trust x.Trust.Inner]
def q5u : List Lv → Option Member
 | [.b a0, .i .i64 a1, l2, l3] => match asL .i64 l2, asL .Trust l3 with
  | some m2, some m3 => some (Member.mk a0 (Trust.mk a1 m2 m3))
  | _, _ => none
 | _ => none
theorem qsv (cs : List Lv) (x : Member) (h : q5u cs = some x) : qdu x = cs := by
 unfold q5u at h;split at h
 ·split at h
  ·rename_i m2 m3 h2 h3;cases q3d h2;cases q3d h3;cases h; rfl
  ·cases h
 ·cases h
def q8h (x : List (Member)) : D := .list (x.map q4v)
theorem ql0 (x y : List (Member)) (h : q8h x = q8h y) : x = y := q1f qcn h
def q9n (x : List (Member)) : List Lv := [.l .Member x]
def q7t : List Lv → Option (List (Member))
 | [x] => asL .Member x
 | _ => none
theorem qn6 : ∀ (cs : List Lv) (x : List (Member)), q7t cs = some x → q9n x = cs
 | [y], x, h => by rw [q3d (c := .Member) (x := y) (xs := x) h]; rfl
 | [], x, h => by
  have h' : (none : Option (List (Member))) = some x := h;cases h'
 | _ :: _ :: _, x, h => by
  have h' : (none : Option (List (Member))) = some x := h;cases h'
def qc7 (x : Voter) : D := .agg [.v (.int .i64 (x.Node)), .v (.int .i64 (x.Seq)), .v (.int .i64 (x.Trust.Threshold)), .list (((x.Trust.Nodes)).map q76), .list (((x.Trust.Inner)).map q2g), .list (((x.Votes)).map q0j), .list (((x.Accepts)).map q0j), .list (((x.Confirms)).map q0j), .list (((x.Heard)).map q19)]
theorem qts : ∀ x y : Voter, qc7 x = qc7 y → x = y
 | ⟨a0, a1, ⟨a2, a3, a4⟩, a5, a6, a7, a8⟩, ⟨b0, b1, ⟨b2, b3, b4⟩, b5, b6, b7, b8⟩, h => by
  simp only [qc7, D.agg.injEq, List.cons.injEq, and_true] at h;obtain ⟨h0, h1, h2, h3, h4, h5, h6, h7, h8⟩ := h;have e0 : a0 = b0 := q4e h0;have e1 : a1 = b1 := q4e h1;have e2 : a2 = b2 := q4e h2;have e3 : a3 = b3 := q1f qa4 h3;have e4 : a4 = b4 := q1f q6p h4;have e5 : a5 = b5 := q1f q4b h5;have e6 : a6 = b6 := q1f q4b h6;have e7 : a7 = b7 := q1f q4b h7;have e8 : a8 = b8 := q1f qam h8;rw [e0, e1, e2, e3, e4, e5, e6, e7, e8]
def qgf (x : Voter) : List Lv := [.i .i64 x.Node, .i .i64 x.Seq, .i .i64 x.Trust.Threshold, .l .i64 x.Trust.Nodes, .l .Trust x.Trust.Inner, .l .Claim x.Votes, .l .Claim x.Accepts, .l .Claim x.Confirms, .l .Message x.Heard]
def q75 : List Lv → Option Voter
 | [.i .i64 a0, .i .i64 a1, .i .i64 a2, l3, l4, l5, l6, l7, l8] => match asL .i64 l3, asL .Trust l4, asL .Claim l5, asL .Claim l6, asL .Claim l7, asL .Message l8 with
  | some m3, some m4, some m5, some m6, some m7, some m8 => some (Voter.mk a0 a1 (Trust.mk a2 m3 m4) m5 m6 m7 m8)
  | _, _, _, _, _, _ => none
 | _ => none
theorem qwj (cs : List Lv) (x : Voter) (h : q75 cs = some x) : qgf x = cs := by
 unfold q75 at h;split at h
 ·split at h
  ·rename_i m3 m4 m5 m6 m7 m8 h3 h4 h5 h6 h7 h8;cases q3d h3;cases q3d h4;cases q3d h5;cases q3d h6;cases q3d h7;cases q3d h8;cases h; rfl
  ·cases h
 ·cases h
def q9c (x : Config) : D := .agg [.list (((x.Members)).map q4v)]
theorem qqy : ∀ x y : Config, q9c x = q9c y → x = y
 | ⟨a0⟩, ⟨b0⟩, h => by
  simp only [q9c, D.agg.injEq, List.cons.injEq, and_true] at h;have h0 := h;have e0 : a0 = b0 := q1f qcn h0;rw [e0]
def qeb (x : Config) : List Lv := [.l .Member x.Members]
def q5y : List Lv → Option Config
 | [l0] => match asL .Member l0 with
  | some m0 => some (Config.mk m0)
  | _ => none
 | _ => none
theorem qtv (cs : List Lv) (x : Config) (h : q5y cs = some x) : qeb x = cs := by
 unfold q5y at h;split at h
 ·split at h
  ·rename_i m0 h0;cases q3d h0;cases h; rfl
  ·cases h
 ·cases h
def encT : (c : TC) → Ty c → D
 | .i64 => q76
 | .l_i64 => qgt
 | .Claim => q0j
 | .l_Claim => qat
 | .Tape => qez
 | .b => enc_b
 | .Trust => q2g
 | .l_Trust => qab
 | .Message => q19
 | .l_Message => q7e
 | .Member => q4v
 | .l_Member => q8h
 | .Voter => qc7
 | .Config => q9c
def y2s : (c : TC) → Ty c → List Lv
 | .i64 => qlp
 | .l_i64 => qg5
 | .Claim => qgl
 | .l_Claim => qbf
 | .Tape => qiw
 | .b => qv5
 | .Trust => qa3
 | .l_Trust => qbx
 | .Message => qb4
 | .l_Message => q8i
 | .Member => qdu
 | .l_Member => q9n
 | .Voter => qgf
 | .Config => qeb
def qvy : (c : TC) → List Lv → Option (Ty c)
 | .i64 => qa8
 | .l_i64 => qc0
 | .Claim => q73
 | .l_Claim => q8k
 | .Tape => q92
 | .b => qhd
 | .Trust => q6u
 | .l_Trust => q8y
 | .Message => q5b
 | .l_Message => q66
 | .Member => q5u
 | .l_Member => q7t
 | .Voter => q75
 | .Config => q5y
def aggF : TC → Bool
 | .i64 => false
 | .l_i64 => false
 | .Claim => true
 | .l_Claim => false
 | .Tape => true
 | .b => false
 | .Trust => true
 | .l_Trust => false
 | .Message => true
 | .l_Message => false
 | .Member => true
 | .l_Member => false
 | .Voter => true
 | .Config => true
def sizeF : TC → Nat
 | .i64 => 1
 | .l_i64 => 1
 | .Claim => 2
 | .l_Claim => 1
 | .Tape => 2
 | .b => 1
 | .Trust => 3
 | .l_Trust => 1
 | .Message => 7
 | .l_Message => 1
 | .Member => 4
 | .l_Member => 1
 | .Voter => 9
 | .Config => 1
def qt4 : List (TypeId × TC × TypeId) := [(22, .i64,3),(25, .Trust, 27),(28, .Claim, 38),(29, .Message, 40),(54, .Member, 96),(68, .Voter, 31),(129, .l_Claim, 28)]
def qx3 : List (TypeId × List (Option TC)) := [(22,[some .i64]),(25,[some .Trust]),(26,[none, some .i64, some .Trust]),(27,[none, some .i64, some .Trust]),(28,[some .Claim]),(29,[some .Message]),(30,[none, none, none, some .i64, some .Trust, some .Claim, some .Claim, some .Claim, some .Message]),(31,[none, none, none, some .i64, some .Trust, some .Claim, some .Claim, some .Claim, some .Message]),(39,[none, none, none, some .i64, some .Trust, some .Claim, some .Claim]),(40,[none, none, none, some .i64, some .Trust, some .Claim, some .Claim]),(54,[some .Member]),(55,[some .Member]),(56,[some .Member]),(68,[some .Voter]),(73,[some .i64, none]),(74,[some .i64, none]),(95,[none, none, some .i64, some .Trust]),(96,[none, none, some .i64, some .Trust]),(129,[some .l_Claim])]
def elemF : List (TypeId × TC × TypeId) → TypeId → Option TC
 | [], _ => none
 | (u, c, _) :: r, t => if u = t then some c else elemF r t
def sig : Sig := { TC := TC, Ty := Ty, enc := encT, cells := y2s, ofCells := qvy, agg := aggF, size := sizeF, elem := elemF qt4, lists := look1 [] qx3 }
theorem qpi (P : Program) : ∀ (tab : List (TypeId × TC × TypeId)), (tab.all fun p => q1u P p.1 == some p.2.2 && tyAgg P p.2.2 == some (aggF p.2.1) && q0f P p.2.2 == some (sizeF p.2.1)) = true → ∀ t c, elemF tab t = some c → ∃ e, q1u P t = some e ∧ tyAgg P e = some (aggF c) ∧ q0f P e = some (sizeF c)
 | [], _, _, _, h => by cases h
 | (u, d, e) :: r, ha, t, c, h => by
  simp only [List.all_cons, aT, beq_iff_eq] at ha;simp only [elemF] at h;split at h
  ·rename_i hu; cases h; subst hu; exact ⟨e, ha.1.1.1, ha.1.1.2, ha.1.2⟩
  ·exact qpi P r ha.2 t c h
theorem qnx (x : Trust) : sig.enc .Trust x = (packT (S := sig) true (qa3 x)).toD := by
 cases x;show q2g _ = _;simp only [q2g, qb8];rfl
theorem sigOk : sig.Ok Tryz.prog where
 enc_eq := fun c x => by cases c <;> first | rfl | exact qnx x
 of_eq := fun c cs x h => by
  have : sig.cells c x = cs := by
   cases c
   ·exact y4g cs x h
   ·exact qxl cs x h
   ·exact qx9 cs x h
   ·exact qra cs x h
   ·exact y02 cs x h
   ·exact of_b cs x h
   ·exact qw8 cs x h
   ·exact qrm cs x h
   ·exact qqu cs x h
   ·exact qlr cs x h
   ·exact qsv cs x h
   ·exact qn6 cs x h
   ·exact qwj cs x h
   ·exact qtv cs x h
  rw [this]
 inj := fun c x y h => by
  cases c
  ·exact qa4 x y h
  ·exact qtr x y h
  ·exact q4b x y h
  ·exact qp0 x y h
  ·exact qx4 x y h
  ·exact inj_b x y h
  ·exact q6p x y h
  ·exact qn3 x y h
  ·exact qam x y h
  ·exact qj9 x y h
  ·exact qcn x y h
  ·exact ql0 x y h
  ·exact qts x y h
  ·exact qqy x y h
 len := fun c x => by cases c <;> rfl
 pos := fun c => by cases c <;> decide
 one := fun c h => by cases c <;> first | rfl | cases h
 elem := qpi Tryz.prog qt4 (by kernel_rfl)
def y0y : List (Nat × List (OT sig)) := [(7,[.lf .b]),(4,[.lf .b]),(6,[.lf .b]),(3,[.lf .b]),(5,[.lf .b]),(29,[.lf .b]),(16,[.lf .b]),(30,[.lf .b]),(31,[.lf .b]),(8,[.ptr 0 0]),(32,[.ag .Voter]),(26,[.ag .Message]),(33,[.ag .Voter]),(17,[.ag .Voter, .lf .b]),(10,[.ag .Trust]),(9,[.ag .Voter, .lf (.i .i64)]),(11,[.ag .Voter, .lf (.i .i64)]),(12,[.lf (.i .i64)]),(18,[.lf (.l .Claim)]),(14,[.ag .Voter, .lf (.i .i64)]),(19,[.lf (.l .Claim)]),(77,[.lf .b]),(37,[.ag .Message]),(78,[.lf (.i .i64)]),(44,[.ag .Voter, .lf (.i .i64)]),(73,[.lf (.i .i64)]),(74,[.lf (.l .Claim)]),(79,[.lf (.i .i64)]),(80,[.ag .Trust]),(41,[.ag .Message]),(47,[.ag .Trust]),(48,[.lf (.i .i64)]),(45,[.lf (.i .i64)]),(46,[.ag .Trust]),(34,[.lf .b]),(49,[.lf .b]),(52,[.lf .b]),(53,[.lf .b]),(54,[.ag .Voter]),(55,[.lf (.l .Claim)]),(56,[.ag .Voter]),(57,[.lf .b]),(58,[.lf (.i .i64), .lf .b]),(61,[.ref 0]),(62,[.lf (.l .Message)]),(65,[.lf (.l .Message)]),(86,[.ag .Message]),(85,[.ag .Message]),(13,[.lf (.l .i64)]),(97,[.lf (.i .i64)]),(98,[.lf (.i .i64)]),(99,[.lf (.i .i64)]),(93,[.lf (.i .i64)]),(94,[.lf (.i .i64)]),(95,[.lf (.i .i64)]),(96,[.ref 0]),(81,[.lf .b]),(82,[.lf .b]),(100,[.lf (.i .i64)]),(101,[.lf .b]),(102,[.ref 0]),(103,[.lf (.l .Claim)]),(104,[.ag .Voter]),(75,[.lf .b]),(88,[.lf .b]),(105,[.lf .b]),(21,[.ag .Message]),(118,[.lf .b]),(121,[.lf (.i .i64), .lf (.i .i64)]),(123,[.lf (.i .i64)]),(125,[.ref 0]),(124,[.lf (.l .Claim)]),(126,[.ag .Config]),(127,[.ag .Claim, .lf .b]),(113,[.lf .b]),(114,[.lf .b]),(134,[.lf (.i .i64)]),(136,[.ref 0]),(138,[]),(139,[.lf (.l .Claim)]),(142,[.lf (.l .Claim)]),(151,[.lf (.i .i64)]),(150,[]),(165,[.lf (.i .i64)]),(35,[.lf .b]),(36,[.lf .b]),(38,[.lf .b]),(28,[.lf .b]),(39,[.ag .Claim]),(84,[.lf .b]),(64,[.lf .b]),(76,[.lf .b]),(15,[.lf .b]),(87,[.lf .b]),(89,[.lf .b]),(115,[.lf .b]),(27,[.ag .Voter, .lf (.i .i64)]),(20,[.lf .b]),(25,[.lf .b]),(40,[.ag .Voter, .lf (.i .i64)]),(43,[.ag .Voter, .lf (.i .i64)]),(42,[.ag .Voter, .lf (.i .i64)]),(90,[.lf .b]),(66,[.lf (.l .Claim)]),(92,[.ag .Voter]),(72,[.lf .b]),(63,[.lf .b]),(59,[.lf (.i .i64)]),(60,[.lf (.i .i64)]),(106,[.lf .b]),(122,[.lf (.i .i64), .lf (.i .i64)]),(116,[.lf (.i .i64)]),(133,[.lf (.i .i64)]),(50,[.lf .b]),(51,[.lf .b]),(135,[.lf .b]),(149,[.lf .b]),(155,[.lf .b]),(83,[.lf .b]),(141,[.ag .Trust]),(144,[.lf (.i .i64)]),(129,[.lf (.i .i64)]),(143,[.lf .b]),(146,[.lf (.i .i64)]),(152,[.lf .b]),(145,[.lf (.i .i64)]),(166,[.lf (.i .i64)]),(167,[.lf .b]),(154,[.lf (.i .i64), .lf (.l .i64)]),(119,[.lf .b]),(120,[.lf .b]),(137,[.lf .b]),(156,[]),(157,[]),(158,[]),(159,[.lf (.i .i64), .lf (.i .i64)]),(160,[]),(161,[.lf .b]),(162,[.lf (.i .i64)]),(163,[.lf (.i .i64), .lf .b]),(170,[.lf (.i .u64)]),(172,[.lf (.i .i64)]),(173,[.lf (.i .i64)]),(176,[.lf (.i .i64), .lf (.i .i64)]),(117,[.lf (.i .i64)]),(23,[.ag .Config]),(24,[.lf (.i .i64)]),(22,[.lf .b]),(71,[.lf (.i .i64)]),(70,[.lf .b]),(109,[.lf .b]),(111,[.lf (.i .i64)]),(112,[.lf (.l .i64)]),(67,[.lf .b]),(69,[.lf (.i .i64)]),(68,[.lf .b]),(110,[.lf .b]),(131,[.lf .b]),(91,[.lf (.l .Claim)]),(128,[.lf .b]),(153,[.lf (.l .Claim)]),(147,[.lf (.l .Claim)]),(168,[.lf (.i .i64), .lf .b]),(174,[.lf (.l .i64)]),(169,[]),(171,[.lf (.i .u64)]),(132,[.lf (.l .i64)]),(175,[.lf .b])]
def qze : List (Nat × List (List (OT sig))) := [(8,[[.lf (.l .i64), .lf (.i .i64)]]),(61,[[.own .Message false]]),(96,[[.own .i64 false]]),(102,[[.own .Claim false]]),(125,[[.own .Claim false]])]
noncomputable def tn : TEn := { E := env, S := sig, res := look1 [] y0y, news := look1 [] qze, outs := fun f => if List.contains [62,139] f then some [[.undef]] else none, cut := fun _ _ => false }
def qe6 (fn : Func) : Code := match fn.body with | some c => c | none => .skip
def q0d (fn : Func) (p : List Nat) : Code := qh2 p (qe6 fn)
def y1y (fn : Func) (p ms : List Nat) : List Fr := qfl p (qe6 fn) ms []
abbrev o0' : OSpec sig := ⟨[.lf .b],[]⟩
abbrev o1' : OSpec sig := ⟨[.lf (.i .i64)],[]⟩
abbrev o2' : OSpec sig := ⟨[],[[.own .Claim false]]⟩
abbrev o3' : OSpec sig := ⟨[.lf (.i .i64), .lf .b],[[.own .Claim false]]⟩
abbrev o4' : OSpec sig := ⟨[.lf (.l .Claim)],[]⟩
abbrev o5' : OSpec sig := ⟨[.lf (.i .i64)],[[.own .Claim false]]⟩
abbrev o6' : OSpec sig := ⟨[.ag .Voter],[]⟩
abbrev o7' : OSpec sig := ⟨[.lf .b],[[.own .Claim false]]⟩
abbrev o8' : OSpec sig := ⟨[.ag .Trust],[[.lf (.l .i64), .lf (.i .i64)]]⟩
abbrev o9' : OSpec sig := ⟨[.ag .Trust],[]⟩
abbrev o10' : OSpec sig := ⟨[.lf (.i .i64), .lf .b],[]⟩
abbrev o11' : OSpec sig := ⟨[.lf (.i .i64), .lf (.i .i64)],[]⟩
abbrev o12' : OSpec sig := ⟨[.ag .Voter, .lf (.i .i64)],[]⟩
abbrev o13' : OSpec sig := ⟨[.lf (.i .i64)],[[.lf (.l .i64), .lf (.i .i64)]]⟩
abbrev o14' : OSpec sig := ⟨[.ag .Message],[]⟩
abbrev o15' : OSpec sig := ⟨[.lf (.l .i64)],[[.lf (.l .i64), .lf (.i .i64)]]⟩
abbrev o16' : OSpec sig := ⟨[.ref 0],[[.own .Claim false]]⟩
abbrev o17' : OSpec sig := ⟨[.lf .b],[[.lf (.i .i64), .lf (.i .i64)]]⟩
abbrev o18' : OSpec sig := ⟨[.lf .b],[[.lf (.i .i64), .lf (.i .i64), .lf (.i .i64), .lf (.l .i64), .lf (.l .Trust), .lf (.l .Claim), .lf (.l .Claim), .lf (.l .Claim), .lf (.l .Message)]]⟩
abbrev o19' : OSpec sig := ⟨[.lf (.i .i64)],[[.lf (.i .i64), .lf (.i .i64)]]⟩
abbrev o20' : OSpec sig := ⟨[.lf (.i .i64)],[[.lf (.i .i64), .lf (.i .i64), .lf (.i .i64), .lf (.l .i64), .lf (.l .Trust), .lf (.l .Claim), .lf (.l .Claim), .lf (.l .Claim), .lf (.l .Message)]]⟩
abbrev o21' : OSpec sig := ⟨[.ag .Config],[]⟩
abbrev o22' : OSpec sig := ⟨[.ag .Claim, .lf .b],[]⟩
abbrev o23' : OSpec sig := ⟨[.lf (.i .i64), .lf (.l .i64)],[]⟩
abbrev o24' : OSpec sig := ⟨[.lf (.i .i64)],[[.own .Claim false],[.lf (.i .i64)]]⟩
abbrev o25' : OSpec sig := ⟨[.lf (.l .i64)],[]⟩
abbrev o26' : OSpec sig := ⟨[.ptr 0 0],[[.lf (.l .i64), .lf (.i .i64)]]⟩
abbrev o27' : OSpec sig := ⟨[.lf (.i .i64), .lf (.i .i64)],[[.own .Claim false]]⟩
abbrev o28' : OSpec sig := ⟨[.lf (.i .i64), .lf (.i .i64)],[[.own .Claim false],[.lf (.i .i64)]]⟩
abbrev o29' : OSpec sig := ⟨[.lf (.i .u64)],[[.lf (.i .u64)]]⟩
def eL {α : Type} (b a : Option α) : Prop := ∀ r, a = some r → b = some r
theorem cL {f : FuncId} {fn : Func} {vs : List (TL sig)} {hs : THeap sig} (o : OSpec sig) (hf : Tryz.prog.funcs[f]? = some fn) {p : Option o.Out} (hok : env.ok f = true := by kernel_rfl) (hb : fn.body = some (qe6 fn) := by kernel_rfl) (hn0 : (decide (vs.length ≤ fn.ntmps) && (q5t Tryz.prog fn (qe6 fn)).isNone && (env.seek f).isNone && (env.lib f).isNone) = true := by kernel_rfl) (h : te tn ⟨f, fn, hs.length⟩ o 100000 (qe6 fn) [] ⟨bindT 0 vs, hs⟩ = p := by kernel_rfl) : eL (callC tn f vs hs o) p := qx2 (T := tn) sigOk 100000 hok hf hb hn0 h
theorem gL {F : Fx} (o : OSpec sig) (b : Code) {c : Code} {K : List Fr} {s : TSt sig} {p : Option o.Out} (hc : c = .loop b := by kernel_rfl) (h : te tn F o 100000 b (.loop b s.heap.length :: K) s = p := by kernel_rfl) : eL (goC tn F o c K s) p := qrg (T := tn) sigOk 100000 hc h
end Go.Proofs.YthbpagedblodfaaGreat
