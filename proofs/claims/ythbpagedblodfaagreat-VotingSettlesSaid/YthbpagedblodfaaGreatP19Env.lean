/- The seat's program for the machines. -/
import Derived.Test.YthbpagedblodfaaGreatP19An
import Derived.Test.YthbpagedblodfaaGreatMachT
import Derived.Test.YthbpagedblodfaaGreatChecked
namespace Go.Proofs.YthbpagedblodfaaGreat
open Go Go.Ab
def look1 {α : Type} (d : α) : List (Nat × α) → Nat → α
 | [], _ => d
 | (k, v) :: r, t => if k = t then v else look1 d r t
def an : An := { flag := fun f t => if (look1 [] y4b f).contains t then .keep else .view, clear := fun f => look1 [] (look1 [] y2m f), mode := fun f => look1 0 (look1 [] y4a f), order := fun f => look1 [] (look1 [] y25 f), own := fun f => anOwn.contains f }
def lastF : Nat := 176
def badF : List Nat := [107]
def okF (h : Nat) : Bool := decide (2 ≤ h ∧ h ≤ lastF) && !badF.contains h
noncomputable def qvu : List (Nat × Option (List AV → Heap → Option (AV × Heap))) := [(62, some (q6y 7)),(82, some q3d),(125, some (q6g 2)),(139, some (q59 2))]
noncomputable def env : Env0 := { P := Tryz.prog, glob := fun _ => none, an := an, ok := okF, lib := look1 none qvu }
structure Claim where
 Topic : Int
 Value : Int
structure Tape where
 l : List (Int)
 at_ : Int
structure Trust where
 Threshold : Int
 Nodes : List (Int)
 Inner : List (Trust)
structure Message where
 Node : Int
 Seq : Int
 Trust : Trust
 Votes : List (Claim)
 Accepts : List (Claim)
structure Member where
 Declared : Bool
 Trust : Trust
structure Voter where
 Node : Int
 Seq : Int
 Trust : Trust
 Votes : List (Claim)
 Accepts : List (Claim)
 Confirms : List (Claim)
 Heard : List (Message)
structure Config where
 Members : List (Member)
inductive TC where
 | i64 | l_i64 | Claim | l_Claim | Tape | b | Trust | l_Trust | Message | l_Message | Member | l_Member | Voter | Config
 deriving DecidableEq
def Ty : TC → Type
 | .i64 => Int
 | .l_i64 => List (Int)
 | .Claim => Claim
 | .l_Claim => List (Claim)
 | .Tape => Tape
 | .b => Bool
 | .Trust => Trust
 | .l_Trust => List (Trust)
 | .Message => Message
 | .l_Message => List (Message)
 | .Member => Member
 | .l_Member => List (Member)
 | .Voter => Voter
 | .Config => Config
abbrev Lv := Leaf TC Ty
def asL (c : TC) : Lv → Option (List (Ty c))
 | .l c' xs => if h : c' = c then some (h ▸ xs) else none
 | _ => none
theorem q3j {c : TC} {x : Lv} {xs : List (Ty c)} (h : asL c x = some xs) : x = .l c xs := by
 cases x with
 | l c' ys =>
  simp only [asL] at h;split at h
  ·rename_i hc;subst hc;cases h; rfl
  ·cases h
 | _ => cases h
def q77 (x : Int) : D := .v (.int .i64 x)
theorem qal (x y : Int) (h : q77 x = q77 y) : x = y := q4n h
def qlc (x : Int) : List Lv := [.i .i64 x]
def qb3 : List Lv → Option (Int)
 | [.i .i64 x] => some x
 | _ => none
theorem y5z (cs : List Lv) (x : Int) (h : qb3 cs = some x) : qlc x = cs := by
 unfold qb3 at h;split at h
 ·cases h; rfl
 ·cases h
def qhj (x : List (Int)) : D := .list (x.map q77)
theorem quy (x y : List (Int)) (h : qhj x = qhj y) : x = y := q1j qal h
def qhr (x : List (Int)) : List Lv := [.l .i64 x]
def qca : List Lv → Option (List (Int))
 | [x] => asL .i64 x
 | _ => none
theorem qxs : ∀ (cs : List Lv) (x : List (Int)), qca cs = some x → qhr x = cs
 | [y], x, h => by rw [q3j (c := .i64) (x := y) (xs := x) h]; rfl
 | [], x, h => by
  have h' : (none : Option (List (Int))) = some x := h;cases h'
 | _ :: _ :: _, x, h => by
  have h' : (none : Option (List (Int))) = some x := h;cases h'
def q0m (x : Claim) : D := .agg [.v (.int .i64 (x.Topic)), .v (.int .i64 (x.Value))]
theorem q4h : ∀ x y : Claim, q0m x = q0m y → x = y
 | ⟨a0, a1⟩, ⟨b0, b1⟩, h => by
  simp only [q0m, D.agg.injEq, List.cons.injEq, and_true] at h;obtain ⟨h0, h1⟩ := h;have e0 : a0 = b0 := q4n h0;have e1 : a1 = b1 := q4n h1;rw [e0, e1]
def qgr (x : Claim) : List Lv := [.i .i64 x.Topic, .i .i64 x.Value]
def q7t : List Lv → Option Claim
 | [.i .i64 a0, .i .i64 a1] => some (Claim.mk a0 a1)
 | _ => none
theorem qz7 (cs : List Lv) (x : Claim) (h : q7t cs = some x) : qgr x = cs := by
 unfold q7t at h;split at h
 ·cases h; rfl
 ·cases h
def qai (x : List (Claim)) : D := .list (x.map q0m)
theorem qps (x y : List (Claim)) (h : qai x = qai y) : x = y := q1j q4h h
def qbe (x : List (Claim)) : List Lv := [.l .Claim x]
def q8o : List Lv → Option (List (Claim))
 | [x] => asL .Claim x
 | _ => none
theorem qsp : ∀ (cs : List Lv) (x : List (Claim)), q8o cs = some x → qbe x = cs
 | [y], x, h => by rw [q3j (c := .Claim) (x := y) (xs := x) h]; rfl
 | [], x, h => by
  have h' : (none : Option (List (Claim))) = some x := h;cases h'
 | _ :: _ :: _, x, h => by
  have h' : (none : Option (List (Claim))) = some x := h;cases h'
def qfg (x : Tape) : D := .agg [.list (((x.l)).map q77), .v (.int .i64 (x.at_))]
theorem qxw : ∀ x y : Tape, qfg x = qfg y → x = y
 | ⟨a0, a1⟩, ⟨b0, b1⟩, h => by
  simp only [qfg, D.agg.injEq, List.cons.injEq, and_true] at h;obtain ⟨h0, h1⟩ := h;have e0 : a0 = b0 := q1j qal h0;have e1 : a1 = b1 := q4n h1;rw [e0, e1]
def qj7 (x : Tape) : List Lv := [.l .i64 x.l, .i .i64 x.at_]
def q8q : List Lv → Option Tape
 | [l0, .i .i64 a1] => match asL .i64 l0 with
  | some m0 => some (Tape.mk m0 a1)
  | _ => none
 | _ => none
theorem y39 (cs : List Lv) (x : Tape) (h : q8q cs = some x) : qj7 x = cs := by
 unfold q8q at h;split at h
 ·split at h
  ·rename_i m0 h0;cases q3j h0;cases h; rfl
  ·cases h
 ·cases h
def enc_b (x : Bool) : D := .v (.bool x)
theorem inj_b (x y : Bool) (h : enc_b x = enc_b y) : x = y := qrq h
def quk (x : Bool) : List Lv := [.b x]
def qgj : List Lv → Option (Bool)
 | [.b x] => some x
 | _ => none
theorem of_b (cs : List Lv) (x : Bool) (h : qgj cs = some x) : quk x = cs := by
 unfold qgj at h;split at h
 ·cases h; rfl
 ·cases h
mutual
def q2n : Trust → D
 | ⟨a0, a1, a2⟩ => .agg [.v (.int .i64 a0), .list ((a1).map q77), .list (q39 a2)]
def q39 : List Trust → List D
 | [] => []
 | x :: r => q2n x :: q39 r
end
theorem qbo : ∀ l : List Trust, q39 l = l.map q2n
 | [] => rfl
 | x :: r => by simp only [q39, qbo r, List.map_cons]
mutual
theorem q6j : ∀ x y : Trust, q2n x = q2n y → x = y
 | ⟨a0, a1, a2⟩, ⟨b0, b1, b2⟩, h => by
  simp only [q2n, D.agg.injEq, List.cons.injEq, and_true] at h;obtain ⟨h0, h1, h2⟩ := h;have e0 : a0 = b0 := q4n h0;have e1 : a1 = b1 := q1j qal h1;have e2 : a2 = b2 := qjo _ _ (D.list.inj h2);rw [e0, e1, e2]
theorem qjo : ∀ x y : List Trust, q39 x = q39 y → x = y
 | [], [], _ => rfl
 | [], _ :: _, h => by simp [q39] at h
 | _ :: _, [], h => by simp [q39] at h
 | x :: r, y :: r', h => by
  simp only [q39, List.cons.injEq] at h;rw [q6j x y h.1, qjo r r' h.2]
end
def qau (x : Trust) : List Lv := [.i .i64 x.Threshold, .l .i64 x.Nodes, .l .Trust x.Inner]
def q7y : List Lv → Option Trust
 | [.i .i64 a0, l1, l2] => match asL .i64 l1, asL .Trust l2 with
  | some m1, some m2 => some (Trust.mk a0 m1 m2)
  | _, _ => none
 | _ => none
theorem qyd (cs : List Lv) (x : Trust) (h : q7y cs = some x) : qau x = cs := by
 unfold q7y at h;split at h
 ·split at h
  ·rename_i m1 m2 h1 h2;cases q3j h1;cases q3j h2;cases h; rfl
  ·cases h
 ·cases h
def qaw (x : List (Trust)) : D := .list (x.map q2n)
theorem qpv (x y : List (Trust)) (h : qaw x = qaw y) : x = y := q1j q6j h
def qcv (x : List (Trust)) : List Lv := [.l .Trust x]
def q9d : List Lv → Option (List (Trust))
 | [x] => asL .Trust x
 | _ => none
theorem qt5 : ∀ (cs : List Lv) (x : List (Trust)), q9d cs = some x → qcv x = cs
 | [y], x, h => by rw [q3j (c := .Trust) (x := y) (xs := x) h]; rfl
 | [], x, h => by
  have h' : (none : Option (List (Trust))) = some x := h;cases h'
 | _ :: _ :: _, x, h => by
  have h' : (none : Option (List (Trust))) = some x := h;cases h'
def q1e (x : Message) : D := .agg [.v (.int .i64 (x.Node)), .v (.int .i64 (x.Seq)), .v (.int .i64 (x.Trust.Threshold)), .list (((x.Trust.Nodes)).map q77), .list (((x.Trust.Inner)).map q2n), .list (((x.Votes)).map q0m), .list (((x.Accepts)).map q0m)]
theorem qb0 : ∀ x y : Message, q1e x = q1e y → x = y
 | ⟨a0, a1, ⟨a2, a3, a4⟩, a5, a6⟩, ⟨b0, b1, ⟨b2, b3, b4⟩, b5, b6⟩, h => by
  simp only [q1e, D.agg.injEq, List.cons.injEq, and_true] at h;obtain ⟨h0, h1, h2, h3, h4, h5, h6⟩ := h;have e0 : a0 = b0 := q4n h0;have e1 : a1 = b1 := q4n h1;have e2 : a2 = b2 := q4n h2;have e3 : a3 = b3 := q1j qal h3;have e4 : a4 = b4 := q1j q6j h4;have e5 : a5 = b5 := q1j q4h h5;have e6 : a6 = b6 := q1j q4h h6;rw [e0, e1, e2, e3, e4, e5, e6]
def qcr (x : Message) : List Lv := [.i .i64 x.Node, .i .i64 x.Seq, .i .i64 x.Trust.Threshold, .l .i64 x.Trust.Nodes, .l .Trust x.Trust.Inner, .l .Claim x.Votes, .l .Claim x.Accepts]
def q5n : List Lv → Option Message
 | [.i .i64 a0, .i .i64 a1, .i .i64 a2, l3, l4, l5, l6] => match asL .i64 l3, asL .Trust l4, asL .Claim l5, asL .Claim l6 with
  | some m3, some m4, some m5, some m6 => some (Message.mk a0 a1 (Trust.mk a2 m3 m4) m5 m6)
  | _, _, _, _ => none
 | _ => none
theorem qsw (cs : List Lv) (x : Message) (h : q5n cs = some x) : qcr x = cs := by
 unfold q5n at h;split at h
 ·split at h
  ·rename_i m3 m4 m5 m6 h3 h4 h5 h6;cases q3j h3;cases q3j h4;cases q3j h5;cases q3j h6;cases h; rfl
  ·cases h
 ·cases h
def q7p (x : List (Message)) : D := .list (x.map q1e)
theorem ql9 (x y : List (Message)) (h : q7p x = q7p y) : x = y := q1j qb0 h
def q8j (x : List (Message)) : List Lv := [.l .Message x]
def q6z : List Lv → Option (List (Message))
 | [x] => asL .Message x
 | _ => none
theorem qmf : ∀ (cs : List Lv) (x : List (Message)), q6z cs = some x → q8j x = cs
 | [y], x, h => by rw [q3j (c := .Message) (x := y) (xs := x) h]; rfl
 | [], x, h => by
  have h' : (none : Option (List (Message))) = some x := h;cases h'
 | _ :: _ :: _, x, h => by
  have h' : (none : Option (List (Message))) = some x := h;cases h'
def q5e (x : Member) : D := .agg [.v (.bool (x.Declared)), .v (.int .i64 (x.Trust.Threshold)), .list (((x.Trust.Nodes)).map q77), .list (((x.Trust.Inner)).map q2n)]
theorem qd9 : ∀ x y : Member, q5e x = q5e y → x = y
 | ⟨a0, ⟨a1, a2, a3⟩⟩, ⟨b0, ⟨b1, b2, b3⟩⟩, h => by
  simp only [q5e, D.agg.injEq, List.cons.injEq, and_true] at h;obtain ⟨h0, h1, h2, h3⟩ := h;have e0 : a0 = b0 := qrq h0;have e1 : a1 = b1 := q4n h1;have e2 : a2 = b2 := q1j qal h2;have e3 : a3 = b3 := q1j q6j h3;rw [e0, e1, e2, e3]
def qeb (x : Member) : List Lv := [.b x.Declared, .i .i64 x.Trust.Threshold, .l .i64 x.Trust.Nodes, .l .Trust x.Trust.Inner]
def q64 : List Lv → Option Member
 | [.b a0, .i .i64 a1, l2, l3] => match asL .i64 l2, asL .Trust l3 with
  | some m2, some m3 => some (Member.mk a0 (Trust.mk a1 m2 m3))
  | _, _ => none
 | _ => none
theorem qub (cs : List Lv) (x : Member) (h : q64 cs = some x) : qeb x = cs := by
 unfold q64 at h;split at h
 ·split at h
  ·rename_i m2 m3 h2 h3;cases q3j h2;cases q3j h3;cases h; rfl
  ·cases h
 ·cases h
def q8n (x : List (Member)) : D := .list (x.map q5e)
theorem qn1 (x y : List (Member)) (h : q8n x = q8n y) : x = y := q1j qd9 h
def qa2 (x : List (Member)) : List Lv := [.l .Member x]
def q85 : List Lv → Option (List (Member))
 | [x] => asL .Member x
 | _ => none
theorem qoc : ∀ (cs : List Lv) (x : List (Member)), q85 cs = some x → qa2 x = cs
 | [y], x, h => by rw [q3j (c := .Member) (x := y) (xs := x) h]; rfl
 | [], x, h => by
  have h' : (none : Option (List (Member))) = some x := h;cases h'
 | _ :: _ :: _, x, h => by
  have h' : (none : Option (List (Member))) = some x := h;cases h'
def qcz (x : Voter) : D := .agg [.v (.int .i64 (x.Node)), .v (.int .i64 (x.Seq)), .v (.int .i64 (x.Trust.Threshold)), .list (((x.Trust.Nodes)).map q77), .list (((x.Trust.Inner)).map q2n), .list (((x.Votes)).map q0m), .list (((x.Accepts)).map q0m), .list (((x.Confirms)).map q0m), .list (((x.Heard)).map q1e)]
theorem quc : ∀ x y : Voter, qcz x = qcz y → x = y
 | ⟨a0, a1, ⟨a2, a3, a4⟩, a5, a6, a7, a8⟩, ⟨b0, b1, ⟨b2, b3, b4⟩, b5, b6, b7, b8⟩, h => by
  simp only [qcz, D.agg.injEq, List.cons.injEq, and_true] at h;obtain ⟨h0, h1, h2, h3, h4, h5, h6, h7, h8⟩ := h;have e0 : a0 = b0 := q4n h0;have e1 : a1 = b1 := q4n h1;have e2 : a2 = b2 := q4n h2;have e3 : a3 = b3 := q1j qal h3;have e4 : a4 = b4 := q1j q6j h4;have e5 : a5 = b5 := q1j q4h h5;have e6 : a6 = b6 := q1j q4h h6;have e7 : a7 = b7 := q1j q4h h7;have e8 : a8 = b8 := q1j qb0 h8;rw [e0, e1, e2, e3, e4, e5, e6, e7, e8]
def qhb (x : Voter) : List Lv := [.i .i64 x.Node, .i .i64 x.Seq, .i .i64 x.Trust.Threshold, .l .i64 x.Trust.Nodes, .l .Trust x.Trust.Inner, .l .Claim x.Votes, .l .Claim x.Accepts, .l .Claim x.Confirms, .l .Message x.Heard]
def q7w : List Lv → Option Voter
 | [.i .i64 a0, .i .i64 a1, .i .i64 a2, l3, l4, l5, l6, l7, l8] => match asL .i64 l3, asL .Trust l4, asL .Claim l5, asL .Claim l6, asL .Claim l7, asL .Message l8 with
  | some m3, some m4, some m5, some m6, some m7, some m8 => some (Voter.mk a0 a1 (Trust.mk a2 m3 m4) m5 m6 m7 m8)
  | _, _, _, _, _, _ => none
 | _ => none
theorem qyk (cs : List Lv) (x : Voter) (h : q7w cs = some x) : qhb x = cs := by
 unfold q7w at h;split at h
 ·split at h
  ·rename_i m3 m4 m5 m6 m7 m8 h3 h4 h5 h6 h7 h8;cases q3j h3;cases q3j h4;cases q3j h5;cases q3j h6;cases q3j h7;cases q3j h8;cases h; rfl
  ·cases h
 ·cases h
def q9v (x : Config) : D := .agg [.list (((x.Members)).map q5e)]
theorem qtc : ∀ x y : Config, q9v x = q9v y → x = y
 | ⟨a0⟩, ⟨b0⟩, h => by
  simp only [q9v, D.agg.injEq, List.cons.injEq, and_true] at h;have h0 := h;have e0 : a0 = b0 := q1j qd9 h0;rw [e0]
def qew (x : Config) : List Lv := [.l .Member x.Members]
def q66 : List Lv → Option Config
 | [l0] => match asL .Member l0 with
  | some m0 => some (Config.mk m0)
  | _ => none
 | _ => none
theorem qxa (cs : List Lv) (x : Config) (h : q66 cs = some x) : qew x = cs := by
 unfold q66 at h;split at h
 ·split at h
  ·rename_i m0 h0;cases q3j h0;cases h; rfl
  ·cases h
 ·cases h
def encT : (c : TC) → Ty c → D
 | .i64 => q77
 | .l_i64 => qhj
 | .Claim => q0m
 | .l_Claim => qai
 | .Tape => qfg
 | .b => enc_b
 | .Trust => q2n
 | .l_Trust => qaw
 | .Message => q1e
 | .l_Message => q7p
 | .Member => q5e
 | .l_Member => q8n
 | .Voter => qcz
 | .Config => q9v
def y3l : (c : TC) → Ty c → List Lv
 | .i64 => qlc
 | .l_i64 => qhr
 | .Claim => qgr
 | .l_Claim => qbe
 | .Tape => qj7
 | .b => quk
 | .Trust => qau
 | .l_Trust => qcv
 | .Message => qcr
 | .l_Message => q8j
 | .Member => qeb
 | .l_Member => qa2
 | .Voter => qhb
 | .Config => qew
def qyw : (c : TC) → List Lv → Option (Ty c)
 | .i64 => qb3
 | .l_i64 => qca
 | .Claim => q7t
 | .l_Claim => q8o
 | .Tape => q8q
 | .b => qgj
 | .Trust => q7y
 | .l_Trust => q9d
 | .Message => q5n
 | .l_Message => q6z
 | .Member => q64
 | .l_Member => q85
 | .Voter => q7w
 | .Config => q66
def aggF : TC → Bool
 | .i64 => false
 | .l_i64 => false
 | .Claim => true
 | .l_Claim => false
 | .Tape => true
 | .b => false
 | .Trust => true
 | .l_Trust => false
 | .Message => true
 | .l_Message => false
 | .Member => true
 | .l_Member => false
 | .Voter => true
 | .Config => true
def sizeF : TC → Nat
 | .i64 => 1
 | .l_i64 => 1
 | .Claim => 2
 | .l_Claim => 1
 | .Tape => 2
 | .b => 1
 | .Trust => 3
 | .l_Trust => 1
 | .Message => 7
 | .l_Message => 1
 | .Member => 4
 | .l_Member => 1
 | .Voter => 9
 | .Config => 1
def qty : List (TypeId × TC × TypeId) := [(22, .i64,3),(25, .Trust, 27),(28, .Claim, 38),(29, .Message, 40),(54, .Member, 96),(68, .Voter, 31),(129, .l_Claim, 28)]
def qyb : List (TypeId × List (Option TC)) := [(22,[some .i64]),(25,[some .Trust]),(26,[none, some .i64, some .Trust]),(27,[none, some .i64, some .Trust]),(28,[some .Claim]),(29,[some .Message]),(30,[none, none, none, some .i64, some .Trust, some .Claim, some .Claim, some .Claim, some .Message]),(31,[none, none, none, some .i64, some .Trust, some .Claim, some .Claim, some .Claim, some .Message]),(39,[none, none, none, some .i64, some .Trust, some .Claim, some .Claim]),(40,[none, none, none, some .i64, some .Trust, some .Claim, some .Claim]),(54,[some .Member]),(55,[some .Member]),(56,[some .Member]),(68,[some .Voter]),(73,[some .i64, none]),(74,[some .i64, none]),(95,[none, none, some .i64, some .Trust]),(96,[none, none, some .i64, some .Trust]),(129,[some .l_Claim])]
def elemF : List (TypeId × TC × TypeId) → TypeId → Option TC
 | [], _ => none
 | (u, c, _) :: r, t => if u = t then some c else elemF r t
def sig : Sig := { TC := TC, Ty := Ty, enc := encT, cells := y3l, ofCells := qyw, agg := aggF, size := sizeF, elem := elemF qty, lists := look1 [] qyb }
theorem qr1 (P : Program) : ∀ (tab : List (TypeId × TC × TypeId)), (tab.all fun p => q1z P p.1 == some p.2.2 && tyAgg P p.2.2 == some (aggF p.2.1) && q0i P p.2.2 == some (sizeF p.2.1)) = true → ∀ t c, elemF tab t = some c → ∃ e, q1z P t = some e ∧ tyAgg P e = some (aggF c) ∧ q0i P e = some (sizeF c)
 | [], _, _, _, h => by cases h
 | (u, d, e) :: r, ha, t, c, h => by
  simp only [List.all_cons, aT, beq_iff_eq] at ha;simp only [elemF] at h;split at h
  ·rename_i hu; cases h; subst hu; exact ⟨e, ha.1.1.1, ha.1.1.2, ha.1.2⟩
  ·exact qr1 P r ha.2 t c h
theorem qp4 (x : Trust) : sig.enc .Trust x = (packT (S := sig) true (qau x)).toD := by
 cases x;show q2n _ = _;simp only [q2n, qbo];rfl
theorem sigOk : sig.Ok Tryz.prog where
 enc_eq := fun c x => by cases c <;> first | rfl | exact qp4 x
 of_eq := fun c cs x h => by
  have : sig.cells c x = cs := by
   cases c
   ·exact y5z cs x h
   ·exact qxs cs x h
   ·exact qz7 cs x h
   ·exact qsp cs x h
   ·exact y39 cs x h
   ·exact of_b cs x h
   ·exact qyd cs x h
   ·exact qt5 cs x h
   ·exact qsw cs x h
   ·exact qmf cs x h
   ·exact qub cs x h
   ·exact qoc cs x h
   ·exact qyk cs x h
   ·exact qxa cs x h
  rw [this]
 inj := fun c x y h => by
  cases c
  ·exact qal x y h
  ·exact quy x y h
  ·exact q4h x y h
  ·exact qps x y h
  ·exact qxw x y h
  ·exact inj_b x y h
  ·exact q6j x y h
  ·exact qpv x y h
  ·exact qb0 x y h
  ·exact ql9 x y h
  ·exact qd9 x y h
  ·exact qn1 x y h
  ·exact quc x y h
  ·exact qtc x y h
 len := fun c x => by cases c <;> rfl
 pos := fun c => by cases c <;> decide
 one := fun c h => by cases c <;> first | rfl | cases h
 elem := qr1 Tryz.prog qty (by kernel_rfl)
def y4y : List (Nat × List (OT sig)) := [(7,[.lf .b]),(4,[.lf .b]),(6,[.lf .b]),(3,[.lf .b]),(5,[.lf .b]),(29,[.lf .b]),(16,[.lf .b]),(30,[.lf .b]),(31,[.lf .b]),(8,[.ptr 0 0]),(32,[.ag .Voter]),(26,[.ag .Message]),(33,[.ag .Voter]),(17,[.ag .Voter, .lf .b]),(10,[.ag .Trust]),(9,[.ag .Voter, .lf (.i .i64)]),(11,[.ag .Voter, .lf (.i .i64)]),(12,[.lf (.i .i64)]),(18,[.lf (.l .Claim)]),(14,[.ag .Voter, .lf (.i .i64)]),(19,[.lf (.l .Claim)]),(77,[.lf .b]),(37,[.ag .Message]),(78,[.lf (.i .i64)]),(44,[.ag .Voter, .lf (.i .i64)]),(73,[.lf (.i .i64)]),(74,[.lf (.l .Claim)]),(79,[.lf (.i .i64)]),(80,[.ag .Trust]),(41,[.ag .Message]),(47,[.ag .Trust]),(48,[.lf (.i .i64)]),(45,[.lf (.i .i64)]),(46,[.ag .Trust]),(34,[.lf .b]),(49,[.lf .b]),(52,[.lf .b]),(53,[.lf .b]),(54,[.ag .Voter]),(55,[.lf (.l .Claim)]),(56,[.ag .Voter]),(57,[.lf .b]),(58,[.lf (.i .i64), .lf .b]),(61,[.ref 0]),(62,[.lf (.l .Message)]),(65,[.lf (.l .Message)]),(86,[.ag .Message]),(85,[.ag .Message]),(13,[.lf (.l .i64)]),(97,[.lf (.i .i64)]),(98,[.lf (.i .i64)]),(99,[.lf (.i .i64)]),(93,[.lf (.i .i64)]),(94,[.lf (.i .i64)]),(95,[.lf (.i .i64)]),(96,[.ref 0]),(81,[.lf .b]),(82,[.lf .b]),(100,[.lf (.i .i64)]),(101,[.lf .b]),(102,[.ref 0]),(103,[.lf (.l .Claim)]),(104,[.ag .Voter]),(75,[.lf .b]),(88,[.lf .b]),(105,[.lf .b]),(21,[.ag .Message]),(118,[.lf .b]),(121,[.lf (.i .i64), .lf (.i .i64)]),(123,[.lf (.i .i64)]),(125,[.ref 0]),(124,[.lf (.l .Claim)]),(126,[.ag .Config]),(127,[.ag .Claim, .lf .b]),(113,[.lf .b]),(114,[.lf .b]),(134,[.lf (.i .i64)]),(136,[.ref 0]),(138,[]),(139,[.lf (.l .Claim)]),(142,[.lf (.l .Claim)]),(151,[.lf (.i .i64)]),(150,[]),(165,[.lf (.i .i64)]),(35,[.lf .b]),(36,[.lf .b]),(38,[.lf .b]),(28,[.lf .b]),(39,[.ag .Claim]),(84,[.lf .b]),(64,[.lf .b]),(76,[.lf .b]),(15,[.lf .b]),(87,[.lf .b]),(89,[.lf .b]),(115,[.lf .b]),(27,[.ag .Voter, .lf (.i .i64)]),(20,[.lf .b]),(25,[.lf .b]),(40,[.ag .Voter, .lf (.i .i64)]),(43,[.ag .Voter, .lf (.i .i64)]),(42,[.ag .Voter, .lf (.i .i64)]),(90,[.lf .b]),(66,[.lf (.l .Claim)]),(92,[.ag .Voter]),(72,[.lf .b]),(63,[.lf .b]),(59,[.lf (.i .i64)]),(60,[.lf (.i .i64)]),(106,[.lf .b]),(122,[.lf (.i .i64), .lf (.i .i64)]),(116,[.lf (.i .i64)]),(133,[.lf (.i .i64)]),(50,[.lf .b]),(51,[.lf .b]),(135,[.lf .b]),(149,[.lf .b]),(155,[.lf .b]),(83,[.lf .b]),(141,[.ag .Trust]),(144,[.lf (.i .i64)]),(129,[.lf (.i .i64)]),(143,[.lf .b]),(146,[.lf (.i .i64)]),(152,[.lf .b]),(145,[.lf (.i .i64)]),(166,[.lf (.i .i64)]),(167,[.lf .b]),(154,[.lf (.i .i64), .lf (.l .i64)]),(119,[.lf .b]),(120,[.lf .b]),(137,[.lf .b]),(156,[]),(157,[]),(158,[]),(159,[.lf (.i .i64), .lf (.i .i64)]),(160,[]),(161,[.lf .b]),(162,[.lf (.i .i64)]),(163,[.lf (.i .i64), .lf .b]),(170,[.lf (.i .u64)]),(172,[.lf (.i .i64)]),(173,[.lf (.i .i64)]),(176,[.lf (.i .i64), .lf (.i .i64)]),(117,[.lf (.i .i64)]),(23,[.ag .Config]),(24,[.lf (.i .i64)]),(22,[.lf .b]),(71,[.lf (.i .i64)]),(70,[.lf .b]),(109,[.lf .b]),(111,[.lf (.i .i64)]),(112,[.lf (.l .i64)]),(67,[.lf .b]),(69,[.lf (.i .i64)]),(68,[.lf .b]),(110,[.lf .b]),(131,[.lf .b]),(91,[.lf (.l .Claim)]),(128,[.lf .b]),(153,[.lf (.l .Claim)]),(147,[.lf (.l .Claim)]),(168,[.lf (.i .i64), .lf .b]),(174,[.lf (.l .i64)]),(169,[]),(171,[.lf (.i .u64)]),(132,[.lf (.l .i64)]),(175,[.lf .b])]
def y2i : List (Nat × List (List (OT sig))) := [(8,[[.lf (.l .i64), .lf (.i .i64)]]),(61,[[.own .Message false]]),(96,[[.own .i64 false]]),(102,[[.own .Claim false]]),(125,[[.own .Claim false]])]
noncomputable def tn : TEn := { E := env, S := sig, res := look1 [] y4y, news := look1 [] y2i, outs := fun f => if List.contains [62,139] f then some [[.undef]] else none, cut := fun _ _ => false }
def qdq (fn : Func) : Code := match fn.body with | some c => c | none => .skip
def q08 (fn : Func) (p : List Nat) : Code := qg6 p (qdq fn)
def y6a (fn : Func) (p ms : List Nat) : List Fr := qhg p (qdq fn) ms []
abbrev o0' : OSpec sig := ⟨[.lf .b],[]⟩
abbrev o1' : OSpec sig := ⟨[.lf (.i .i64)],[]⟩
abbrev o2' : OSpec sig := ⟨[],[[.own .Claim false]]⟩
abbrev o3' : OSpec sig := ⟨[.lf (.l .Claim)],[]⟩
abbrev o4' : OSpec sig := ⟨[.lf (.i .i64), .lf .b],[[.own .Claim false]]⟩
abbrev o5' : OSpec sig := ⟨[.lf (.l .i64)],[]⟩
abbrev o6' : OSpec sig := ⟨[.lf (.i .i64)],[[.own .Claim false]]⟩
abbrev o7' : OSpec sig := ⟨[.ag .Voter],[]⟩
abbrev o8' : OSpec sig := ⟨[.lf .b],[[.own .Claim false]]⟩
abbrev o9' : OSpec sig := ⟨[.ag .Trust],[[.lf (.l .i64), .lf (.i .i64)]]⟩
abbrev o10' : OSpec sig := ⟨[.ag .Voter, .lf (.i .i64)],[]⟩
abbrev o11' : OSpec sig := ⟨[.ag .Message],[]⟩
abbrev o12' : OSpec sig := ⟨[.ag .Trust],[]⟩
abbrev o13' : OSpec sig := ⟨[.lf (.i .i64), .lf .b],[]⟩
abbrev o14' : OSpec sig := ⟨[.lf (.i .i64), .lf (.i .i64)],[]⟩
abbrev o15' : OSpec sig := ⟨[.ag .Config],[]⟩
abbrev o16' : OSpec sig := ⟨[.lf (.i .i64)],[[.lf (.l .i64), .lf (.i .i64)]]⟩
abbrev o17' : OSpec sig := ⟨[.lf (.l .i64)],[[.lf (.l .i64), .lf (.i .i64)]]⟩
abbrev o18' : OSpec sig := ⟨[.ref 0],[[.own .Claim false]]⟩
abbrev o19' : OSpec sig := ⟨[.ag .Voter, .lf .b],[[.lf (.l .i64), .lf (.i .i64)]]⟩
abbrev o20' : OSpec sig := ⟨[.lf (.l .Claim)],[[.lf (.l .i64), .lf (.i .i64)]]⟩
abbrev o21' : OSpec sig := ⟨[.lf .b],[[.lf (.i .i64), .lf (.i .i64)]]⟩
abbrev o22' : OSpec sig := ⟨[.lf .b],[[.lf (.i .i64), .lf (.i .i64), .lf (.i .i64), .lf (.l .i64), .lf (.l .Trust), .lf (.l .Claim), .lf (.l .Claim), .lf (.l .Claim), .lf (.l .Message)]]⟩
abbrev o23' : OSpec sig := ⟨[.lf (.i .i64)],[[.lf (.i .i64), .lf (.i .i64)]]⟩
abbrev o24' : OSpec sig := ⟨[.lf (.i .i64)],[[.lf (.i .i64), .lf (.i .i64), .lf (.i .i64), .lf (.l .i64), .lf (.l .Trust), .lf (.l .Claim), .lf (.l .Claim), .lf (.l .Claim), .lf (.l .Message)]]⟩
abbrev o25' : OSpec sig := ⟨[.ag .Claim, .lf .b],[]⟩
abbrev o26' : OSpec sig := ⟨[.lf (.i .i64), .lf (.l .i64)],[]⟩
abbrev o27' : OSpec sig := ⟨[.lf (.i .i64)],[[.own .Claim false],[.lf (.i .i64)]]⟩
abbrev o28' : OSpec sig := ⟨[.ptr 0 0],[[.lf (.l .i64), .lf (.i .i64)]]⟩
abbrev o29' : OSpec sig := ⟨[.ag .Message],[[.lf (.l .i64), .lf (.i .i64)]]⟩
abbrev o30' : OSpec sig := ⟨[.ag .Claim],[[.lf (.l .i64), .lf (.i .i64)]]⟩
abbrev o31' : OSpec sig := ⟨[.lf (.i .i64), .lf (.i .i64)],[[.own .Claim false]]⟩
abbrev o32' : OSpec sig := ⟨[.lf (.i .i64), .lf (.i .i64)],[[.own .Claim false],[.lf (.i .i64)]]⟩
abbrev o33' : OSpec sig := ⟨[.lf (.i .u64)],[[.lf (.i .u64)]]⟩
theorem cL {f : FuncId} {fn : Func} {vs : List (TL sig)} {hs : THeap sig} (o : OSpec sig) (hf : Tryz.prog.funcs[f]? = some fn) {p : Option o.Out} (hok : env.ok f = true := by kernel_rfl) (hb : fn.body = some (qdq fn) := by kernel_rfl) (hn0 : (decide (vs.length ≤ fn.ntmps) && (q6a Tryz.prog fn (qdq fn)).isNone && (env.seek f).isNone && (env.lib f).isNone) = true := by kernel_rfl) (h : te tn ⟨f, fn, hs.length⟩ o 100000 (qdq fn) [] ⟨bindT 0 vs, hs⟩ = p := by kernel_rfl) : Le p (callC tn f vs hs o) := qyl (T := tn) sigOk 100000 hok hf hb hn0 h
theorem gL {F : Fx} (o : OSpec sig) (b : Code) {c : Code} {K : List Fr} {s : TSt sig} {p : Option o.Out} (hc : c = .loop b := by kernel_rfl) (h : te tn F o 100000 b (.loop b s.heap.length :: K) s = p := by kernel_rfl) : Le p (goC tn F o c K s) := qsa (T := tn) sigOk 100000 hc h
end Go.Proofs.YthbpagedblodfaaGreat
