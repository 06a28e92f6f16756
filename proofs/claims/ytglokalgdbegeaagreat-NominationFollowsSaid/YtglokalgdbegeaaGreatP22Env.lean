/- The seat's program for the machines. -/
import Derived.Test.YtglokalgdbegeaaGreatP22An
import Derived.Test.YtglokalgdbegeaaGreatMachT
import Derived.Test.YtglokalgdbegeaaGreatChecked
namespace Go.Proofs.YtglokalgdbegeaaGreat
open Go Go.Ab
def look1 {α : Type} (d : α) : List (Nat × α) → Nat → α
 | [], _ => d
 | (k, v) :: r, t => if k = t then v else look1 d r t
def an : An := { flag := fun f t => if (look1 [] y71 f).contains t then .keep else .view, clear := fun f => look1 [] (look1 [] y3w f), mode := fun f => look1 0 (look1 [] y7s f), order := fun f => look1 [] (look1 [] y3o f), own := fun f => anOwn.contains f }
def lastF : Nat := 225
def badF : List Nat := [5, 41, 115, 173]
def okF (h : Nat) : Bool := decide (2 ≤ h ∧ h ≤ lastF) && !badF.contains h
noncomputable def qx3 : List (Nat × Option (List AV → Heap → Option (AV × Heap))) := [(72, some (q2j 7)),(145, some (q2j 1)),(167, some q4c)]
noncomputable def env : Env0 := { P := Tryz.prog, glob := fun _ => none, an := an, ok := okF, lib := look1 none qx3 }
structure Tape where
 l : List (Int)
 at_ : Int
structure Claim where
 Topic : Int
 Value : Int
structure Arr2_i64 where
 e0 : Int
 e1 : Int
structure Frac where
 Num : Int
 Den : Int
structure Trust where
 Threshold : Int
 Nodes : List (Int)
 Inner : List (Trust)
structure Nomination where
 Node : Int
 Seq : Int
 Trust : Trust
 Votes : List (List UInt8)
 Accepts : List (List UInt8)
structure Member where
 Declared : Bool
 Trust : Trust
structure Message where
 Node : Int
 Seq : Int
 Trust : Trust
 Votes : List (Claim)
 Accepts : List (Claim)
structure Nominator where
 Node : Int
 Slot : Int
 Round : Int
 Seq : Int
 Trust : Trust
 Own : List UInt8
 Votes : List (List UInt8)
 Accepts : List (List UInt8)
 Candidates : List (List UInt8)
 Heard : List (Nomination)
structure Config where
 Members : List (Member)
inductive TC where
 | i64 | l_i64 | s | l_s | Tape | b | Claim | l_Claim | Arr2_i64 | Frac | Trust | l_Trust | Nomination | l_Nomination | Member | l_Member | Message | Nominator | Config
 deriving DecidableEq
def Ty : TC → Type
 | .i64 => Int
 | .l_i64 => List (Int)
 | .s => List UInt8
 | .l_s => List (List UInt8)
 | .Tape => Tape
 | .b => Bool
 | .Claim => Claim
 | .l_Claim => List (Claim)
 | .Arr2_i64 => Arr2_i64
 | .Frac => Frac
 | .Trust => Trust
 | .l_Trust => List (Trust)
 | .Nomination => Nomination
 | .l_Nomination => List (Nomination)
 | .Member => Member
 | .l_Member => List (Member)
 | .Message => Message
 | .Nominator => Nominator
 | .Config => Config
abbrev Lv := Leaf TC Ty
def asL (c : TC) : Lv → Option (List (Ty c))
 | .l c' xs => if h : c' = c then some (h ▸ xs) else none
 | _ => none
theorem q2d {c : TC} {x : Lv} {xs : List (Ty c)} (h : asL c x = some xs) : x = .l c xs := by
 cases x with
 | l c' ys =>
  simp only [asL] at h;split at h
  ·rename_i hc;subst hc;cases h; rfl
  ·cases h
 | _ => cases h
def q6f (x : Int) : D := .v (.int .i64 x)
theorem q9b (x y : Int) (h : q6f x = q6f y) : x = y := q24 h
def qob (x : Int) : List Lv := [.i .i64 x]
def qag : List Lv → Option (Int)
 | [.i .i64 x] => some x
 | _ => none
theorem y4k (cs : List Lv) (x : Int) (h : qag cs = some x) : qob x = cs := by
 unfold qag at h;split at h
 ·cases h; rfl
 ·cases h
def qh0 (x : List (Int)) : D := .list (x.map q6f)
theorem qwf (x y : List (Int)) (h : qh0 x = qh0 y) : x = y := q0y q9b h
def qgy (x : List (Int)) : List Lv := [.l .i64 x]
def qbq : List Lv → Option (List (Int))
 | [x] => asL .i64 x
 | _ => none
theorem qzm : ∀ (cs : List Lv) (x : List (Int)), qbq cs = some x → qgy x = cs
 | [y], x, h => by rw [q2d (c := .i64) (x := y) (xs := x) h]; rfl
 | [], x, h => by
  have h' : (none : Option (List (Int))) = some x := h;cases h'
 | _ :: _ :: _, x, h => by
  have h' : (none : Option (List (Int))) = some x := h;cases h'
def enc_s (x : List UInt8) : D := .v (.string ⟨⟨x⟩⟩)
theorem inj_s (x y : List UInt8) (h : enc_s x = enc_s y) : x = y := qvc h
def qwn (x : List UInt8) : List Lv := [.s x]
def qgz : List Lv → Option (List UInt8)
 | [.s x] => some x
 | _ => none
theorem of_s (cs : List Lv) (x : List UInt8) (h : qgz cs = some x) : qwn x = cs := by
 unfold qgz at h;split at h
 ·cases h; rfl
 ·cases h
def qqf (x : List (List UInt8)) : D := .list (x.map enc_s)
theorem y32 (x y : List (List UInt8)) (h : qqf x = qqf y) : x = y := q0y inj_s h
def qo0 (x : List (List UInt8)) : List Lv := [.l .s x]
def qg8 : List Lv → Option (List (List UInt8))
 | [x] => asL .s x
 | _ => none
theorem y4b : ∀ (cs : List Lv) (x : List (List UInt8)), qg8 cs = some x → qo0 x = cs
 | [y], x, h => by rw [q2d (c := .s) (x := y) (xs := x) h]; rfl
 | [], x, h => by
  have h' : (none : Option (List (List UInt8))) = some x := h;cases h'
 | _ :: _ :: _, x, h => by
  have h' : (none : Option (List (List UInt8))) = some x := h;cases h'
def qfj (x : Tape) : D := .agg [.list (((x.l)).map q6f), .v (.int .i64 (x.at_))]
theorem qzz : ∀ x y : Tape, qfj x = qfj y → x = y
 | ⟨a0, a1⟩, ⟨b0, b1⟩, h => by
  simp only [qfj, D.agg.injEq, List.cons.injEq, and_true] at h;obtain ⟨h0, h1⟩ := h;have e0 : a0 = b0 := q0y q9b h0;have e1 : a1 = b1 := q24 h1;rw [e0, e1]
def qka (x : Tape) : List Lv := [.l .i64 x.l, .i .i64 x.at_]
def q8c : List Lv → Option Tape
 | [l0, .i .i64 a1] => match asL .i64 l0 with
  | some m0 => some (Tape.mk m0 a1)
  | _ => none
 | _ => none
theorem y2r (cs : List Lv) (x : Tape) (h : q8c cs = some x) : qka x = cs := by
 unfold q8c at h;split at h
 ·split at h
  ·rename_i m0 h0;cases q2d h0;cases h; rfl
  ·cases h
 ·cases h
def enc_b (x : Bool) : D := .v (.bool x)
theorem inj_b (x y : Bool) (h : enc_b x = enc_b y) : x = y := qr5 h
def qy0 (x : Bool) : List Lv := [.b x]
def qg7 : List Lv → Option (Bool)
 | [.b x] => some x
 | _ => none
theorem of_b (cs : List Lv) (x : Bool) (h : qg7 cs = some x) : qy0 x = cs := by
 unfold qg7 at h;split at h
 ·cases h; rfl
 ·cases h
def q5c (x : Claim) : D := .agg [.v (.int .i64 (x.Topic)), .v (.int .i64 (x.Value))]
theorem qcx : ∀ x y : Claim, q5c x = q5c y → x = y
 | ⟨a0, a1⟩, ⟨b0, b1⟩, h => by
  simp only [q5c, D.agg.injEq, List.cons.injEq, and_true] at h;obtain ⟨h0, h1⟩ := h;have e0 : a0 = b0 := q24 h0;have e1 : a1 = b1 := q24 h1;rw [e0, e1]
def qg4 (x : Claim) : List Lv := [.i .i64 x.Topic, .i .i64 x.Value]
def q7g : List Lv → Option Claim
 | [.i .i64 a0, .i .i64 a1] => some (Claim.mk a0 a1)
 | _ => none
theorem qyj (cs : List Lv) (x : Claim) (h : q7g cs = some x) : qg4 x = cs := by
 unfold q7g at h;split at h
 ·cases h; rfl
 ·cases h
def qau (x : List (Claim)) : D := .list (x.map q5c)
theorem qqh (x y : List (Claim)) (h : qau x = qau y) : x = y := q0y qcx h
def qbr (x : List (Claim)) : List Lv := [.l .Claim x]
def q8n : List Lv → Option (List (Claim))
 | [x] => asL .Claim x
 | _ => none
theorem qt4 : ∀ (cs : List Lv) (x : List (Claim)), q8n cs = some x → qbr x = cs
 | [y], x, h => by rw [q2d (c := .Claim) (x := y) (xs := x) h]; rfl
 | [], x, h => by
  have h' : (none : Option (List (Claim))) = some x := h;cases h'
 | _ :: _ :: _, x, h => by
  have h' : (none : Option (List (Claim))) = some x := h;cases h'
def q5s (x : Arr2_i64) : D := .agg [.v (.int .i64 (x.e0)), .v (.int .i64 (x.e1))]
theorem qo8 : ∀ x y : Arr2_i64, q5s x = q5s y → x = y
 | ⟨a0, a1⟩, ⟨b0, b1⟩, h => by
  simp only [q5s, D.agg.injEq, List.cons.injEq, and_true] at h;obtain ⟨h0, h1⟩ := h;have e0 : a0 = b0 := q24 h0;have e1 : a1 = b1 := q24 h1;rw [e0, e1]
def qa1 (x : Arr2_i64) : List Lv := [.i .i64 x.e0, .i .i64 x.e1]
def q4i : List Lv → Option Arr2_i64
 | [.i .i64 a0, .i .i64 a1] => some (Arr2_i64.mk a0 a1)
 | _ => none
theorem qr2 (cs : List Lv) (x : Arr2_i64) (h : q4i cs = some x) : qa1 x = cs := by
 unfold q4i at h;split at h
 ·cases h; rfl
 ·cases h
def qfs (x : Frac) : D := .agg [.v (.int .i64 (x.Num)), .v (.int .i64 (x.Den))]
theorem qzw : ∀ x y : Frac, qfs x = qfs y → x = y
 | ⟨a0, a1⟩, ⟨b0, b1⟩, h => by
  simp only [qfs, D.agg.injEq, List.cons.injEq, and_true] at h;obtain ⟨h0, h1⟩ := h;have e0 : a0 = b0 := q24 h0;have e1 : a1 = b1 := q24 h1;rw [e0, e1]
def qiz (x : Frac) : List Lv := [.i .i64 x.Num, .i .i64 x.Den]
def q8h : List Lv → Option Frac
 | [.i .i64 a0, .i .i64 a1] => some (Frac.mk a0 a1)
 | _ => none
theorem y42 (cs : List Lv) (x : Frac) (h : q8h cs = some x) : qiz x = cs := by
 unfold q8h at h;split at h
 ·cases h; rfl
 ·cases h
mutual
def q27 : Trust → D
 | ⟨a0, a1, a2⟩ => .agg [.v (.int .i64 a0), .list ((a1).map q6f), .list (q37 a2)]
def q37 : List Trust → List D
 | [] => []
 | x :: r => q27 x :: q37 r
end
theorem qbn : ∀ l : List Trust, q37 l = l.map q27
 | [] => rfl
 | x :: r => by simp only [q37, qbn r, List.map_cons]
mutual
theorem q5k : ∀ x y : Trust, q27 x = q27 y → x = y
 | ⟨a0, a1, a2⟩, ⟨b0, b1, b2⟩, h => by
  simp only [q27, D.agg.injEq, List.cons.injEq, and_true] at h;obtain ⟨h0, h1, h2⟩ := h;have e0 : a0 = b0 := q24 h0;have e1 : a1 = b1 := q0y q9b h1;have e2 : a2 = b2 := qjs _ _ (D.list.inj h2);rw [e0, e1, e2]
theorem qjs : ∀ x y : List Trust, q37 x = q37 y → x = y
 | [], [], _ => rfl
 | [], _ :: _, h => by simp [q37] at h
 | _ :: _, [], h => by simp [q37] at h
 | x :: r, y :: r', h => by
  simp only [q37, List.cons.injEq] at h;rw [q5k x y h.1, qjs r r' h.2]
end
def qas (x : Trust) : List Lv := [.i .i64 x.Threshold, .l .i64 x.Nodes, .l .Trust x.Inner]
def q7o : List Lv → Option Trust
 | [.i .i64 a0, l1, l2] => match asL .i64 l1, asL .Trust l2 with
  | some m1, some m2 => some (Trust.mk a0 m1 m2)
  | _, _ => none
 | _ => none
theorem qzx (cs : List Lv) (x : Trust) (h : q7o cs = some x) : qas x = cs := by
 unfold q7o at h;split at h
 ·split at h
  ·rename_i m1 m2 h1 h2;cases q2d h1;cases q2d h2;cases h; rfl
  ·cases h
 ·cases h
def qay (x : List (Trust)) : D := .list (x.map q27)
theorem qqr (x y : List (Trust)) (h : qay x = qay y) : x = y := q0y q5k h
def qbs (x : List (Trust)) : List Lv := [.l .Trust x]
def q90 : List Lv → Option (List (Trust))
 | [x] => asL .Trust x
 | _ => none
theorem qun : ∀ (cs : List Lv) (x : List (Trust)), q90 cs = some x → qbs x = cs
 | [y], x, h => by rw [q2d (c := .Trust) (x := y) (xs := x) h]; rfl
 | [], x, h => by
  have h' : (none : Option (List (Trust))) = some x := h;cases h'
 | _ :: _ :: _, x, h => by
  have h' : (none : Option (List (Trust))) = some x := h;cases h'
def q0r (x : Nomination) : D := .agg [.v (.int .i64 (x.Node)), .v (.int .i64 (x.Seq)), .v (.int .i64 (x.Trust.Threshold)), .list (((x.Trust.Nodes)).map q6f), .list (((x.Trust.Inner)).map q27), .list (((x.Votes)).map enc_s), .list (((x.Accepts)).map enc_s)]
theorem q6a : ∀ x y : Nomination, q0r x = q0r y → x = y
 | ⟨a0, a1, ⟨a2, a3, a4⟩, a5, a6⟩, ⟨b0, b1, ⟨b2, b3, b4⟩, b5, b6⟩, h => by
  simp only [q0r, D.agg.injEq, List.cons.injEq, and_true] at h;obtain ⟨h0, h1, h2, h3, h4, h5, h6⟩ := h;have e0 : a0 = b0 := q24 h0;have e1 : a1 = b1 := q24 h1;have e2 : a2 = b2 := q24 h2;have e3 : a3 = b3 := q0y q9b h3;have e4 : a4 = b4 := q0y q5k h4;have e5 : a5 = b5 := q0y inj_s h5;have e6 : a6 = b6 := q0y inj_s h6;rw [e0, e1, e2, e3, e4, e5, e6]
def q87 (x : Nomination) : List Lv := [.i .i64 x.Node, .i .i64 x.Seq, .i .i64 x.Trust.Threshold, .l .i64 x.Trust.Nodes, .l .Trust x.Trust.Inner, .l .s x.Votes, .l .s x.Accepts]
def q3x : List Lv → Option Nomination
 | [.i .i64 a0, .i .i64 a1, .i .i64 a2, l3, l4, l5, l6] => match asL .i64 l3, asL .Trust l4, asL .s l5, asL .s l6 with
  | some m3, some m4, some m5, some m6 => some (Nomination.mk a0 a1 (Trust.mk a2 m3 m4) m5 m6)
  | _, _, _, _ => none
 | _ => none
theorem qkr (cs : List Lv) (x : Nomination) (h : q3x cs = some x) : q87 x = cs := by
 unfold q3x at h;split at h
 ·split at h
  ·rename_i m3 m4 m5 m6 h3 h4 h5 h6;cases q2d h3;cases q2d h4;cases q2d h5;cases q2d h6;cases h; rfl
  ·cases h
 ·cases h
def q4o (x : List (Nomination)) : D := .list (x.map q0r)
theorem qfc (x y : List (Nomination)) (h : q4o x = q4o y) : x = y := q0y q6a h
def q5u (x : List (Nomination)) : List Lv := [.l .Nomination x]
def q4s : List Lv → Option (List (Nomination))
 | [x] => asL .Nomination x
 | _ => none
theorem qi3 : ∀ (cs : List Lv) (x : List (Nomination)), q4s cs = some x → q5u x = cs
 | [y], x, h => by rw [q2d (c := .Nomination) (x := y) (xs := x) h]; rfl
 | [], x, h => by
  have h' : (none : Option (List (Nomination))) = some x := h;cases h'
 | _ :: _ :: _, x, h => by
  have h' : (none : Option (List (Nomination))) = some x := h;cases h'
def q53 (x : Member) : D := .agg [.v (.bool (x.Declared)), .v (.int .i64 (x.Trust.Threshold)), .list (((x.Trust.Nodes)).map q6f), .list (((x.Trust.Inner)).map q27)]
theorem qdd : ∀ x y : Member, q53 x = q53 y → x = y
 | ⟨a0, ⟨a1, a2, a3⟩⟩, ⟨b0, ⟨b1, b2, b3⟩⟩, h => by
  simp only [q53, D.agg.injEq, List.cons.injEq, and_true] at h;obtain ⟨h0, h1, h2, h3⟩ := h;have e0 : a0 = b0 := qr5 h0;have e1 : a1 = b1 := q24 h1;have e2 : a2 = b2 := q0y q9b h2;have e3 : a3 = b3 := q0y q5k h3;rw [e0, e1, e2, e3]
def qdx (x : Member) : List Lv := [.b x.Declared, .i .i64 x.Trust.Threshold, .l .i64 x.Trust.Nodes, .l .Trust x.Trust.Inner]
def q6b : List Lv → Option Member
 | [.b a0, .i .i64 a1, l2, l3] => match asL .i64 l2, asL .Trust l3 with
  | some m2, some m3 => some (Member.mk a0 (Trust.mk a1 m2 m3))
  | _, _ => none
 | _ => none
theorem qwz (cs : List Lv) (x : Member) (h : q6b cs = some x) : qdx x = cs := by
 unfold q6b at h;split at h
 ·split at h
  ·rename_i m2 m3 h2 h3;cases q2d h2;cases q2d h3;cases h; rfl
  ·cases h
 ·cases h
def q91 (x : List (Member)) : D := .list (x.map q53)
theorem qo6 (x y : List (Member)) (h : q91 x = q91 y) : x = y := q0y qdd h
def q9z (x : List (Member)) : List Lv := [.l .Member x]
def q8a : List Lv → Option (List (Member))
 | [x] => asL .Member x
 | _ => none
theorem qpj : ∀ (cs : List Lv) (x : List (Member)), q8a cs = some x → q9z x = cs
 | [y], x, h => by rw [q2d (c := .Member) (x := y) (xs := x) h]; rfl
 | [], x, h => by
  have h' : (none : Option (List (Member))) = some x := h;cases h'
 | _ :: _ :: _, x, h => by
  have h' : (none : Option (List (Member))) = some x := h;cases h'
def q7q (x : Message) : D := .agg [.v (.int .i64 (x.Node)), .v (.int .i64 (x.Seq)), .v (.int .i64 (x.Trust.Threshold)), .list (((x.Trust.Nodes)).map q6f), .list (((x.Trust.Inner)).map q27), .list (((x.Votes)).map q5c), .list (((x.Accepts)).map q5c)]
theorem qpi : ∀ x y : Message, q7q x = q7q y → x = y
 | ⟨a0, a1, ⟨a2, a3, a4⟩, a5, a6⟩, ⟨b0, b1, ⟨b2, b3, b4⟩, b5, b6⟩, h => by
  simp only [q7q, D.agg.injEq, List.cons.injEq, and_true] at h;obtain ⟨h0, h1, h2, h3, h4, h5, h6⟩ := h;have e0 : a0 = b0 := q24 h0;have e1 : a1 = b1 := q24 h1;have e2 : a2 = b2 := q24 h2;have e3 : a3 = b3 := q0y q9b h3;have e4 : a4 = b4 := q0y q5k h4;have e5 : a5 = b5 := q0y qcx h5;have e6 : a6 = b6 := q0y qcx h6;rw [e0, e1, e2, e3, e4, e5, e6]
def qck (x : Message) : List Lv := [.i .i64 x.Node, .i .i64 x.Seq, .i .i64 x.Trust.Threshold, .l .i64 x.Trust.Nodes, .l .Trust x.Trust.Inner, .l .Claim x.Votes, .l .Claim x.Accepts]
def q5e : List Lv → Option Message
 | [.i .i64 a0, .i .i64 a1, .i .i64 a2, l3, l4, l5, l6] => match asL .i64 l3, asL .Trust l4, asL .Claim l5, asL .Claim l6 with
  | some m3, some m4, some m5, some m6 => some (Message.mk a0 a1 (Trust.mk a2 m3 m4) m5 m6)
  | _, _, _, _ => none
 | _ => none
theorem qu2 (cs : List Lv) (x : Message) (h : q5e cs = some x) : qck x = cs := by
 unfold q5e at h;split at h
 ·split at h
  ·rename_i m3 m4 m5 m6 h3 h4 h5 h6;cases q2d h3;cases q2d h4;cases q2d h5;cases q2d h6;cases h; rfl
  ·cases h
 ·cases h
def q4w (x : Nominator) : D := .agg [.v (.int .i64 (x.Node)), .v (.int .i64 (x.Slot)), .v (.int .i64 (x.Round)), .v (.int .i64 (x.Seq)), .v (.int .i64 (x.Trust.Threshold)), .list (((x.Trust.Nodes)).map q6f), .list (((x.Trust.Inner)).map q27), .v (.string ⟨⟨(x.Own)⟩⟩), .list (((x.Votes)).map enc_s), .list (((x.Accepts)).map enc_s), .list (((x.Candidates)).map enc_s), .list (((x.Heard)).map q0r)]
theorem ql3 : ∀ x y : Nominator, q4w x = q4w y → x = y
 | ⟨a0, a1, a2, a3, ⟨a4, a5, a6⟩, a7, a8, a9, a10, a11⟩, ⟨b0, b1, b2, b3, ⟨b4, b5, b6⟩, b7, b8, b9, b10, b11⟩, h => by
  simp only [q4w, D.agg.injEq, List.cons.injEq, and_true] at h;obtain ⟨h0, h1, h2, h3, h4, h5, h6, h7, h8, h9, h10, h11⟩ := h;have e0 : a0 = b0 := q24 h0;have e1 : a1 = b1 := q24 h1;have e2 : a2 = b2 := q24 h2;have e3 : a3 = b3 := q24 h3;have e4 : a4 = b4 := q24 h4;have e5 : a5 = b5 := q0y q9b h5;have e6 : a6 = b6 := q0y q5k h6;have e7 : a7 = b7 := qvc h7;have e8 : a8 = b8 := q0y inj_s h8;have e9 : a9 = b9 := q0y inj_s h9;have e10 : a10 = b10 := q0y inj_s h10;have e11 : a11 = b11 := q0y q6a h11;rw [e0, e1, e2, e3, e4, e5, e6, e7, e8, e9, e10, e11]
def q9e (x : Nominator) : List Lv := [.i .i64 x.Node, .i .i64 x.Slot, .i .i64 x.Round, .i .i64 x.Seq, .i .i64 x.Trust.Threshold, .l .i64 x.Trust.Nodes, .l .Trust x.Trust.Inner, .s x.Own, .l .s x.Votes, .l .s x.Accepts, .l .s x.Candidates, .l .Nomination x.Heard]
def q43 : List Lv → Option Nominator
 | [.i .i64 a0, .i .i64 a1, .i .i64 a2, .i .i64 a3, .i .i64 a4, l5, l6, .s a7, l8, l9, l10, l11] => match asL .i64 l5, asL .Trust l6, asL .s l8, asL .s l9, asL .s l10, asL .Nomination l11 with
  | some m5, some m6, some m8, some m9, some m10, some m11 => some (Nominator.mk a0 a1 a2 a3 (Trust.mk a4 m5 m6) a7 m8 m9 m10 m11)
  | _, _, _, _, _, _ => none
 | _ => none
theorem qmd (cs : List Lv) (x : Nominator) (h : q43 cs = some x) : q9e x = cs := by
 unfold q43 at h;split at h
 ·split at h
  ·rename_i m5 m6 m8 m9 m10 m11 h5 h6 h8 h9 h10 h11;cases q2d h5;cases q2d h6;cases q2d h8;cases q2d h9;cases q2d h10;cases q2d h11;cases h; rfl
  ·cases h
 ·cases h
def q9j (x : Config) : D := .agg [.list (((x.Members)).map q53)]
theorem qtn : ∀ x y : Config, q9j x = q9j y → x = y
 | ⟨a0⟩, ⟨b0⟩, h => by
  simp only [q9j, D.agg.injEq, List.cons.injEq, and_true] at h;have h0 := h;have e0 : a0 = b0 := q0y qdd h0;rw [e0]
def qe7 (x : Config) : List Lv := [.l .Member x.Members]
def q6g : List Lv → Option Config
 | [l0] => match asL .Member l0 with
  | some m0 => some (Config.mk m0)
  | _ => none
 | _ => none
theorem qwj (cs : List Lv) (x : Config) (h : q6g cs = some x) : qe7 x = cs := by
 unfold q6g at h;split at h
 ·split at h
  ·rename_i m0 h0;cases q2d h0;cases h; rfl
  ·cases h
 ·cases h
def encT : (c : TC) → Ty c → D
 | .i64 => q6f
 | .l_i64 => qh0
 | .s => enc_s
 | .l_s => qqf
 | .Tape => qfj
 | .b => enc_b
 | .Claim => q5c
 | .l_Claim => qau
 | .Arr2_i64 => q5s
 | .Frac => qfs
 | .Trust => q27
 | .l_Trust => qay
 | .Nomination => q0r
 | .l_Nomination => q4o
 | .Member => q53
 | .l_Member => q91
 | .Message => q7q
 | .Nominator => q4w
 | .Config => q9j
def y54 : (c : TC) → Ty c → List Lv
 | .i64 => qob
 | .l_i64 => qgy
 | .s => qwn
 | .l_s => qo0
 | .Tape => qka
 | .b => qy0
 | .Claim => qg4
 | .l_Claim => qbr
 | .Arr2_i64 => qa1
 | .Frac => qiz
 | .Trust => qas
 | .l_Trust => qbs
 | .Nomination => q87
 | .l_Nomination => q5u
 | .Member => qdx
 | .l_Member => q9z
 | .Message => qck
 | .Nominator => q9e
 | .Config => qe7
def qz9 : (c : TC) → List Lv → Option (Ty c)
 | .i64 => qag
 | .l_i64 => qbq
 | .s => qgz
 | .l_s => qg8
 | .Tape => q8c
 | .b => qg7
 | .Claim => q7g
 | .l_Claim => q8n
 | .Arr2_i64 => q4i
 | .Frac => q8h
 | .Trust => q7o
 | .l_Trust => q90
 | .Nomination => q3x
 | .l_Nomination => q4s
 | .Member => q6b
 | .l_Member => q8a
 | .Message => q5e
 | .Nominator => q43
 | .Config => q6g
def aggF : TC → Bool
 | .i64 => false
 | .l_i64 => false
 | .s => false
 | .l_s => false
 | .Tape => true
 | .b => false
 | .Claim => true
 | .l_Claim => false
 | .Arr2_i64 => true
 | .Frac => true
 | .Trust => true
 | .l_Trust => false
 | .Nomination => true
 | .l_Nomination => false
 | .Member => true
 | .l_Member => false
 | .Message => true
 | .Nominator => true
 | .Config => true
def sizeF : TC → Nat
 | .i64 => 1
 | .l_i64 => 1
 | .s => 1
 | .l_s => 1
 | .Tape => 2
 | .b => 1
 | .Claim => 2
 | .l_Claim => 1
 | .Arr2_i64 => 2
 | .Frac => 2
 | .Trust => 3
 | .l_Trust => 1
 | .Nomination => 7
 | .l_Nomination => 1
 | .Member => 4
 | .l_Member => 1
 | .Message => 7
 | .Nominator => 12
 | .Config => 1
def qv2 : List (TypeId × TC × TypeId) := [(22, .i64,3),(26, .Trust, 28),(33, .Nominator, 37),(34, .s, 9),(35, .Nomination, 55),(44, .Member, 51),(76, .Arr2_i64,75),(140, .Message, 143),(141, .Claim, 184)]
def qzo : List (TypeId × List (Option TC)) := [(22,[some .i64]),(26,[some .Trust]),(27,[none, some .i64, some .Trust]),(28,[none, some .i64, some .Trust]),(33,[some .Nominator]),(34,[some .s]),(35,[some .Nomination]),(36,[none, none, none, none, none, some .i64, some .Trust, none, some .s, some .s, some .s, some .Nomination]),(37,[none, none, none, none, none, some .i64, some .Trust, none, some .s, some .s, some .s, some .Nomination]),(44,[some .Member]),(45,[some .Member]),(46,[some .Member]),(50,[none, none, some .i64, some .Trust]),(51,[none, none, some .i64, some .Trust]),(54,[none, none, none, some .i64, some .Trust, some .s, some .s]),(55,[none, none, none, some .i64, some .Trust, some .s, some .s]),(76,[some .Arr2_i64]),(79,[some .i64, none]),(80,[some .i64, none]),(105,[none]),(140,[some .Message]),(141,[some .Claim]),(142,[none, none, none, some .i64, some .Trust, some .Claim, some .Claim]),(143,[none, none, none, some .i64, some .Trust, some .Claim, some .Claim])]
def elemF : List (TypeId × TC × TypeId) → TypeId → Option TC
 | [], _ => none
 | (u, c, _) :: r, t => if u = t then some c else elemF r t
def sig : Sig := { TC := TC, Ty := Ty, enc := encT, cells := y54, ofCells := qz9, agg := aggF, size := sizeF, elem := elemF qv2, lists := look1 [] qzo }
theorem qt2 (P : Program) : ∀ (tab : List (TypeId × TC × TypeId)), (tab.all fun p => q1w P p.1 == some p.2.2 && tyAgg P p.2.2 == some (aggF p.2.1) && q0d P p.2.2 == some (sizeF p.2.1)) = true → ∀ t c, elemF tab t = some c → ∃ e, q1w P t = some e ∧ tyAgg P e = some (aggF c) ∧ q0d P e = some (sizeF c)
 | [], _, _, _, h => by cases h
 | (u, d, e) :: r, ha, t, c, h => by
  simp only [List.all_cons, aT, beq_iff_eq] at ha;simp only [elemF] at h;split at h
  ·rename_i hu; cases h; subst hu; exact ⟨e, ha.1.1.1, ha.1.1.2, ha.1.2⟩
  ·exact qt2 P r ha.2 t c h
theorem qpf (x : Trust) : sig.enc .Trust x = (packT (S := sig) true (qas x)).toD := by
 cases x;show q27 _ = _;simp only [q27, qbn];rfl
theorem sigOk : sig.Ok Tryz.prog where
 enc_eq := fun c x => by cases c <;> first | rfl | exact qpf x
 of_eq := fun c cs x h => by
  have : sig.cells c x = cs := by
   cases c
   ·exact y4k cs x h
   ·exact qzm cs x h
   ·exact of_s cs x h
   ·exact y4b cs x h
   ·exact y2r cs x h
   ·exact of_b cs x h
   ·exact qyj cs x h
   ·exact qt4 cs x h
   ·exact qr2 cs x h
   ·exact y42 cs x h
   ·exact qzx cs x h
   ·exact qun cs x h
   ·exact qkr cs x h
   ·exact qi3 cs x h
   ·exact qwz cs x h
   ·exact qpj cs x h
   ·exact qu2 cs x h
   ·exact qmd cs x h
   ·exact qwj cs x h
  rw [this]
 inj := fun c x y h => by
  cases c
  ·exact q9b x y h
  ·exact qwf x y h
  ·exact inj_s x y h
  ·exact y32 x y h
  ·exact qzz x y h
  ·exact inj_b x y h
  ·exact qcx x y h
  ·exact qqh x y h
  ·exact qo8 x y h
  ·exact qzw x y h
  ·exact q5k x y h
  ·exact qqr x y h
  ·exact q6a x y h
  ·exact qfc x y h
  ·exact qdd x y h
  ·exact qo6 x y h
  ·exact qpi x y h
  ·exact ql3 x y h
  ·exact qtn x y h
 len := fun c x => by cases c <;> rfl
 pos := fun c => by cases c <;> decide
 one := fun c h => by cases c <;> first | rfl | cases h
 elem := qt2 Tryz.prog qv2 (by kernel_rfl)
def y69 : List (Nat × List (OT sig)) := [(4,[.lf .b]),(3,[.lf .b]),(7,[.lf .b]),(6,[.lf .b]),(8,[.ptr 0 0]),(15,[.ag .Config]),(10,[.lf (.i .i64)]),(16,[.lf (.i .i64)]),(17,[.lf (.i .i64), .lf (.i .i64)]),(9,[.lf (.i .i64)]),(33,[.lf .b]),(14,[.lf .b]),(34,[.lf .b]),(35,[.lf .b]),(36,[.ag .Nominator]),(22,[.ag .Nomination]),(37,[.ag .Nominator]),(27,[.ag .Trust]),(18,[.lf .s]),(12,[.ag .Nominator, .lf (.i .i64)]),(59,[.ag .Config]),(61,[.lf (.i .i64), .lf (.i .i64)]),(62,[.lf (.i .i64)]),(85,[.lf .b]),(25,[.lf .s, .lf .b]),(86,[.lf (.i .i64)]),(48,[.ag .Nominator, .lf (.i .i64)]),(67,[.lf (.l .s)]),(74,[.ag .Trust]),(75,[.lf (.i .i64)]),(55,[.lf .b]),(56,[.lf (.i .i64)]),(58,[.ag .Nominator]),(57,[.ag .Nominator]),(111,[.lf (.i .i64)]),(112,[.lf .b, .lf (.i .i64)]),(113,[.lf (.l .i64), .lf (.i .i64)]),(91,[.ag .Nominator]),(117,[.lf (.l .i64)]),(118,[.lf (.i .i64)]),(119,[.lf (.i .i64)]),(120,[.lf (.i .i64)]),(97,[.lf (.i .i64)]),(98,[.lf (.i .i64)]),(99,[.lf (.i .i64)]),(102,[.lf (.l .s)]),(103,[.ag .Config]),(104,[.lf .s, .lf .b]),(100,[.ag .Trust]),(101,[.ref 0]),(148,[.lf (.i .i64)]),(60,[.lf (.i .i64)]),(149,[.lf (.i .i64)]),(151,[.ag .Config]),(150,[.lf .b, .lf (.i .i64)]),(152,[.lf (.i .i64)]),(154,[.lf (.i .i64)]),(153,[.lf (.l .i64)]),(124,[.ag .Nominator]),(134,[.lf .b]),(137,[.lf (.i .i64), .lf (.i .i64)]),(139,[.lf (.i .i64), .lf (.i .i64)]),(140,[.lf (.l .i64)]),(71,[.ref 0]),(65,[.ag .Nomination]),(141,[.lf (.l .s)]),(138,[.ref 0]),(176,[.lf (.i .i64)]),(66,[.lf .b]),(178,[.lf (.i .i64), .lf (.i .i64)]),(32,[.lf (.i .i64), .lf (.i .i64)]),(24,[.lf (.l .i64)]),(163,[.lf (.i .i64)]),(164,[.lf (.i .i64)]),(196,[.lf (.i .i64)]),(11,[.lf (.i .i64), .lf (.i .i64)]),(52,[.lf (.i .i64)]),(30,[.lf .b]),(29,[.lf .b]),(38,[.lf .b]),(31,[.lf .b]),(20,[.ag .Nomination]),(40,[.ag .Nomination]),(39,[.lf .b]),(41,[.ag .Nomination]),(78,[.lf .b]),(79,[.lf .b]),(80,[.lf .b]),(76,[.lf .b]),(88,[.lf .b]),(89,[.lf .b]),(90,[.lf .b]),(83,[.lf .b]),(84,[.lf .b]),(64,[.ag .Nomination]),(121,[.lf (.i .i64)]),(92,[.lf .b]),(123,[.lf .b]),(131,[.lf .b]),(132,[.lf .b]),(28,[.ag .Nominator, .lf (.i .i64)]),(21,[.lf .b]),(19,[.ag .Nominator, .lf (.i .i64)]),(46,[.ag .Nominator, .lf (.i .i64)]),(23,[.ag .Nominator, .lf (.i .i64)]),(63,[.ag .Nominator]),(43,[.lf .b]),(68,[.lf (.i .i64), .lf .b]),(72,[.lf (.l .Nomination)]),(45,[.ag .Nominator, .lf (.i .i64)]),(47,[.ag .Nominator, .lf (.i .i64)]),(42,[.ag .Nominator, .lf (.i .i64)]),(44,[.lf .b]),(108,[.ag .Trust]),(109,[.ag .Trust]),(73,[.lf .b]),(50,[.lf (.i .i64)]),(70,[.lf (.i .i64)]),(95,[.lf (.i .i64)]),(94,[.lf (.i .i64)]),(114,[.lf .b]),(133,[.lf .b]),(105,[.lf (.l .s)]),(144,[.lf (.i .i64), .lf .b]),(145,[.lf (.l .s)]),(155,[.lf .b]),(181,[.lf .b, .lf (.i .i64)]),(197,[.lf .b]),(125,[.lf (.l .s)]),(159,[.lf (.l .s)]),(157,[.lf (.i .i64), .lf (.i .i64)]),(142,[.ag .Config]),(106,[.lf (.i .i64), .lf (.i .i64)]),(82,[.lf .b]),(143,[.lf .b]),(122,[.lf .b]),(171,[.lf .b]),(172,[.lf .b]),(147,[.lf (.i .i64)]),(146,[.lf .b]),(158,[.lf (.i .i64)]),(191,[.lf .b]),(192,[.lf (.i .i64)]),(193,[.lf .b]),(175,[.lf (.i .i64), .lf (.l .i64)]),(110,[.lf (.i .i64)]),(179,[.ag .Trust]),(198,[.ag .Trust]),(180,[.lf (.i .i64)]),(127,[.lf (.l .s)]),(77,[.lf .b]),(165,[.lf (.i .i64)]),(166,[]),(167,[.lf (.l .s)]),(189,[.lf (.i .i64)]),(188,[]),(210,[.lf (.i .i64)]),(161,[.lf (.i .i64)]),(184,[.lf (.l .i64)]),(135,[.lf .b]),(136,[.lf .b]),(53,[.lf .b]),(54,[.lf (.i .u32)]),(96,[.ag .Frac, .lf .b]),(13,[.lf (.l .Nominator), .lf .b]),(49,[.lf .s, .lf .b]),(51,[.lf (.i .i64)]),(93,[.lf .b]),(81,[.lf .b]),(26,[.lf .b]),(69,[.lf (.i .i64)]),(107,[.lf .b]),(177,[.lf .b]),(126,[.lf .b]),(128,[.lf (.i .i64), .lf (.i .i64)]),(130,[.ag .Config]),(160,[.lf .b]),(183,[.lf .b]),(129,[.lf .b]),(168,[.lf .b]),(169,[.ag .Trust]),(170,[.lf .b]),(190,[.lf .b]),(195,[.lf (.i .i64), .lf .b]),(215,[.lf (.i .i64)]),(186,[.lf .b]),(187,[.lf (.i .u32)]),(200,[.ag .Frac, .lf .b]),(218,[.lf .b]),(224,[.lf (.i .i64)]),(201,[]),(202,[]),(203,[]),(204,[.lf (.i .i64), .lf (.i .i64)]),(205,[]),(206,[.lf .b]),(207,[.lf (.i .i64)]),(208,[.lf (.i .i64), .lf .b]),(220,[.lf (.i .u64)]),(222,[.lf (.i .i64)]),(223,[.lf (.i .i64)]),(225,[.lf (.i .i64), .lf (.i .i64)]),(162,[.ag .Config]),(211,[.lf .b]),(212,[.lf (.i .i64)]),(214,[.lf .b]),(219,[]),(221,[.lf (.i .u64)]),(185,[.lf .b]),(199,[.lf .b]),(216,[.lf .b]),(217,[.lf (.i .i64)])]
def y44 : List (Nat × List (List (OT sig))) := [(8,[[.lf (.l .i64), .lf (.i .i64)]]),(101,[[.own .s false]]),(71,[[.own .Nomination false]]),(138,[[.own .i64 false]])]
noncomputable def tn : TEn := { E := env, S := sig, res := look1 [] y69, news := look1 [] y44, outs := fun f => if List.contains [72,145,167] f then some [[.undef]] else none, cut := fun _ _ => false }
def qed (fn : Func) : Code := match fn.body with | some c => c | none => .skip
def q0b (fn : Func) (p : List Nat) : Code := qie p (qed fn)
def y8b (fn : Func) (p ms : List Nat) : List Fr := qgl p (qed fn) ms []
abbrev o0' : OSpec sig := ⟨[.lf .b],[]⟩
abbrev o1' : OSpec sig := ⟨[.lf (.i .i64)],[]⟩
abbrev o2' : OSpec sig := ⟨[],[[.own .s false]]⟩
abbrev o3' : OSpec sig := ⟨[.lf (.i .i64), .lf (.i .i64)],[]⟩
abbrev o4' : OSpec sig := ⟨[.lf (.i .i64), .lf .b],[[.own .s false]]⟩
abbrev o5' : OSpec sig := ⟨[.lf (.l .s)],[]⟩
abbrev o6' : OSpec sig := ⟨[.ag .Nominator],[]⟩
abbrev o7' : OSpec sig := ⟨[.lf (.i .i64), .lf .b],[]⟩
abbrev o8' : OSpec sig := ⟨[.lf .b],[[.own .s false]]⟩
abbrev o9' : OSpec sig := ⟨[.ag .Frac, .lf .b],[]⟩
abbrev o10' : OSpec sig := ⟨[.lf (.i .i64)],[[.own .s false]]⟩
abbrev o11' : OSpec sig := ⟨[.ag .Trust],[[.lf (.l .i64), .lf (.i .i64)]]⟩
abbrev o12' : OSpec sig := ⟨[.ag .Nominator, .lf (.i .i64)],[]⟩
abbrev o13' : OSpec sig := ⟨[.lf .s, .lf .b],[]⟩
abbrev o14' : OSpec sig := ⟨[.ag .Config],[]⟩
abbrev o15' : OSpec sig := ⟨[.ag .Trust],[]⟩
abbrev o16' : OSpec sig := ⟨[.lf (.i .i64)],[[.lf (.l .i64), .lf (.i .i64)]]⟩
abbrev o17' : OSpec sig := ⟨[.lf (.l .i64)],[[.lf (.l .i64), .lf (.i .i64)]]⟩
abbrev o18' : OSpec sig := ⟨[.lf (.l .s)],[[.lf (.l .i64), .lf (.i .i64)]]⟩
abbrev o19' : OSpec sig := ⟨[.lf (.l .i64)],[]⟩
abbrev o20' : OSpec sig := ⟨[.ag .Nomination],[]⟩
abbrev o21' : OSpec sig := ⟨[.lf .b],[[.lf (.i .i64), .lf (.i .i64), .lf (.i .i64), .lf (.i .i64), .lf (.i .i64), .lf (.l .i64), .lf (.l .Trust), .lf .s, .lf (.l .s), .lf (.l .s), .lf (.l .s), .lf (.l .Nomination)]]⟩
abbrev o22' : OSpec sig := ⟨[.lf (.i .i64)],[[.lf (.i .i64), .lf (.i .i64), .lf (.i .i64), .lf (.i .i64), .lf (.i .i64), .lf (.l .i64), .lf (.l .Trust), .lf .s, .lf (.l .s), .lf (.l .s), .lf (.l .s), .lf (.l .Nomination)]]⟩
abbrev o23' : OSpec sig := ⟨[.lf (.i .i64), .lf (.l .i64)],[]⟩
abbrev o24' : OSpec sig := ⟨[.lf (.i .u32)],[]⟩
abbrev o25' : OSpec sig := ⟨[.lf (.i .i64)],[[.own .s false],[.lf (.i .i64)]]⟩
abbrev o26' : OSpec sig := ⟨[.ptr 0 0],[[.lf (.l .i64), .lf (.i .i64)]]⟩
abbrev o27' : OSpec sig := ⟨[.ag .Nomination],[[.lf (.l .i64), .lf (.i .i64)]]⟩
abbrev o28' : OSpec sig := ⟨[.lf .s],[[.lf (.l .i64), .lf (.i .i64)]]⟩
abbrev o29' : OSpec sig := ⟨[.ag .Nominator, .lf (.i .i64)],[[.lf (.l .i64), .lf (.i .i64)]]⟩
abbrev o30' : OSpec sig := ⟨[.lf (.i .i64), .lf (.i .i64)],[[.own .s false]]⟩
abbrev o31' : OSpec sig := ⟨[.lf (.i .i64), .lf (.i .i64)],[[.own .s false],[.lf (.i .i64)]]⟩
abbrev o32' : OSpec sig := ⟨[.lf (.i .u64)],[[.lf (.i .u64)]]⟩
def eL {α : Type} (b a : Option α) : Prop := ∀ r, a = some r → b = some r
theorem cL {f : FuncId} {fn : Func} {vs : List (TL sig)} {hs : THeap sig} (o : OSpec sig) (hf : Tryz.prog.funcs[f]? = some fn) {p : Option o.Out} (hok : env.ok f = true := by kernel_rfl) (hb : fn.body = some (qed fn) := by kernel_rfl) (hn0 : (decide (vs.length ≤ fn.ntmps) && (q6c Tryz.prog fn (qed fn)).isNone && (env.seek f).isNone && (env.lib f).isNone) = true := by kernel_rfl) (h : te tn ⟨f, fn, hs.length⟩ o 100000 (qed fn) [] ⟨bindT 0 vs, hs⟩ = p := by kernel_rfl) : eL (callC tn f vs hs o) p := qyq (T := tn) sigOk 100000 hok hf hb hn0 h
theorem gL {F : Fx} (o : OSpec sig) (b : Code) {c : Code} {K : List Fr} {s : TSt sig} {p : Option o.Out} (hc : c = .loop b := by kernel_rfl) (h : te tn F o 100000 b (.loop b s.heap.length :: K) s = p := by kernel_rfl) : eL (goC tn F o c K s) p := qtf (T := tn) sigOk 100000 hc h
end Go.Proofs.YtglokalgdbegeaaGreat
