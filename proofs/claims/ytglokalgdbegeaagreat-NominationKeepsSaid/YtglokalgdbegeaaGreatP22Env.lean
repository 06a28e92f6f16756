/- The seat's program for the machines. -/
import Derived.Test.YtglokalgdbegeaaGreatP22An
import Derived.Test.YtglokalgdbegeaaGreatMachT
import Derived.Test.YtglokalgdbegeaaGreatChecked
namespace Go.Proofs.YtglokalgdbegeaaGreat
open Go Go.Ab
def look1 {α : Type} (d : α) : List (Nat × α) -> Nat -> α
 | [], _ => d
 | (k, v) :: r, t => if k = t then v else look1 d r t
def an : An := { flag := fun f t => if (look1 [] y72 f).contains t then .keep else .view, clear := fun f => look1 [] (look1 [] y3f f), mode := fun f => look1 0 (look1 [] y8v f), order := fun f => look1 [] (look1 [] y4p f), own := fun f => anOwn.contains f }
def lastF : Nat := 225
def badF : List Nat := [2,3,4,6,7,11,13,15,17,20,24,32,33,34,35,36,37,38,40,41,42,45,47,48,49,52,53,54,59,60,61,62,85,86,87,88,90,91,96,108,109,110,111,112,113,115,116,124,125,126,127,128,129,130,148,149,150,151,152,153,154,155,156,159,160,161,162,173,174,176,177,178,179,180,181,182,183,184,185,194,196,197,198,199,209,213,215,216,217]
def okF (h : Nat) : Bool := decide (2 <= h /\ h <= lastF) && !badF.contains h
noncomputable def qwg : List (Nat × Option (List AV -> Heap -> Option (AV × Heap))) := [(72, some (q2n 7)),(145, some (q2n 1)),(167, some q46)]
noncomputable def env : Env0 := { P := Tryz.prog, glob := fun _ => none, an := an, ok := okF, lib := look1 none qwg }
structure Trust where
 Threshold : Int
 Nodes : List (Int)
 Inner : List (Trust)
structure Nomination where
 Node : Int
 Seq : Int
 Trust : Trust
 Votes : List (List UInt8)
 Accepts : List (List UInt8)
structure Claim where
 Topic : Int
 Value : Int
structure Frac where
 Num : Int
 Den : Int
structure Tape where
 l : List (Int)
 at_ : Int
structure Nominator where
 Node : Int
 Slot : Int
 Round : Int
 Seq : Int
 Trust : Trust
 Own : List UInt8
 Votes : List (List UInt8)
 Accepts : List (List UInt8)
 Candidates : List (List UInt8)
 Heard : List (Nomination)
structure Member where
 Declared : Bool
 Trust : Trust
structure Message where
 Node : Int
 Seq : Int
 Trust : Trust
 Votes : List (Claim)
 Accepts : List (Claim)
structure Config where
 Members : List (Member)
inductive TC where
 | i64 | l_i64 | Trust | l_Trust | s | l_s | Nomination | l_Nomination | b | Claim | l_Claim | Frac | Tape | Nominator | Member | l_Member | Message | Config
 deriving DecidableEq
def Ty : TC -> Type
 | .i64 => Int
 | .l_i64 => List (Int)
 | .Trust => Trust
 | .l_Trust => List (Trust)
 | .s => List UInt8
 | .l_s => List (List UInt8)
 | .Nomination => Nomination
 | .l_Nomination => List (Nomination)
 | .b => Bool
 | .Claim => Claim
 | .l_Claim => List (Claim)
 | .Frac => Frac
 | .Tape => Tape
 | .Nominator => Nominator
 | .Member => Member
 | .l_Member => List (Member)
 | .Message => Message
 | .Config => Config
abbrev Lv := Leaf TC Ty
def asL (c : TC) : Lv -> Option (List (Ty c))
 | .l c' xs => if h : c' = c then some (h ▸ xs) else none
 | _ => none
theorem q2a {c : TC} {x : Lv} {xs : List (Ty c)} (h : asL c x = some xs) : x = .l c xs := by
 cases x with
 | l c' ys =>
  simp only [asL] at h;split at h
  .rename_i hc;subst hc;cases h; rfl
  .cases h
 | _ => cases h
def q6i (x : Int) : D := .v (.int .i64 x)
theorem q8r (x y : Int) (h : q6i x = q6i y) : x = y := q2h h
def qor (x : Int) : List Lv := [.i .i64 x]
def qb8 : List Lv -> Option (Int)
 | [.i .i64 x] => some x
 | _ => none
theorem y82 (cs : List Lv) (x : Int) (h : qb8 cs = some x) : qor x = cs := by
 unfold qb8 at h;split at h
 .cases h; rfl
 .cases h
def qh7 (x : List (Int)) : D := .list (x.map q6i)
theorem qx4 (x y : List (Int)) (h : qh7 x = qh7 y) : x = y := q11 q8r h
def qhg (x : List (Int)) : List Lv := [.l .i64 x]
def qcf : List Lv -> Option (List (Int))
 | [x] => asL .i64 x
 | _ => none
theorem y0d : ∀ (cs : List Lv) (x : List (Int)), qcf cs = some x -> qhg x = cs
 | [y], x, h => by rw [q2a (c := .i64) (x := y) (xs := x) h]; rfl
 | [], x, h => by
  have h' : (none : Option (List (Int))) = some x := h;cases h'
 | _ :: _ :: _, x, h => by
  have h' : (none : Option (List (Int))) = some x := h;cases h'
mutual
def q27 : Trust -> D
 | ⟨a0, a1, a2⟩ => .agg [.v (.int .i64 a0), .list ((a1).map q6i), .list (q36 a2)]
def q36 : List Trust -> List D
 | [] => []
 | x :: r => q27 x :: q36 r
end
theorem qcq : ∀ l : List Trust, q36 l = l.map q27
 | [] => rfl
 | x :: r => by simp only [q36, qcq r, List.map_cons]
mutual
theorem q5s : ∀ x y : Trust, q27 x = q27 y -> x = y
 | ⟨a0, a1, a2⟩, ⟨b0, b1, b2⟩, h => by
  simp only [q27, D.agg.injEq, List.cons.injEq, and_true] at h;obtain ⟨h0, h1, h2⟩ := h;have e0 : a0 = b0 := q2h h0;have e1 : a1 = b1 := q11 q8r h1;have e2 : a2 = b2 := qj1 _ _ (D.list.inj h2);rw [e0, e1, e2]
theorem qj1 : ∀ x y : List Trust, q36 x = q36 y -> x = y
 | [], [], _ => rfl
 | [], _ :: _, h => by simp [q36] at h
 | _ :: _, [], h => by simp [q36] at h
 | x :: r, y :: r', h => by
  simp only [q36, List.cons.injEq] at h;rw [q5s x y h.1, qj1 r r' h.2]
end
def qb0 (x : Trust) : List Lv := [.i .i64 x.Threshold, .l .i64 x.Nodes, .l .Trust x.Inner]
def q7t : List Lv -> Option Trust
 | [.i .i64 a0, l1, l2] => match asL .i64 l1, asL .Trust l2 with
  | some m1, some m2 => some (Trust.mk a0 m1 m2)
  | _, _ => none
 | _ => none
theorem qzd (cs : List Lv) (x : Trust) (h : q7t cs = some x) : qb0 x = cs := by
 unfold q7t at h;split at h
 .split at h
  .rename_i m1 m2 h1 h2;cases q2a h1;cases q2a h2;cases h; rfl
  .cases h
 .cases h
def qbh (x : List (Trust)) : D := .list (x.map q27)
theorem qqg (x y : List (Trust)) (h : qbh x = qbh y) : x = y := q11 q5s h
def qbz (x : List (Trust)) : List Lv := [.l .Trust x]
def q9l : List Lv -> Option (List (Trust))
 | [x] => asL .Trust x
 | _ => none
theorem qum : ∀ (cs : List Lv) (x : List (Trust)), q9l cs = some x -> qbz x = cs
 | [y], x, h => by rw [q2a (c := .Trust) (x := y) (xs := x) h]; rfl
 | [], x, h => by
  have h' : (none : Option (List (Trust))) = some x := h;cases h'
 | _ :: _ :: _, x, h => by
  have h' : (none : Option (List (Trust))) = some x := h;cases h'
def enc_s (x : List UInt8) : D := .v (.string ⟨⟨x⟩⟩)
theorem inj_s (x y : List UInt8) (h : enc_s x = enc_s y) : x = y := qw0 h
def qwe (x : List UInt8) : List Lv := [.s x]
def qh8 : List Lv -> Option (List UInt8)
 | [.s x] => some x
 | _ => none
theorem of_s (cs : List Lv) (x : List UInt8) (h : qh8 cs = some x) : qwe x = cs := by
 unfold qh8 at h;split at h
 .cases h; rfl
 .cases h
def qqy (x : List (List UInt8)) : D := .list (x.map enc_s)
theorem y4t (x y : List (List UInt8)) (h : qqy x = qqy y) : x = y := q11 inj_s h
def qof (x : List (List UInt8)) : List Lv := [.l .s x]
def qh9 : List Lv -> Option (List (List UInt8))
 | [x] => asL .s x
 | _ => none
theorem y9c : ∀ (cs : List Lv) (x : List (List UInt8)), qh9 cs = some x -> qof x = cs
 | [y], x, h => by rw [q2a (c := .s) (x := y) (xs := x) h]; rfl
 | [], x, h => by
  have h' : (none : Option (List (List UInt8))) = some x := h;cases h'
 | _ :: _ :: _, x, h => by
  have h' : (none : Option (List (List UInt8))) = some x := h;cases h'
def q0s (x : Nomination) : D := .agg [.v (.int .i64 (x.Node)), .v (.int .i64 (x.Seq)), .v (.int .i64 (x.Trust.Threshold)), .list (((x.Trust.Nodes)).map q6i), .list (((x.Trust.Inner)).map q27), .list (((x.Votes)).map enc_s), .list (((x.Accepts)).map enc_s)]
theorem q6j : ∀ x y : Nomination, q0s x = q0s y -> x = y
 | ⟨a0, a1, ⟨a2, a3, a4⟩, a5, a6⟩, ⟨b0, b1, ⟨b2, b3, b4⟩, b5, b6⟩, h => by
  simp only [q0s, D.agg.injEq, List.cons.injEq, and_true] at h;obtain ⟨h0, h1, h2, h3, h4, h5, h6⟩ := h;have e0 : a0 = b0 := q2h h0;have e1 : a1 = b1 := q2h h1;have e2 : a2 = b2 := q2h h2;have e3 : a3 = b3 := q11 q8r h3;have e4 : a4 = b4 := q11 q5s h4;have e5 : a5 = b5 := q11 inj_s h5;have e6 : a6 = b6 := q11 inj_s h6;rw [e0, e1, e2, e3, e4, e5, e6]
def q89 (x : Nomination) : List Lv := [.i .i64 x.Node, .i .i64 x.Seq, .i .i64 x.Trust.Threshold, .l .i64 x.Trust.Nodes, .l .Trust x.Trust.Inner, .l .s x.Votes, .l .s x.Accepts]
def q3x : List Lv -> Option Nomination
 | [.i .i64 a0, .i .i64 a1, .i .i64 a2, l3, l4, l5, l6] => match asL .i64 l3, asL .Trust l4, asL .s l5, asL .s l6 with
  | some m3, some m4, some m5, some m6 => some (Nomination.mk a0 a1 (Trust.mk a2 m3 m4) m5 m6)
  | _, _, _, _ => none
 | _ => none
theorem qln (cs : List Lv) (x : Nomination) (h : q3x cs = some x) : q89 x = cs := by
 unfold q3x at h;split at h
 .split at h
  .rename_i m3 m4 m5 m6 h3 h4 h5 h6;cases q2a h3;cases q2a h4;cases q2a h5;cases q2a h6;cases h; rfl
  .cases h
 .cases h
def q4i (x : List (Nomination)) : D := .list (x.map q0s)
theorem qfe (x y : List (Nomination)) (h : q4i x = q4i y) : x = y := q11 q6j h
def q5y (x : List (Nomination)) : List Lv := [.l .Nomination x]
def q4r : List Lv -> Option (List (Nomination))
 | [x] => asL .Nomination x
 | _ => none
theorem qho : ∀ (cs : List Lv) (x : List (Nomination)), q4r cs = some x -> q5y x = cs
 | [y], x, h => by rw [q2a (c := .Nomination) (x := y) (xs := x) h]; rfl
 | [], x, h => by
  have h' : (none : Option (List (Nomination))) = some x := h;cases h'
 | _ :: _ :: _, x, h => by
  have h' : (none : Option (List (Nomination))) = some x := h;cases h'
def enc_b (x : Bool) : D := .v (.bool x)
theorem inj_b (x y : Bool) (h : enc_b x = enc_b y) : x = y := qt9 h
def qyf (x : Bool) : List Lv := [.b x]
def qi9 : List Lv -> Option (Bool)
 | [.b x] => some x
 | _ => none
theorem of_b (cs : List Lv) (x : Bool) (h : qi9 cs = some x) : qyf x = cs := by
 unfold qi9 at h;split at h
 .cases h; rfl
 .cases h
def q5o (x : Claim) : D := .agg [.v (.int .i64 (x.Topic)), .v (.int .i64 (x.Value))]
theorem qbv : ∀ x y : Claim, q5o x = q5o y -> x = y
 | ⟨a0, a1⟩, ⟨b0, b1⟩, h => by
  simp only [q5o, D.agg.injEq, List.cons.injEq, and_true] at h;obtain ⟨h0, h1⟩ := h;have e0 : a0 = b0 := q2h h0;have e1 : a1 = b1 := q2h h1;rw [e0, e1]
def qgx (x : Claim) : List Lv := [.i .i64 x.Topic, .i .i64 x.Value]
def q7h : List Lv -> Option Claim
 | [.i .i64 a0, .i .i64 a1] => some (Claim.mk a0 a1)
 | _ => none
theorem y07 (cs : List Lv) (x : Claim) (h : q7h cs = some x) : qgx x = cs := by
 unfold q7h at h;split at h
 .cases h; rfl
 .cases h
def qau (x : List (Claim)) : D := .list (x.map q5o)
theorem qpo (x y : List (Claim)) (h : qau x = qau y) : x = y := q11 qbv h
def qc1 (x : List (Claim)) : List Lv := [.l .Claim x]
def q8i : List Lv -> Option (List (Claim))
 | [x] => asL .Claim x
 | _ => none
theorem qv2 : ∀ (cs : List Lv) (x : List (Claim)), q8i cs = some x -> qc1 x = cs
 | [y], x, h => by rw [q2a (c := .Claim) (x := y) (xs := x) h]; rfl
 | [], x, h => by
  have h' : (none : Option (List (Claim))) = some x := h;cases h'
 | _ :: _ :: _, x, h => by
  have h' : (none : Option (List (Claim))) = some x := h;cases h'
def qfw (x : Frac) : D := .agg [.v (.int .i64 (x.Num)), .v (.int .i64 (x.Den))]
theorem qza : ∀ x y : Frac, qfw x = qfw y -> x = y
 | ⟨a0, a1⟩, ⟨b0, b1⟩, h => by
  simp only [qfw, D.agg.injEq, List.cons.injEq, and_true] at h;obtain ⟨h0, h1⟩ := h;have e0 : a0 = b0 := q2h h0;have e1 : a1 = b1 := q2h h1;rw [e0, e1]
def qk6 (x : Frac) : List Lv := [.i .i64 x.Num, .i .i64 x.Den]
def q95 : List Lv -> Option Frac
 | [.i .i64 a0, .i .i64 a1] => some (Frac.mk a0 a1)
 | _ => none
theorem y4i (cs : List Lv) (x : Frac) (h : q95 cs = some x) : qk6 x = cs := by
 unfold q95 at h;split at h
 .cases h; rfl
 .cases h
def qfj (x : Tape) : D := .agg [.list (((x.l)).map q6i), .v (.int .i64 (x.at_))]
theorem y0x : ∀ x y : Tape, qfj x = qfj y -> x = y
 | ⟨a0, a1⟩, ⟨b0, b1⟩, h => by
  simp only [qfj, D.agg.injEq, List.cons.injEq, and_true] at h;obtain ⟨h0, h1⟩ := h;have e0 : a0 = b0 := q11 q8r h0;have e1 : a1 = b1 := q2h h1;rw [e0, e1]
def qj7 (x : Tape) : List Lv := [.l .i64 x.l, .i .i64 x.at_]
def q93 : List Lv -> Option Tape
 | [l0, .i .i64 a1] => match asL .i64 l0 with
  | some m0 => some (Tape.mk m0 a1)
  | _ => none
 | _ => none
theorem y4m (cs : List Lv) (x : Tape) (h : q93 cs = some x) : qj7 x = cs := by
 unfold q93 at h;split at h
 .split at h
  .rename_i m0 h0;cases q2a h0;cases h; rfl
  .cases h
 .cases h
def q4x (x : Nominator) : D := .agg [.v (.int .i64 (x.Node)), .v (.int .i64 (x.Slot)), .v (.int .i64 (x.Round)), .v (.int .i64 (x.Seq)), .v (.int .i64 (x.Trust.Threshold)), .list (((x.Trust.Nodes)).map q6i), .list (((x.Trust.Inner)).map q27), .v (.string ⟨⟨(x.Own)⟩⟩), .list (((x.Votes)).map enc_s), .list (((x.Accepts)).map enc_s), .list (((x.Candidates)).map enc_s), .list (((x.Heard)).map q0s)]
theorem qla : ∀ x y : Nominator, q4x x = q4x y -> x = y
 | ⟨a0, a1, a2, a3, ⟨a4, a5, a6⟩, a7, a8, a9, a10, a11⟩, ⟨b0, b1, b2, b3, ⟨b4, b5, b6⟩, b7, b8, b9, b10, b11⟩, h => by
  simp only [q4x, D.agg.injEq, List.cons.injEq, and_true] at h;obtain ⟨h0, h1, h2, h3, h4, h5, h6, h7, h8, h9, h10, h11⟩ := h;have e0 : a0 = b0 := q2h h0;have e1 : a1 = b1 := q2h h1;have e2 : a2 = b2 := q2h h2;have e3 : a3 = b3 := q2h h3;have e4 : a4 = b4 := q2h h4;have e5 : a5 = b5 := q11 q8r h5;have e6 : a6 = b6 := q11 q5s h6;have e7 : a7 = b7 := qw0 h7;have e8 : a8 = b8 := q11 inj_s h8;have e9 : a9 = b9 := q11 inj_s h9;have e10 : a10 = b10 := q11 inj_s h10;have e11 : a11 = b11 := q11 q6j h11;rw [e0, e1, e2, e3, e4, e5, e6, e7, e8, e9, e10, e11]
def q97 (x : Nominator) : List Lv := [.i .i64 x.Node, .i .i64 x.Slot, .i .i64 x.Round, .i .i64 x.Seq, .i .i64 x.Trust.Threshold, .l .i64 x.Trust.Nodes, .l .Trust x.Trust.Inner, .s x.Own, .l .s x.Votes, .l .s x.Accepts, .l .s x.Candidates, .l .Nomination x.Heard]
def q43 : List Lv -> Option Nominator
 | [.i .i64 a0, .i .i64 a1, .i .i64 a2, .i .i64 a3, .i .i64 a4, l5, l6, .s a7, l8, l9, l10, l11] => match asL .i64 l5, asL .Trust l6, asL .s l8, asL .s l9, asL .s l10, asL .Nomination l11 with
  | some m5, some m6, some m8, some m9, some m10, some m11 => some (Nominator.mk a0 a1 a2 a3 (Trust.mk a4 m5 m6) a7 m8 m9 m10 m11)
  | _, _, _, _, _, _ => none
 | _ => none
theorem qog (cs : List Lv) (x : Nominator) (h : q43 cs = some x) : q97 x = cs := by
 unfold q43 at h;split at h
 .split at h
  .rename_i m5 m6 m8 m9 m10 m11 h5 h6 h8 h9 h10 h11;cases q2a h5;cases q2a h6;cases q2a h8;cases q2a h9;cases q2a h10;cases q2a h11;cases h; rfl
  .cases h
 .cases h
def q58 (x : Member) : D := .agg [.v (.bool (x.Declared)), .v (.int .i64 (x.Trust.Threshold)), .list (((x.Trust.Nodes)).map q6i), .list (((x.Trust.Inner)).map q27)]
theorem qdi : ∀ x y : Member, q58 x = q58 y -> x = y
 | ⟨a0, ⟨a1, a2, a3⟩⟩, ⟨b0, ⟨b1, b2, b3⟩⟩, h => by
  simp only [q58, D.agg.injEq, List.cons.injEq, and_true] at h;obtain ⟨h0, h1, h2, h3⟩ := h;have e0 : a0 = b0 := qt9 h0;have e1 : a1 = b1 := q2h h1;have e2 : a2 = b2 := q11 q8r h2;have e3 : a3 = b3 := q11 q5s h3;rw [e0, e1, e2, e3]
def qep (x : Member) : List Lv := [.b x.Declared, .i .i64 x.Trust.Threshold, .l .i64 x.Trust.Nodes, .l .Trust x.Trust.Inner]
def q6l : List Lv -> Option Member
 | [.b a0, .i .i64 a1, l2, l3] => match asL .i64 l2, asL .Trust l3 with
  | some m2, some m3 => some (Member.mk a0 (Trust.mk a1 m2 m3))
  | _, _ => none
 | _ => none
theorem qwr (cs : List Lv) (x : Member) (h : q6l cs = some x) : qep x = cs := by
 unfold q6l at h;split at h
 .split at h
  .rename_i m2 m3 h2 h3;cases q2a h2;cases q2a h3;cases h; rfl
  .cases h
 .cases h
def q8z (x : List (Member)) : D := .list (x.map q58)
theorem qo2 (x y : List (Member)) (h : q8z x = q8z y) : x = y := q11 qdi h
def qag (x : List (Member)) : List Lv := [.l .Member x]
def q8c : List Lv -> Option (List (Member))
 | [x] => asL .Member x
 | _ => none
theorem qpq : ∀ (cs : List Lv) (x : List (Member)), q8c cs = some x -> qag x = cs
 | [y], x, h => by rw [q2a (c := .Member) (x := y) (xs := x) h]; rfl
 | [], x, h => by
  have h' : (none : Option (List (Member))) = some x := h;cases h'
 | _ :: _ :: _, x, h => by
  have h' : (none : Option (List (Member))) = some x := h;cases h'
def q7m (x : Message) : D := .agg [.v (.int .i64 (x.Node)), .v (.int .i64 (x.Seq)), .v (.int .i64 (x.Trust.Threshold)), .list (((x.Trust.Nodes)).map q6i), .list (((x.Trust.Inner)).map q27), .list (((x.Votes)).map q5o), .list (((x.Accepts)).map q5o)]
theorem qqd : ∀ x y : Message, q7m x = q7m y -> x = y
 | ⟨a0, a1, ⟨a2, a3, a4⟩, a5, a6⟩, ⟨b0, b1, ⟨b2, b3, b4⟩, b5, b6⟩, h => by
  simp only [q7m, D.agg.injEq, List.cons.injEq, and_true] at h;obtain ⟨h0, h1, h2, h3, h4, h5, h6⟩ := h;have e0 : a0 = b0 := q2h h0;have e1 : a1 = b1 := q2h h1;have e2 : a2 = b2 := q2h h2;have e3 : a3 = b3 := q11 q8r h3;have e4 : a4 = b4 := q11 q5s h4;have e5 : a5 = b5 := q11 qbv h5;have e6 : a6 = b6 := q11 qbv h6;rw [e0, e1, e2, e3, e4, e5, e6]
def qbt (x : Message) : List Lv := [.i .i64 x.Node, .i .i64 x.Seq, .i .i64 x.Trust.Threshold, .l .i64 x.Trust.Nodes, .l .Trust x.Trust.Inner, .l .Claim x.Votes, .l .Claim x.Accepts]
def q5r : List Lv -> Option Message
 | [.i .i64 a0, .i .i64 a1, .i .i64 a2, l3, l4, l5, l6] => match asL .i64 l3, asL .Trust l4, asL .Claim l5, asL .Claim l6 with
  | some m3, some m4, some m5, some m6 => some (Message.mk a0 a1 (Trust.mk a2 m3 m4) m5 m6)
  | _, _, _, _ => none
 | _ => none
theorem qtu (cs : List Lv) (x : Message) (h : q5r cs = some x) : qbt x = cs := by
 unfold q5r at h;split at h
 .split at h
  .rename_i m3 m4 m5 m6 h3 h4 h5 h6;cases q2a h3;cases q2a h4;cases q2a h5;cases q2a h6;cases h; rfl
  .cases h
 .cases h
def q9w (x : Config) : D := .agg [.list (((x.Members)).map q58)]
theorem qtr : ∀ x y : Config, q9w x = q9w y -> x = y
 | ⟨a0⟩, ⟨b0⟩, h => by
  simp only [q9w, D.agg.injEq, List.cons.injEq, and_true] at h;have h0 := h;have e0 : a0 = b0 := q11 qdi h0;rw [e0]
def qek (x : Config) : List Lv := [.l .Member x.Members]
def q6h : List Lv -> Option Config
 | [l0] => match asL .Member l0 with
  | some m0 => some (Config.mk m0)
  | _ => none
 | _ => none
theorem qy0 (cs : List Lv) (x : Config) (h : q6h cs = some x) : qek x = cs := by
 unfold q6h at h;split at h
 .split at h
  .rename_i m0 h0;cases q2a h0;cases h; rfl
  .cases h
 .cases h
def encT : (c : TC) -> Ty c -> D
 | .i64 => q6i
 | .l_i64 => qh7
 | .Trust => q27
 | .l_Trust => qbh
 | .s => enc_s
 | .l_s => qqy
 | .Nomination => q0s
 | .l_Nomination => q4i
 | .b => enc_b
 | .Claim => q5o
 | .l_Claim => qau
 | .Frac => qfw
 | .Tape => qfj
 | .Nominator => q4x
 | .Member => q58
 | .l_Member => q8z
 | .Message => q7m
 | .Config => q9w
def y5k : (c : TC) -> Ty c -> List Lv
 | .i64 => qor
 | .l_i64 => qhg
 | .Trust => qb0
 | .l_Trust => qbz
 | .s => qwe
 | .l_s => qof
 | .Nomination => q89
 | .l_Nomination => q5y
 | .b => qyf
 | .Claim => qgx
 | .l_Claim => qc1
 | .Frac => qk6
 | .Tape => qj7
 | .Nominator => q97
 | .Member => qep
 | .l_Member => qag
 | .Message => qbt
 | .Config => qek
def y0n : (c : TC) -> List Lv -> Option (Ty c)
 | .i64 => qb8
 | .l_i64 => qcf
 | .Trust => q7t
 | .l_Trust => q9l
 | .s => qh8
 | .l_s => qh9
 | .Nomination => q3x
 | .l_Nomination => q4r
 | .b => qi9
 | .Claim => q7h
 | .l_Claim => q8i
 | .Frac => q95
 | .Tape => q93
 | .Nominator => q43
 | .Member => q6l
 | .l_Member => q8c
 | .Message => q5r
 | .Config => q6h
def aggF : TC -> Bool
 | .i64 => false
 | .l_i64 => false
 | .Trust => true
 | .l_Trust => false
 | .s => false
 | .l_s => false
 | .Nomination => true
 | .l_Nomination => false
 | .b => false
 | .Claim => true
 | .l_Claim => false
 | .Frac => true
 | .Tape => true
 | .Nominator => true
 | .Member => true
 | .l_Member => false
 | .Message => true
 | .Config => true
def sizeF : TC -> Nat
 | .i64 => 1
 | .l_i64 => 1
 | .Trust => 3
 | .l_Trust => 1
 | .s => 1
 | .l_s => 1
 | .Nomination => 7
 | .l_Nomination => 1
 | .b => 1
 | .Claim => 2
 | .l_Claim => 1
 | .Frac => 2
 | .Tape => 2
 | .Nominator => 12
 | .Member => 4
 | .l_Member => 1
 | .Message => 7
 | .Config => 1
def qvt : List (TypeId × TC × TypeId) := [(22, .i64,3),(26, .Trust, 28),(33, .Nominator, 37),(34, .s, 9),(35, .Nomination, 55),(44, .Member, 51),(140, .Message, 143),(141, .Claim, 184)]
def qzj : List (TypeId × List (Option TC)) := [(22,[some .i64]),(26,[some .Trust]),(27,[none, some .i64, some .Trust]),(28,[none, some .i64, some .Trust]),(33,[some .Nominator]),(34,[some .s]),(35,[some .Nomination]),(36,[none, none, none, none, none, some .i64, some .Trust, none, some .s, some .s, some .s, some .Nomination]),(37,[none, none, none, none, none, some .i64, some .Trust, none, some .s, some .s, some .s, some .Nomination]),(44,[some .Member]),(45,[some .Member]),(46,[some .Member]),(50,[none, none, some .i64, some .Trust]),(51,[none, none, some .i64, some .Trust]),(54,[none, none, none, some .i64, some .Trust, some .s, some .s]),(55,[none, none, none, some .i64, some .Trust, some .s, some .s]),(76,[none]),(79,[some .i64, none]),(80,[some .i64, none]),(105,[none]),(140,[some .Message]),(141,[some .Claim]),(142,[none, none, none, some .i64, some .Trust, some .Claim, some .Claim]),(143,[none, none, none, some .i64, some .Trust, some .Claim, some .Claim])]
def elemF : List (TypeId × TC × TypeId) -> TypeId -> Option TC
 | [], _ => none
 | (u, c, _) :: r, t => if u = t then some c else elemF r t
def sig : Sig := { TC := TC, Ty := Ty, enc := encT, cells := y5k, ofCells := y0n, agg := aggF, size := sizeF, elem := elemF qvt, lists := look1 [] qzj }
theorem qrj (P : Program) : ∀ (tab : List (TypeId × TC × TypeId)), (tab.all fun p => q1u P p.1 == some p.2.2 && tyAgg P p.2.2 == some (aggF p.2.1) && q0e P p.2.2 == some (sizeF p.2.1)) = true -> ∀ t c, elemF tab t = some c -> ∃ e, q1u P t = some e /\ tyAgg P e = some (aggF c) /\ q0e P e = some (sizeF c)
 | [], _, _, _, h => by cases h
 | (u, d, e) :: r, ha, t, c, h => by
  simp only [List.all_cons, aT, beq_iff_eq] at ha;simp only [elemF] at h;split at h
  .rename_i hu; cases h; subst hu; exact ⟨e, ha.1.1.1, ha.1.1.2, ha.1.2⟩
  .exact qrj P r ha.2 t c h
theorem qqk (x : Trust) : sig.enc .Trust x = (packT (S := sig) true (qb0 x)).toD := by
 cases x;show q27 _ = _;simp only [q27, qcq];rfl
theorem sigOk : sig.Ok Tryz.prog where
 enc_eq := fun c x => by cases c <;> first | rfl | exact qqk x
 of_eq := fun c cs x h => by
  have : sig.cells c x = cs := by
   cases c
   .exact y82 cs x h
   .exact y0d cs x h
   .exact qzd cs x h
   .exact qum cs x h
   .exact of_s cs x h
   .exact y9c cs x h
   .exact qln cs x h
   .exact qho cs x h
   .exact of_b cs x h
   .exact y07 cs x h
   .exact qv2 cs x h
   .exact y4i cs x h
   .exact y4m cs x h
   .exact qog cs x h
   .exact qwr cs x h
   .exact qpq cs x h
   .exact qtu cs x h
   .exact qy0 cs x h
  rw [this]
 inj := fun c x y h => by
  cases c
  .exact q8r x y h
  .exact qx4 x y h
  .exact q5s x y h
  .exact qqg x y h
  .exact inj_s x y h
  .exact y4t x y h
  .exact q6j x y h
  .exact qfe x y h
  .exact inj_b x y h
  .exact qbv x y h
  .exact qpo x y h
  .exact qza x y h
  .exact y0x x y h
  .exact qla x y h
  .exact qdi x y h
  .exact qo2 x y h
  .exact qqd x y h
  .exact qtr x y h
 len := fun c x => by cases c <;> rfl
 pos := fun c => by cases c <;> decide
 one := fun c h => by cases c <;> first | rfl | cases h
 elem := qrj Tryz.prog qvt (by kernel_rfl)
def y66 : List (Nat × List (OT sig)) := [(5,[.lf .b]),(8,[.ptr 0 0]),(10,[.lf (.i .i64)]),(27,[.ag .Trust]),(18,[.lf .s]),(12,[.ag .Nominator, .lf (.i .i64)]),(74,[.ag .Trust]),(75,[.lf (.i .i64)]),(55,[.lf .b]),(56,[.lf (.i .i64)]),(58,[.ag .Nominator]),(57,[.ag .Nominator]),(117,[.lf (.l .i64)]),(9,[.lf (.i .i64)]),(118,[.lf (.i .i64)]),(119,[.lf (.i .i64)]),(120,[.lf (.i .i64)]),(97,[.lf (.i .i64)]),(98,[.lf (.i .i64)]),(99,[.lf (.i .i64)]),(102,[.lf (.l .s)]),(103,[.ag .Config]),(104,[.lf .s, .lf .b]),(100,[.ag .Trust]),(101,[.ref 0]),(134,[.lf .b]),(137,[.lf (.i .i64), .lf (.i .i64)]),(139,[.lf (.i .i64), .lf (.i .i64)]),(140,[.lf (.l .i64)]),(71,[.ref 0]),(65,[.ag .Nomination]),(141,[.lf (.l .s)]),(138,[.ref 0]),(163,[.lf (.i .i64)]),(164,[.lf (.i .i64)]),(28,[.ag .Nominator, .lf (.i .i64)]),(29,[.lf .b]),(30,[.lf .b]),(26,[.lf .b]),(31,[.lf .b]),(14,[.lf .b]),(19,[.ag .Nominator, .lf (.i .i64)]),(46,[.ag .Nominator, .lf (.i .i64)]),(22,[.ag .Nomination]),(23,[.ag .Nominator, .lf (.i .i64)]),(76,[.lf .b]),(78,[.lf .b]),(79,[.lf .b]),(80,[.lf .b]),(83,[.lf .b]),(84,[.lf .b]),(25,[.lf .s, .lf .b]),(63,[.ag .Nominator]),(92,[.lf .b]),(67,[.lf (.l .s)]),(43,[.lf .b]),(68,[.lf (.i .i64), .lf .b]),(72,[.lf (.l .Nomination)]),(121,[.lf (.i .i64)]),(123,[.lf .b]),(89,[.lf .b]),(131,[.lf .b]),(132,[.lf .b]),(16,[.lf (.i .i64)]),(105,[.lf (.l .s)]),(144,[.lf (.i .i64), .lf .b]),(145,[.lf (.l .s)]),(64,[.ag .Nomination]),(157,[.lf (.i .i64), .lf (.i .i64)]),(142,[.ag .Config]),(106,[.lf (.i .i64), .lf (.i .i64)]),(82,[.lf .b]),(143,[.lf .b]),(122,[.lf .b]),(171,[.lf .b]),(172,[.lf .b]),(147,[.lf (.i .i64)]),(146,[.lf .b]),(158,[.lf (.i .i64)]),(191,[.lf .b]),(192,[.lf (.i .i64)]),(193,[.lf .b]),(175,[.lf (.i .i64), .lf (.l .i64)]),(165,[.lf (.i .i64)]),(166,[]),(167,[.lf (.l .s)]),(189,[.lf (.i .i64)]),(188,[]),(210,[.lf (.i .i64)]),(135,[.lf .b]),(136,[.lf .b]),(77,[.lf .b]),(39,[.lf .b]),(93,[.lf .b]),(51,[.lf (.i .i64)]),(73,[.lf .b]),(50,[.lf (.i .i64)]),(70,[.lf (.i .i64)]),(95,[.lf (.i .i64)]),(94,[.lf (.i .i64)]),(114,[.lf .b]),(133,[.lf .b]),(69,[.lf (.i .i64)]),(81,[.lf .b]),(107,[.lf .b]),(21,[.lf .b]),(66,[.lf .b]),(168,[.lf .b]),(169,[.ag .Trust]),(170,[.lf .b]),(190,[.lf .b]),(195,[.lf (.i .i64), .lf .b]),(186,[.lf .b]),(187,[.lf (.i .u32)]),(200,[.ag .Frac, .lf .b]),(218,[.lf .b]),(224,[.lf (.i .i64)]),(201,[]),(202,[]),(203,[]),(204,[.lf (.i .i64), .lf (.i .i64)]),(205,[]),(206,[.lf .b]),(207,[.lf (.i .i64)]),(208,[.lf (.i .i64), .lf .b]),(220,[.lf (.i .u64)]),(222,[.lf (.i .i64)]),(223,[.lf (.i .i64)]),(225,[.lf (.i .i64), .lf (.i .i64)]),(44,[.lf .b]),(211,[.lf .b]),(212,[.lf (.i .i64)]),(214,[.lf .b]),(219,[]),(221,[.lf (.i .u64)])]
def y4k : List (Nat × List (List (OT sig))) := [(8,[[.lf (.l .i64), .lf (.i .i64)]]),(101,[[.own .s false]]),(71,[[.own .Nomination false]]),(138,[[.own .i64 false]])]
noncomputable def tn : TEn := { E := env, S := sig, res := look1 [] y66, news := look1 [] y4k, outs := fun f => if List.contains [72,145,167] f then some [[.undef]] else none, cut := fun _ _ => false }
def qea (fn : Func) : Code := match fn.body with | some c => c | none => .skip
def q0b (fn : Func) (p : List Nat) : Code := qgi p (qea fn)
def y56 (fn : Func) (p ms : List Nat) : List Fr := qgw p (qea fn) ms []
abbrev o0' : OSpec sig := ⟨[.lf .b],[]⟩
abbrev o1' : OSpec sig := ⟨[.lf (.i .i64)],[]⟩
abbrev o2' : OSpec sig := ⟨[],[[.own .s false]]⟩
abbrev o3' : OSpec sig := ⟨[.lf (.i .i64), .lf (.i .i64)],[]⟩
abbrev o4' : OSpec sig := ⟨[.lf (.i .i64), .lf .b],[[.own .s false]]⟩
abbrev o5' : OSpec sig := ⟨[.lf (.l .s)],[]⟩
abbrev o6' : OSpec sig := ⟨[.ag .Nominator],[]⟩
abbrev o7' : OSpec sig := ⟨[.lf (.i .i64), .lf .b],[]⟩
abbrev o8' : OSpec sig := ⟨[.lf .b],[[.own .s false]]⟩
abbrev o9' : OSpec sig := ⟨[.lf (.i .i64)],[[.own .s false]]⟩
abbrev o10' : OSpec sig := ⟨[.ag .Trust],[[.lf (.l .i64), .lf (.i .i64)]]⟩
abbrev o11' : OSpec sig := ⟨[.ag .Nominator, .lf (.i .i64)],[]⟩
abbrev o12' : OSpec sig := ⟨[.ag .Config],[]⟩
abbrev o13' : OSpec sig := ⟨[.lf .s, .lf .b],[]⟩
abbrev o14' : OSpec sig := ⟨[.ag .Trust],[]⟩
abbrev o15' : OSpec sig := ⟨[.lf (.i .i64)],[[.lf (.l .i64), .lf (.i .i64)]]⟩
abbrev o16' : OSpec sig := ⟨[.lf (.l .i64)],[[.lf (.l .i64), .lf (.i .i64)]]⟩
abbrev o17' : OSpec sig := ⟨[.lf (.l .i64)],[]⟩
abbrev o18' : OSpec sig := ⟨[.ag .Nomination],[]⟩
abbrev o19' : OSpec sig := ⟨[.lf .b],[[.lf (.i .i64), .lf (.i .i64), .lf (.i .i64), .lf (.i .i64), .lf (.i .i64), .lf (.l .i64), .lf (.l .Trust), .lf .s, .lf (.l .s), .lf (.l .s), .lf (.l .s), .lf (.l .Nomination)]]⟩
abbrev o20' : OSpec sig := ⟨[.lf (.l .s)],[[.lf (.l .i64), .lf (.i .i64)]]⟩
abbrev o21' : OSpec sig := ⟨[.lf (.i .i64)],[[.lf (.i .i64), .lf (.i .i64), .lf (.i .i64), .lf (.i .i64), .lf (.i .i64), .lf (.l .i64), .lf (.l .Trust), .lf .s, .lf (.l .s), .lf (.l .s), .lf (.l .s), .lf (.l .Nomination)]]⟩
abbrev o22' : OSpec sig := ⟨[.lf (.i .i64), .lf (.l .i64)],[]⟩
abbrev o23' : OSpec sig := ⟨[.ag .Frac, .lf .b],[]⟩
abbrev o24' : OSpec sig := ⟨[.lf (.i .i64)],[[.own .s false],[.lf (.i .i64)]]⟩
abbrev o25' : OSpec sig := ⟨[.ptr 0 0],[[.lf (.l .i64), .lf (.i .i64)]]⟩
abbrev o26' : OSpec sig := ⟨[.lf .s],[[.lf (.l .i64), .lf (.i .i64)]]⟩
abbrev o27' : OSpec sig := ⟨[.ag .Nominator, .lf (.i .i64)],[[.lf (.l .i64), .lf (.i .i64)]]⟩
abbrev o28' : OSpec sig := ⟨[.ag .Nomination],[[.lf (.l .i64), .lf (.i .i64)]]⟩
abbrev o29' : OSpec sig := ⟨[.lf (.i .i64), .lf (.i .i64)],[[.own .s false]]⟩
abbrev o30' : OSpec sig := ⟨[.lf (.i .i64), .lf (.i .i64)],[[.own .s false],[.lf (.i .i64)]]⟩
abbrev o31' : OSpec sig := ⟨[.lf (.i .u64)],[[.lf (.i .u64)]]⟩
def eL {α : Type} (b a : Option α) : Prop := ∀ r, a = some r -> b = some r
theorem cL {f : FuncId} {fn : Func} {vs : List (TL sig)} {hs : THeap sig} (o : OSpec sig) (hf : Tryz.prog.funcs[f]? = some fn) {p : Option o.Out} (hok : env.ok f = true := by kernel_rfl) (hb : fn.body = some (qea fn) := by kernel_rfl) (hn0 : (decide (vs.length <= fn.ntmps) && (q6g Tryz.prog fn (qea fn)).isNone && (env.seek f).isNone && (env.lib f).isNone) = true := by kernel_rfl) (h : te tn ⟨f, fn, hs.length⟩ o 100000 (qea fn) [] ⟨bindT 0 vs, hs⟩ = p := by kernel_rfl) : eL (callC tn f vs hs o) p := qz8 (T := tn) sigOk 100000 hok hf hb hn0 h
theorem gL {F : Fx} (o : OSpec sig) (b : Code) {c : Code} {K : List Fr} {s : TSt sig} {p : Option o.Out} (hc : c = .loop b := by kernel_rfl) (h : te tn F o 100000 b (.loop b s.heap.length :: K) s = p := by kernel_rfl) : eL (goC tn F o c K s) p := qtz (T := tn) sigOk 100000 hc h
end Go.Proofs.YtglokalgdbegeaaGreat
