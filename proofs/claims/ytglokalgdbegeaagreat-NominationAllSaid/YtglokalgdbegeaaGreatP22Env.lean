/- The seat's program for the machines. -/
import Derived.Test.YtglokalgdbegeaaGreatP22An
import Derived.Test.YtglokalgdbegeaaGreatMachT
import Derived.Test.YtglokalgdbegeaaGreatChecked
namespace Go.Proofs.YtglokalgdbegeaaGreat
open Go Go.Ab
def look1 {α : Type} (d : α) : List (Nat × α) -> Nat -> α
 | [], _ => d
 | (k, v) :: r, t => if k = t then v else look1 d r t
def an : An := { flag := fun f t => if (look1 [] y8l f).contains t then .keep else .view, clear := fun f => look1 [] (look1 [] y6a f), mode := fun f => look1 0 (look1 [] y79 f), order := fun f => look1 [] (look1 [] y69 f), own := fun f => anOwn.contains f }
def lastF : Nat := 225
def badF : List Nat := [2,4,5,6,7,15,16,17,18,19,22,24,26,27,28,29,32,33,34,35,36,37,38,40,41,42,44,45,46,47,48,49,51,59,60,61,62,67,74,76,77,85,86,87,88,90,91,93,108,109,110,111,112,113,115,116,117,124,125,126,127,128,129,130,148,149,150,151,152,153,154,155,156,159,160,161,162,173,174,176,177,178,179,180,181,182,183,184,185,194,196,197,198,199,209,213,215,216,217]
def okF (h : Nat) : Bool := decide (2 <= h /\ h <= lastF) && !badF.contains h
noncomputable def qys : List (Nat × Option (List AV -> Heap -> Option (AV × Heap))) := [(72, some (q2p 7)),(145, some (q2p 1)),(167, some q47)]
noncomputable def env : Env0 := { P := Tryz.prog, glob := fun _ => none, an := an, ok := okF, lib := look1 none qys }
structure Tape where
 l : List (Int)
 at_ : Int
structure Claim where
 Topic : Int
 Value : Int
structure Arr2_i64 where
 e0 : Int
 e1 : Int
structure Frac where
 Num : Int
 Den : Int
structure Trust where
 Threshold : Int
 Nodes : List (Int)
 Inner : List (Trust)
structure Nomination where
 Node : Int
 Seq : Int
 Trust : Trust
 Votes : List (List UInt8)
 Accepts : List (List UInt8)
structure Member where
 Declared : Bool
 Trust : Trust
structure Message where
 Node : Int
 Seq : Int
 Trust : Trust
 Votes : List (Claim)
 Accepts : List (Claim)
structure Nominator where
 Node : Int
 Slot : Int
 Round : Int
 Seq : Int
 Trust : Trust
 Own : List UInt8
 Votes : List (List UInt8)
 Accepts : List (List UInt8)
 Candidates : List (List UInt8)
 Heard : List (Nomination)
structure Config where
 Members : List (Member)
inductive TC where
 | i64 | l_i64 | s | l_s | Tape | b | Claim | l_Claim | Arr2_i64 | Frac | Trust | l_Trust | Nomination | l_Nomination | Member | l_Member | Message | Nominator | Config
 deriving DecidableEq
def Ty : TC -> Type
 | .i64 => Int
 | .l_i64 => List (Int)
 | .s => List UInt8
 | .l_s => List (List UInt8)
 | .Tape => Tape
 | .b => Bool
 | .Claim => Claim
 | .l_Claim => List (Claim)
 | .Arr2_i64 => Arr2_i64
 | .Frac => Frac
 | .Trust => Trust
 | .l_Trust => List (Trust)
 | .Nomination => Nomination
 | .l_Nomination => List (Nomination)
 | .Member => Member
 | .l_Member => List (Member)
 | .Message => Message
 | .Nominator => Nominator
 | .Config => Config
abbrev Lv := Leaf TC Ty
def asL (c : TC) : Lv -> Option (List (Ty c))
 | .l c' xs => if h : c' = c then some (h ▸ xs) else none
 | _ => none
theorem q2i {c : TC} {x : Lv} {xs : List (Ty c)} (h : asL c x = some xs) : x = .l c xs := by
 cases x with
 | l c' ys =>
  simp only [asL] at h;split at h
  .rename_i hc;subst hc;cases h; rfl
  .cases h
 | _ => cases h
def q6x (x : Int) : D := .v (.int .i64 x)
theorem q9m (x y : Int) (h : q6x x = q6x y) : x = y := q26 h
def qpl (x : Int) : List Lv := [.i .i64 x]
def qbe : List Lv -> Option (Int)
 | [.i .i64 x] => some x
 | _ => none
theorem yam (cs : List Lv) (x : Int) (h : qbe cs = some x) : qpl x = cs := by
 unfold qbe at h;split at h
 .cases h; rfl
 .cases h
def qi3 (x : List (Int)) : D := .list (x.map q6x)
theorem qxh (x y : List (Int)) (h : qi3 x = qi3 y) : x = y := q11 q9m h
def qi6 (x : List (Int)) : List Lv := [.l .i64 x]
def qdg : List Lv -> Option (List (Int))
 | [x] => asL .i64 x
 | _ => none
theorem y1l : ∀ (cs : List Lv) (x : List (Int)), qdg cs = some x -> qi6 x = cs
 | [y], x, h => by rw [q2i (c := .i64) (x := y) (xs := x) h]; rfl
 | [], x, h => by
  have h' : (none : Option (List (Int))) = some x := h;cases h'
 | _ :: _ :: _, x, h => by
  have h' : (none : Option (List (Int))) = some x := h;cases h'
def enc_s (x : List UInt8) : D := .v (.string ⟨⟨x⟩⟩)
theorem inj_s (x y : List UInt8) (h : enc_s x = enc_s y) : x = y := qzk h
def qxu (x : List UInt8) : List Lv := [.s x]
def qi2 : List Lv -> Option (List UInt8)
 | [.s x] => some x
 | _ => none
theorem of_s (cs : List Lv) (x : List UInt8) (h : qi2 cs = some x) : qxu x = cs := by
 unfold qi2 at h;split at h
 .cases h; rfl
 .cases h
def qql (x : List (List UInt8)) : D := .list (x.map enc_s)
theorem y6g (x y : List (List UInt8)) (h : qql x = qql y) : x = y := q11 inj_s h
def qpg (x : List (List UInt8)) : List Lv := [.l .s x]
def qjb : List Lv -> Option (List (List UInt8))
 | [x] => asL .s x
 | _ => none
theorem y9y : ∀ (cs : List Lv) (x : List (List UInt8)), qjb cs = some x -> qpg x = cs
 | [y], x, h => by rw [q2i (c := .s) (x := y) (xs := x) h]; rfl
 | [], x, h => by
  have h' : (none : Option (List (List UInt8))) = some x := h;cases h'
 | _ :: _ :: _, x, h => by
  have h' : (none : Option (List (List UInt8))) = some x := h;cases h'
def qgj (x : Tape) : D := .agg [.list (((x.l)).map q6x), .v (.int .i64 (x.at_))]
theorem y0e : ∀ x y : Tape, qgj x = qgj y -> x = y
 | ⟨a0, a1⟩, ⟨b0, b1⟩, h => by
  simp only [qgj, D.agg.injEq, List.cons.injEq, and_true] at h;obtain ⟨h0, h1⟩ := h;have e0 : a0 = b0 := q11 q9m h0;have e1 : a1 = b1 := q26 h1;rw [e0, e1]
def qk4 (x : Tape) : List Lv := [.l .i64 x.l, .i .i64 x.at_]
def q95 : List Lv -> Option Tape
 | [l0, .i .i64 a1] => match asL .i64 l0 with
  | some m0 => some (Tape.mk m0 a1)
  | _ => none
 | _ => none
theorem y55 (cs : List Lv) (x : Tape) (h : q95 cs = some x) : qk4 x = cs := by
 unfold q95 at h;split at h
 .split at h
  .rename_i m0 h0;cases q2i h0;cases h; rfl
  .cases h
 .cases h
def enc_b (x : Bool) : D := .v (.bool x)
theorem inj_b (x y : Bool) (h : enc_b x = enc_b y) : x = y := qtz h
def qy8 (x : Bool) : List Lv := [.b x]
def qhb : List Lv -> Option (Bool)
 | [.b x] => some x
 | _ => none
theorem of_b (cs : List Lv) (x : Bool) (h : qhb cs = some x) : qy8 x = cs := by
 unfold qhb at h;split at h
 .cases h; rfl
 .cases h
def q5v (x : Claim) : D := .agg [.v (.int .i64 (x.Topic)), .v (.int .i64 (x.Value))]
theorem qdl : ∀ x y : Claim, q5v x = q5v y -> x = y
 | ⟨a0, a1⟩, ⟨b0, b1⟩, h => by
  simp only [q5v, D.agg.injEq, List.cons.injEq, and_true] at h;obtain ⟨h0, h1⟩ := h;have e0 : a0 = b0 := q26 h0;have e1 : a1 = b1 := q26 h1;rw [e0, e1]
def qjf (x : Claim) : List Lv := [.i .i64 x.Topic, .i .i64 x.Value]
def q81 : List Lv -> Option Claim
 | [.i .i64 a0, .i .i64 a1] => some (Claim.mk a0 a1)
 | _ => none
theorem y1t (cs : List Lv) (x : Claim) (h : q81 cs = some x) : qjf x = cs := by
 unfold q81 at h;split at h
 .cases h; rfl
 .cases h
def qbl (x : List (Claim)) : D := .list (x.map q5v)
theorem qrz (x y : List (Claim)) (h : qbl x = qbl y) : x = y := q11 qdl h
def qd5 (x : List (Claim)) : List Lv := [.l .Claim x]
def qa3 : List Lv -> Option (List (Claim))
 | [x] => asL .Claim x
 | _ => none
theorem qvl : ∀ (cs : List Lv) (x : List (Claim)), qa3 cs = some x -> qd5 x = cs
 | [y], x, h => by rw [q2i (c := .Claim) (x := y) (xs := x) h]; rfl
 | [], x, h => by
  have h' : (none : Option (List (Claim))) = some x := h;cases h'
 | _ :: _ :: _, x, h => by
  have h' : (none : Option (List (Claim))) = some x := h;cases h'
def q6h (x : Arr2_i64) : D := .agg [.v (.int .i64 (x.e0)), .v (.int .i64 (x.e1))]
theorem qor : ∀ x y : Arr2_i64, q6h x = q6h y -> x = y
 | ⟨a0, a1⟩, ⟨b0, b1⟩, h => by
  simp only [q6h, D.agg.injEq, List.cons.injEq, and_true] at h;obtain ⟨h0, h1⟩ := h;have e0 : a0 = b0 := q26 h0;have e1 : a1 = b1 := q26 h1;rw [e0, e1]
def qb1 (x : Arr2_i64) : List Lv := [.i .i64 x.e0, .i .i64 x.e1]
def q4y : List Lv -> Option Arr2_i64
 | [.i .i64 a0, .i .i64 a1] => some (Arr2_i64.mk a0 a1)
 | _ => none
theorem qs1 (cs : List Lv) (x : Arr2_i64) (h : q4y cs = some x) : qb1 x = cs := by
 unfold q4y at h;split at h
 .cases h; rfl
 .cases h
def qgo (x : Frac) : D := .agg [.v (.int .i64 (x.Num)), .v (.int .i64 (x.Den))]
theorem y29 : ∀ x y : Frac, qgo x = qgo y -> x = y
 | ⟨a0, a1⟩, ⟨b0, b1⟩, h => by
  simp only [qgo, D.agg.injEq, List.cons.injEq, and_true] at h;obtain ⟨h0, h1⟩ := h;have e0 : a0 = b0 := q26 h0;have e1 : a1 = b1 := q26 h1;rw [e0, e1]
def qkn (x : Frac) : List Lv := [.i .i64 x.Num, .i .i64 x.Den]
def q93 : List Lv -> Option Frac
 | [.i .i64 a0, .i .i64 a1] => some (Frac.mk a0 a1)
 | _ => none
theorem y61 (cs : List Lv) (x : Frac) (h : q93 cs = some x) : qkn x = cs := by
 unfold q93 at h;split at h
 .cases h; rfl
 .cases h
mutual
def q2d : Trust -> D
 | ⟨a0, a1, a2⟩ => .agg [.v (.int .i64 a0), .list ((a1).map q6x), .list (q3a a2)]
def q3a : List Trust -> List D
 | [] => []
 | x :: r => q2d x :: q3a r
end
theorem qdf : ∀ l : List Trust, q3a l = l.map q2d
 | [] => rfl
 | x :: r => by simp only [q3a, qdf r, List.map_cons]
mutual
theorem q5z : ∀ x y : Trust, q2d x = q2d y -> x = y
 | ⟨a0, a1, a2⟩, ⟨b0, b1, b2⟩, h => by
  simp only [q2d, D.agg.injEq, List.cons.injEq, and_true] at h;obtain ⟨h0, h1, h2⟩ := h;have e0 : a0 = b0 := q26 h0;have e1 : a1 = b1 := q11 q9m h1;have e2 : a2 = b2 := qk9 _ _ (D.list.inj h2);rw [e0, e1, e2]
theorem qk9 : ∀ x y : List Trust, q3a x = q3a y -> x = y
 | [], [], _ => rfl
 | [], _ :: _, h => by simp [q3a] at h
 | _ :: _, [], h => by simp [q3a] at h
 | x :: r, y :: r', h => by
  simp only [q3a, List.cons.injEq] at h;rw [q5z x y h.1, qk9 r r' h.2]
end
def qbh (x : Trust) : List Lv := [.i .i64 x.Threshold, .l .i64 x.Nodes, .l .Trust x.Inner]
def q8a : List Lv -> Option Trust
 | [.i .i64 a0, l1, l2] => match asL .i64 l1, asL .Trust l2 with
  | some m1, some m2 => some (Trust.mk a0 m1 m2)
  | _, _ => none
 | _ => none
theorem y0i (cs : List Lv) (x : Trust) (h : q8a cs = some x) : qbh x = cs := by
 unfold q8a at h;split at h
 .split at h
  .rename_i m1 m2 h1 h2;cases q2i h1;cases q2i h2;cases h; rfl
  .cases h
 .cases h
def qc2 (x : List (Trust)) : D := .list (x.map q2d)
theorem qre (x y : List (Trust)) (h : qc2 x = qc2 y) : x = y := q11 q5z h
def qde (x : List (Trust)) : List Lv := [.l .Trust x]
def q98 : List Lv -> Option (List (Trust))
 | [x] => asL .Trust x
 | _ => none
theorem qvb : ∀ (cs : List Lv) (x : List (Trust)), q98 cs = some x -> qde x = cs
 | [y], x, h => by rw [q2i (c := .Trust) (x := y) (xs := x) h]; rfl
 | [], x, h => by
  have h' : (none : Option (List (Trust))) = some x := h;cases h'
 | _ :: _ :: _, x, h => by
  have h' : (none : Option (List (Trust))) = some x := h;cases h'
def q0t (x : Nomination) : D := .agg [.v (.int .i64 (x.Node)), .v (.int .i64 (x.Seq)), .v (.int .i64 (x.Trust.Threshold)), .list (((x.Trust.Nodes)).map q6x), .list (((x.Trust.Inner)).map q2d), .list (((x.Votes)).map enc_s), .list (((x.Accepts)).map enc_s)]
theorem q6s : ∀ x y : Nomination, q0t x = q0t y -> x = y
 | ⟨a0, a1, ⟨a2, a3, a4⟩, a5, a6⟩, ⟨b0, b1, ⟨b2, b3, b4⟩, b5, b6⟩, h => by
  simp only [q0t, D.agg.injEq, List.cons.injEq, and_true] at h;obtain ⟨h0, h1, h2, h3, h4, h5, h6⟩ := h;have e0 : a0 = b0 := q26 h0;have e1 : a1 = b1 := q26 h1;have e2 : a2 = b2 := q26 h2;have e3 : a3 = b3 := q11 q9m h3;have e4 : a4 = b4 := q11 q5z h4;have e5 : a5 = b5 := q11 inj_s h5;have e6 : a6 = b6 := q11 inj_s h6;rw [e0, e1, e2, e3, e4, e5, e6]
def q8m (x : Nomination) : List Lv := [.i .i64 x.Node, .i .i64 x.Seq, .i .i64 x.Trust.Threshold, .l .i64 x.Trust.Nodes, .l .Trust x.Trust.Inner, .l .s x.Votes, .l .s x.Accepts]
def q44 : List Lv -> Option Nomination
 | [.i .i64 a0, .i .i64 a1, .i .i64 a2, l3, l4, l5, l6] => match asL .i64 l3, asL .Trust l4, asL .s l5, asL .s l6 with
  | some m3, some m4, some m5, some m6 => some (Nomination.mk a0 a1 (Trust.mk a2 m3 m4) m5 m6)
  | _, _, _, _ => none
 | _ => none
theorem qlb (cs : List Lv) (x : Nomination) (h : q44 cs = some x) : q8m x = cs := by
 unfold q44 at h;split at h
 .split at h
  .rename_i m3 m4 m5 m6 h3 h4 h5 h6;cases q2i h3;cases q2i h4;cases q2i h5;cases q2i h6;cases h; rfl
  .cases h
 .cases h
def q4z (x : List (Nomination)) : D := .list (x.map q0t)
theorem qg9 (x y : List (Nomination)) (h : q4z x = q4z y) : x = y := q11 q6s h
def q6a (x : List (Nomination)) : List Lv := [.l .Nomination x]
def q52 : List Lv -> Option (List (Nomination))
 | [x] => asL .Nomination x
 | _ => none
theorem qif : ∀ (cs : List Lv) (x : List (Nomination)), q52 cs = some x -> q6a x = cs
 | [y], x, h => by rw [q2i (c := .Nomination) (x := y) (xs := x) h]; rfl
 | [], x, h => by
  have h' : (none : Option (List (Nomination))) = some x := h;cases h'
 | _ :: _ :: _, x, h => by
  have h' : (none : Option (List (Nomination))) = some x := h;cases h'
def q5m (x : Member) : D := .agg [.v (.bool (x.Declared)), .v (.int .i64 (x.Trust.Threshold)), .list (((x.Trust.Nodes)).map q6x), .list (((x.Trust.Inner)).map q2d)]
theorem qet : ∀ x y : Member, q5m x = q5m y -> x = y
 | ⟨a0, ⟨a1, a2, a3⟩⟩, ⟨b0, ⟨b1, b2, b3⟩⟩, h => by
  simp only [q5m, D.agg.injEq, List.cons.injEq, and_true] at h;obtain ⟨h0, h1, h2, h3⟩ := h;have e0 : a0 = b0 := qtz h0;have e1 : a1 = b1 := q26 h1;have e2 : a2 = b2 := q11 q9m h2;have e3 : a3 = b3 := q11 q5z h3;rw [e0, e1, e2, e3]
def qfk (x : Member) : List Lv := [.b x.Declared, .i .i64 x.Trust.Threshold, .l .i64 x.Trust.Nodes, .l .Trust x.Trust.Inner]
def q6y : List Lv -> Option Member
 | [.b a0, .i .i64 a1, l2, l3] => match asL .i64 l2, asL .Trust l3 with
  | some m2, some m3 => some (Member.mk a0 (Trust.mk a1 m2 m3))
  | _, _ => none
 | _ => none
theorem qwl (cs : List Lv) (x : Member) (h : q6y cs = some x) : qfk x = cs := by
 unfold q6y at h;split at h
 .split at h
  .rename_i m2 m3 h2 h3;cases q2i h2;cases q2i h3;cases h; rfl
  .cases h
 .cases h
def q9a (x : List (Member)) : D := .list (x.map q5m)
theorem qou (x y : List (Member)) (h : q9a x = q9a y) : x = y := q11 qet h
def qbb (x : List (Member)) : List Lv := [.l .Member x]
def q8t : List Lv -> Option (List (Member))
 | [x] => asL .Member x
 | _ => none
theorem qrl : ∀ (cs : List Lv) (x : List (Member)), q8t cs = some x -> qbb x = cs
 | [y], x, h => by rw [q2i (c := .Member) (x := y) (xs := x) h]; rfl
 | [], x, h => by
  have h' : (none : Option (List (Member))) = some x := h;cases h'
 | _ :: _ :: _, x, h => by
  have h' : (none : Option (List (Member))) = some x := h;cases h'
def q88 (x : Message) : D := .agg [.v (.int .i64 (x.Node)), .v (.int .i64 (x.Seq)), .v (.int .i64 (x.Trust.Threshold)), .list (((x.Trust.Nodes)).map q6x), .list (((x.Trust.Inner)).map q2d), .list (((x.Votes)).map q5v), .list (((x.Accepts)).map q5v)]
theorem qs3 : ∀ x y : Message, q88 x = q88 y -> x = y
 | ⟨a0, a1, ⟨a2, a3, a4⟩, a5, a6⟩, ⟨b0, b1, ⟨b2, b3, b4⟩, b5, b6⟩, h => by
  simp only [q88, D.agg.injEq, List.cons.injEq, and_true] at h;obtain ⟨h0, h1, h2, h3, h4, h5, h6⟩ := h;have e0 : a0 = b0 := q26 h0;have e1 : a1 = b1 := q26 h1;have e2 : a2 = b2 := q26 h2;have e3 : a3 = b3 := q11 q9m h3;have e4 : a4 = b4 := q11 q5z h4;have e5 : a5 = b5 := q11 qdl h5;have e6 : a6 = b6 := q11 qdl h6;rw [e0, e1, e2, e3, e4, e5, e6]
def qcw (x : Message) : List Lv := [.i .i64 x.Node, .i .i64 x.Seq, .i .i64 x.Trust.Threshold, .l .i64 x.Trust.Nodes, .l .Trust x.Trust.Inner, .l .Claim x.Votes, .l .Claim x.Accepts]
def q63 : List Lv -> Option Message
 | [.i .i64 a0, .i .i64 a1, .i .i64 a2, l3, l4, l5, l6] => match asL .i64 l3, asL .Trust l4, asL .Claim l5, asL .Claim l6 with
  | some m3, some m4, some m5, some m6 => some (Message.mk a0 a1 (Trust.mk a2 m3 m4) m5 m6)
  | _, _, _, _ => none
 | _ => none
theorem qvm (cs : List Lv) (x : Message) (h : q63 cs = some x) : qcw x = cs := by
 unfold q63 at h;split at h
 .split at h
  .rename_i m3 m4 m5 m6 h3 h4 h5 h6;cases q2i h3;cases q2i h4;cases q2i h5;cases q2i h6;cases h; rfl
  .cases h
 .cases h
def q5c (x : Nominator) : D := .agg [.v (.int .i64 (x.Node)), .v (.int .i64 (x.Slot)), .v (.int .i64 (x.Round)), .v (.int .i64 (x.Seq)), .v (.int .i64 (x.Trust.Threshold)), .list (((x.Trust.Nodes)).map q6x), .list (((x.Trust.Inner)).map q2d), .v (.string ⟨⟨(x.Own)⟩⟩), .list (((x.Votes)).map enc_s), .list (((x.Accepts)).map enc_s), .list (((x.Candidates)).map enc_s), .list (((x.Heard)).map q0t)]
theorem qn6 : ∀ x y : Nominator, q5c x = q5c y -> x = y
 | ⟨a0, a1, a2, a3, ⟨a4, a5, a6⟩, a7, a8, a9, a10, a11⟩, ⟨b0, b1, b2, b3, ⟨b4, b5, b6⟩, b7, b8, b9, b10, b11⟩, h => by
  simp only [q5c, D.agg.injEq, List.cons.injEq, and_true] at h;obtain ⟨h0, h1, h2, h3, h4, h5, h6, h7, h8, h9, h10, h11⟩ := h;have e0 : a0 = b0 := q26 h0;have e1 : a1 = b1 := q26 h1;have e2 : a2 = b2 := q26 h2;have e3 : a3 = b3 := q26 h3;have e4 : a4 = b4 := q26 h4;have e5 : a5 = b5 := q11 q9m h5;have e6 : a6 = b6 := q11 q5z h6;have e7 : a7 = b7 := qzk h7;have e8 : a8 = b8 := q11 inj_s h8;have e9 : a9 = b9 := q11 inj_s h9;have e10 : a10 = b10 := q11 inj_s h10;have e11 : a11 = b11 := q11 q6s h11;rw [e0, e1, e2, e3, e4, e5, e6, e7, e8, e9, e10, e11]
def qa2 (x : Nominator) : List Lv := [.i .i64 x.Node, .i .i64 x.Slot, .i .i64 x.Round, .i .i64 x.Seq, .i .i64 x.Trust.Threshold, .l .i64 x.Trust.Nodes, .l .Trust x.Trust.Inner, .s x.Own, .l .s x.Votes, .l .s x.Accepts, .l .s x.Candidates, .l .Nomination x.Heard]
def q4k : List Lv -> Option Nominator
 | [.i .i64 a0, .i .i64 a1, .i .i64 a2, .i .i64 a3, .i .i64 a4, l5, l6, .s a7, l8, l9, l10, l11] => match asL .i64 l5, asL .Trust l6, asL .s l8, asL .s l9, asL .s l10, asL .Nomination l11 with
  | some m5, some m6, some m8, some m9, some m10, some m11 => some (Nominator.mk a0 a1 a2 a3 (Trust.mk a4 m5 m6) a7 m8 m9 m10 m11)
  | _, _, _, _, _, _ => none
 | _ => none
theorem qox (cs : List Lv) (x : Nominator) (h : q4k cs = some x) : qa2 x = cs := by
 unfold q4k at h;split at h
 .split at h
  .rename_i m5 m6 m8 m9 m10 m11 h5 h6 h8 h9 h10 h11;cases q2i h5;cases q2i h6;cases q2i h8;cases q2i h9;cases q2i h10;cases q2i h11;cases h; rfl
  .cases h
 .cases h
def qaa (x : Config) : D := .agg [.list (((x.Members)).map q5m)]
theorem qui : ∀ x y : Config, qaa x = qaa y -> x = y
 | ⟨a0⟩, ⟨b0⟩, h => by
  simp only [qaa, D.agg.injEq, List.cons.injEq, and_true] at h;have h0 := h;have e0 : a0 = b0 := q11 qet h0;rw [e0]
def qfo (x : Config) : List Lv := [.l .Member x.Members]
def q6v : List Lv -> Option Config
 | [l0] => match asL .Member l0 with
  | some m0 => some (Config.mk m0)
  | _ => none
 | _ => none
theorem qz8 (cs : List Lv) (x : Config) (h : q6v cs = some x) : qfo x = cs := by
 unfold q6v at h;split at h
 .split at h
  .rename_i m0 h0;cases q2i h0;cases h; rfl
  .cases h
 .cases h
def encT : (c : TC) -> Ty c -> D
 | .i64 => q6x
 | .l_i64 => qi3
 | .s => enc_s
 | .l_s => qql
 | .Tape => qgj
 | .b => enc_b
 | .Claim => q5v
 | .l_Claim => qbl
 | .Arr2_i64 => q6h
 | .Frac => qgo
 | .Trust => q2d
 | .l_Trust => qc2
 | .Nomination => q0t
 | .l_Nomination => q4z
 | .Member => q5m
 | .l_Member => q9a
 | .Message => q88
 | .Nominator => q5c
 | .Config => qaa
def y7p : (c : TC) -> Ty c -> List Lv
 | .i64 => qpl
 | .l_i64 => qi6
 | .s => qxu
 | .l_s => qpg
 | .Tape => qk4
 | .b => qy8
 | .Claim => qjf
 | .l_Claim => qd5
 | .Arr2_i64 => qb1
 | .Frac => qkn
 | .Trust => qbh
 | .l_Trust => qde
 | .Nomination => q8m
 | .l_Nomination => q6a
 | .Member => qfk
 | .l_Member => qbb
 | .Message => qcw
 | .Nominator => qa2
 | .Config => qfo
def y2q : (c : TC) -> List Lv -> Option (Ty c)
 | .i64 => qbe
 | .l_i64 => qdg
 | .s => qi2
 | .l_s => qjb
 | .Tape => q95
 | .b => qhb
 | .Claim => q81
 | .l_Claim => qa3
 | .Arr2_i64 => q4y
 | .Frac => q93
 | .Trust => q8a
 | .l_Trust => q98
 | .Nomination => q44
 | .l_Nomination => q52
 | .Member => q6y
 | .l_Member => q8t
 | .Message => q63
 | .Nominator => q4k
 | .Config => q6v
def aggF : TC -> Bool
 | .i64 => false
 | .l_i64 => false
 | .s => false
 | .l_s => false
 | .Tape => true
 | .b => false
 | .Claim => true
 | .l_Claim => false
 | .Arr2_i64 => true
 | .Frac => true
 | .Trust => true
 | .l_Trust => false
 | .Nomination => true
 | .l_Nomination => false
 | .Member => true
 | .l_Member => false
 | .Message => true
 | .Nominator => true
 | .Config => true
def sizeF : TC -> Nat
 | .i64 => 1
 | .l_i64 => 1
 | .s => 1
 | .l_s => 1
 | .Tape => 2
 | .b => 1
 | .Claim => 2
 | .l_Claim => 1
 | .Arr2_i64 => 2
 | .Frac => 2
 | .Trust => 3
 | .l_Trust => 1
 | .Nomination => 7
 | .l_Nomination => 1
 | .Member => 4
 | .l_Member => 1
 | .Message => 7
 | .Nominator => 12
 | .Config => 1
def qwq : List (TypeId × TC × TypeId) := [(22, .i64,3),(26, .Trust, 28),(33, .Nominator, 37),(34, .s, 9),(35, .Nomination, 55),(44, .Member, 51),(76, .Arr2_i64,75),(140, .Message, 143),(141, .Claim, 184)]
def y1n : List (TypeId × List (Option TC)) := [(22,[some .i64]),(26,[some .Trust]),(27,[none, some .i64, some .Trust]),(28,[none, some .i64, some .Trust]),(33,[some .Nominator]),(34,[some .s]),(35,[some .Nomination]),(36,[none, none, none, none, none, some .i64, some .Trust, none, some .s, some .s, some .s, some .Nomination]),(37,[none, none, none, none, none, some .i64, some .Trust, none, some .s, some .s, some .s, some .Nomination]),(44,[some .Member]),(45,[some .Member]),(46,[some .Member]),(50,[none, none, some .i64, some .Trust]),(51,[none, none, some .i64, some .Trust]),(54,[none, none, none, some .i64, some .Trust, some .s, some .s]),(55,[none, none, none, some .i64, some .Trust, some .s, some .s]),(76,[some .Arr2_i64]),(79,[some .i64, none]),(80,[some .i64, none]),(105,[none]),(140,[some .Message]),(141,[some .Claim]),(142,[none, none, none, some .i64, some .Trust, some .Claim, some .Claim]),(143,[none, none, none, some .i64, some .Trust, some .Claim, some .Claim])]
def elemF : List (TypeId × TC × TypeId) -> TypeId -> Option TC
 | [], _ => none
 | (u, c, _) :: r, t => if u = t then some c else elemF r t
def sig : Sig := { TC := TC, Ty := Ty, enc := encT, cells := y7p, ofCells := y2q, agg := aggF, size := sizeF, elem := elemF qwq, lists := look1 [] y1n }
theorem qt2 (P : Program) : ∀ (tab : List (TypeId × TC × TypeId)), (tab.all fun p => q1x P p.1 == some p.2.2 && tyAgg P p.2.2 == some (aggF p.2.1) && q0e P p.2.2 == some (sizeF p.2.1)) = true -> ∀ t c, elemF tab t = some c -> ∃ e, q1x P t = some e /\ tyAgg P e = some (aggF c) /\ q0e P e = some (sizeF c)
 | [], _, _, _, h => by cases h
 | (u, d, e) :: r, ha, t, c, h => by
  simp only [List.all_cons, aT, beq_iff_eq] at ha;simp only [elemF] at h;split at h
  .rename_i hu; cases h; subst hu; exact ⟨e, ha.1.1.1, ha.1.1.2, ha.1.2⟩
  .exact qt2 P r ha.2 t c h
theorem qqn (x : Trust) : sig.enc .Trust x = (packT (S := sig) true (qbh x)).toD := by
 cases x;show q2d _ = _;simp only [q2d, qdf];rfl
theorem sigOk : sig.Ok Tryz.prog where
 enc_eq := fun c x => by cases c <;> first | rfl | exact qqn x
 of_eq := fun c cs x h => by
  have : sig.cells c x = cs := by
   cases c
   .exact yam cs x h
   .exact y1l cs x h
   .exact of_s cs x h
   .exact y9y cs x h
   .exact y55 cs x h
   .exact of_b cs x h
   .exact y1t cs x h
   .exact qvl cs x h
   .exact qs1 cs x h
   .exact y61 cs x h
   .exact y0i cs x h
   .exact qvb cs x h
   .exact qlb cs x h
   .exact qif cs x h
   .exact qwl cs x h
   .exact qrl cs x h
   .exact qvm cs x h
   .exact qox cs x h
   .exact qz8 cs x h
  rw [this]
 inj := fun c x y h => by
  cases c
  .exact q9m x y h
  .exact qxh x y h
  .exact inj_s x y h
  .exact y6g x y h
  .exact y0e x y h
  .exact inj_b x y h
  .exact qdl x y h
  .exact qrz x y h
  .exact qor x y h
  .exact y29 x y h
  .exact q5z x y h
  .exact qre x y h
  .exact q6s x y h
  .exact qg9 x y h
  .exact qet x y h
  .exact qou x y h
  .exact qs3 x y h
  .exact qn6 x y h
  .exact qui x y h
 len := fun c x => by cases c <;> rfl
 pos := fun c => by cases c <;> decide
 one := fun c h => by cases c <;> first | rfl | cases h
 elem := qt2 Tryz.prog qwq (by kernel_rfl)
def yau : List (Nat × List (OT sig)) := [(3,[.lf .b]),(8,[.ptr 0 0]),(10,[.lf (.i .i64)]),(9,[.lf (.i .i64)]),(14,[.lf .b]),(12,[.ag .Nominator, .lf (.i .i64)]),(25,[.lf .s, .lf .b]),(75,[.lf (.i .i64)]),(55,[.lf .b]),(56,[.lf (.i .i64)]),(58,[.ag .Nominator]),(57,[.ag .Nominator]),(118,[.lf (.i .i64)]),(119,[.lf (.i .i64)]),(120,[.lf (.i .i64)]),(97,[.lf (.i .i64)]),(98,[.lf (.i .i64)]),(99,[.lf (.i .i64)]),(102,[.lf (.l .s)]),(103,[.ag .Config]),(104,[.lf .s, .lf .b]),(100,[.ag .Trust]),(101,[.ref 0]),(134,[.lf .b]),(137,[.lf (.i .i64), .lf (.i .i64)]),(139,[.lf (.i .i64), .lf (.i .i64)]),(140,[.lf (.l .i64)]),(71,[.ref 0]),(65,[.ag .Nomination]),(141,[.lf (.l .s)]),(138,[.ref 0]),(66,[.lf .b]),(163,[.lf (.i .i64)]),(164,[.lf (.i .i64)]),(11,[.lf (.i .i64), .lf (.i .i64)]),(52,[.lf (.i .i64)]),(30,[.lf .b]),(31,[.lf .b]),(20,[.ag .Nomination]),(39,[.lf .b]),(78,[.lf .b]),(79,[.lf .b]),(80,[.lf .b]),(89,[.lf .b]),(83,[.lf .b]),(84,[.lf .b]),(64,[.ag .Nomination]),(121,[.lf (.i .i64)]),(92,[.lf .b]),(123,[.lf .b]),(131,[.lf .b]),(132,[.lf .b]),(21,[.lf .b]),(23,[.ag .Nominator, .lf (.i .i64)]),(63,[.ag .Nominator]),(43,[.lf .b]),(68,[.lf (.i .i64), .lf .b]),(72,[.lf (.l .Nomination)]),(73,[.lf .b]),(50,[.lf (.i .i64)]),(70,[.lf (.i .i64)]),(95,[.lf (.i .i64)]),(94,[.lf (.i .i64)]),(114,[.lf .b]),(133,[.lf .b]),(105,[.lf (.l .s)]),(144,[.lf (.i .i64), .lf .b]),(145,[.lf (.l .s)]),(157,[.lf (.i .i64), .lf (.i .i64)]),(142,[.ag .Config]),(106,[.lf (.i .i64), .lf (.i .i64)]),(82,[.lf .b]),(143,[.lf .b]),(122,[.lf .b]),(171,[.lf .b]),(172,[.lf .b]),(147,[.lf (.i .i64)]),(146,[.lf .b]),(158,[.lf (.i .i64)]),(191,[.lf .b]),(192,[.lf (.i .i64)]),(193,[.lf .b]),(175,[.lf (.i .i64), .lf (.l .i64)]),(165,[.lf (.i .i64)]),(166,[]),(167,[.lf (.l .s)]),(189,[.lf (.i .i64)]),(188,[]),(210,[.lf (.i .i64)]),(135,[.lf .b]),(136,[.lf .b]),(53,[.lf .b]),(54,[.lf (.i .u32)]),(96,[.ag .Frac, .lf .b]),(13,[.lf (.l .Nominator), .lf .b]),(81,[.lf .b]),(69,[.lf (.i .i64)]),(107,[.lf .b]),(168,[.lf .b]),(169,[.ag .Trust]),(170,[.lf .b]),(190,[.lf .b]),(195,[.lf (.i .i64), .lf .b]),(186,[.lf .b]),(187,[.lf (.i .u32)]),(200,[.ag .Frac, .lf .b]),(218,[.lf .b]),(224,[.lf (.i .i64)]),(201,[]),(202,[]),(203,[]),(204,[.lf (.i .i64), .lf (.i .i64)]),(205,[]),(206,[.lf .b]),(207,[.lf (.i .i64)]),(208,[.lf (.i .i64), .lf .b]),(220,[.lf (.i .u64)]),(222,[.lf (.i .i64)]),(223,[.lf (.i .i64)]),(225,[.lf (.i .i64), .lf (.i .i64)]),(211,[.lf .b]),(212,[.lf (.i .i64)]),(214,[.lf .b]),(219,[]),(221,[.lf (.i .u64)])]
def y50 : List (Nat × List (List (OT sig))) := [(8,[[.lf (.l .i64), .lf (.i .i64)]]),(101,[[.own .s false]]),(71,[[.own .Nomination false]]),(138,[[.own .i64 false]])]
noncomputable def tn : TEn := { E := env, S := sig, res := look1 [] yau, news := look1 [] y50, outs := fun f => if List.contains [72,145,167] f then some [[.undef]] else none, cut := fun _ _ => false }
def qfw (fn : Func) : Code := match fn.body with | some c => c | none => .skip
def q0b (fn : Func) (p : List Nat) : Code := qi1 p (qfw fn)
def yb8 (fn : Func) (p ms : List Nat) : List Fr := qhs p (qfw fn) ms []
abbrev o0' : OSpec sig := ⟨[.lf .b],[]⟩
abbrev o1' : OSpec sig := ⟨[.lf (.i .i64)],[]⟩
abbrev o2' : OSpec sig := ⟨[],[[.own .s false]]⟩
abbrev o3' : OSpec sig := ⟨[.lf (.i .i64), .lf (.i .i64)],[]⟩
abbrev o4' : OSpec sig := ⟨[.lf (.i .i64), .lf .b],[[.own .s false]]⟩
abbrev o5' : OSpec sig := ⟨[.lf (.l .s)],[]⟩
abbrev o6' : OSpec sig := ⟨[.ag .Nominator],[]⟩
abbrev o7' : OSpec sig := ⟨[.lf (.i .i64), .lf .b],[]⟩
abbrev o8' : OSpec sig := ⟨[.lf .b],[[.own .s false]]⟩
abbrev o9' : OSpec sig := ⟨[.ag .Frac, .lf .b],[]⟩
abbrev o10' : OSpec sig := ⟨[.lf (.i .i64)],[[.own .s false]]⟩
abbrev o11' : OSpec sig := ⟨[.lf .s, .lf .b],[]⟩
abbrev o12' : OSpec sig := ⟨[.ag .Config],[]⟩
abbrev o13' : OSpec sig := ⟨[.ag .Trust],[]⟩
abbrev o14' : OSpec sig := ⟨[.lf (.l .Nominator), .lf .b],[]⟩
abbrev o15' : OSpec sig := ⟨[.ag .Nomination],[]⟩
abbrev o16' : OSpec sig := ⟨[.lf (.i .i64)],[[.lf (.l .i64), .lf (.i .i64)]]⟩
abbrev o17' : OSpec sig := ⟨[.ag .Nominator, .lf (.i .i64)],[]⟩
abbrev o18' : OSpec sig := ⟨[.lf (.l .i64)],[]⟩
abbrev o19' : OSpec sig := ⟨[.lf .b],[[.lf (.i .i64), .lf (.i .i64), .lf (.i .i64), .lf (.i .i64), .lf (.i .i64), .lf (.l .i64), .lf (.l .Trust), .lf .s, .lf (.l .s), .lf (.l .s), .lf (.l .s), .lf (.l .Nomination)]]⟩
abbrev o20' : OSpec sig := ⟨[.lf (.i .i64)],[[.lf (.i .i64), .lf (.i .i64), .lf (.i .i64), .lf (.i .i64), .lf (.i .i64), .lf (.l .i64), .lf (.l .Trust), .lf .s, .lf (.l .s), .lf (.l .s), .lf (.l .s), .lf (.l .Nomination)]]⟩
abbrev o21' : OSpec sig := ⟨[.lf (.i .i64), .lf (.l .i64)],[]⟩
abbrev o22' : OSpec sig := ⟨[.lf (.i .u32)],[]⟩
abbrev o23' : OSpec sig := ⟨[.lf (.i .i64)],[[.own .s false],[.lf (.i .i64)]]⟩
abbrev o24' : OSpec sig := ⟨[.ptr 0 0],[[.lf (.l .i64), .lf (.i .i64)]]⟩
abbrev o25' : OSpec sig := ⟨[.lf (.i .i64), .lf (.i .i64)],[[.own .s false]]⟩
abbrev o26' : OSpec sig := ⟨[.lf (.i .i64), .lf (.i .i64)],[[.own .s false],[.lf (.i .i64)]]⟩
abbrev o27' : OSpec sig := ⟨[.lf (.i .u64)],[[.lf (.i .u64)]]⟩
def eL {α : Type} (b a : Option α) : Prop := ∀ r, a = some r -> b = some r
theorem cL {f : FuncId} {fn : Func} {vs : List (TL sig)} {hs : THeap sig} (o : OSpec sig) (hf : Tryz.prog.funcs[f]? = some fn) {p : Option o.Out} (hok : env.ok f = true := by kernel_rfl) (hb : fn.body = some (qfw fn) := by kernel_rfl) (hn0 : (decide (vs.length <= fn.ntmps) && (q6t Tryz.prog fn (qfw fn)).isNone && (env.seek f).isNone && (env.lib f).isNone) = true := by kernel_rfl) (h : te tn ⟨f, fn, hs.length⟩ o 100000 (qfw fn) [] ⟨bindT 0 vs, hs⟩ = p := by kernel_rfl) : eL (callC tn f vs hs o) p := y2a (T := tn) sigOk 100000 hok hf hb hn0 h
theorem gL {F : Fx} (o : OSpec sig) (b : Code) {c : Code} {K : List Fr} {s : TSt sig} {p : Option o.Out} (hc : c = .loop b := by kernel_rfl) (h : te tn F o 100000 b (.loop b s.heap.length :: K) s = p := by kernel_rfl) : eL (goC tn F o c K s) p := qv8 (T := tn) sigOk 100000 hc h
end Go.Proofs.YtglokalgdbegeaaGreat
