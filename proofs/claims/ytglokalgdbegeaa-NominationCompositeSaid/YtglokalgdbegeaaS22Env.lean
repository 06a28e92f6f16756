/- The seat's program for the machines. -/
import Derived.Test.YtglokalgdbegeaaS22An
import Derived.Test.YtglokalgdbegeaaMachT
import Derived.Test.YtglokalgdbegeaaChecked
namespace Go.Proofs.Ytglokalgdbegeaa
open Go Go.Ab
def look1 {α : Type} (d : α) : List (Nat × α) → Nat → α
 | [], _ => d
 | (k, v) :: r, t => if k = t then v else look1 d r t
def an : An := { flag := fun f t => if (look1 [] qzl f).contains t then .keep else .view, clear := fun f => look1 [] (look1 [] qye f), mode := fun f => look1 0 (look1 [] y1t f), order := fun f => look1 [] (look1 [] qyc f), own := fun f => anOwn.contains f }
def lastF : Nat := 95
def badF : List Nat := [59]
def okF (h : Nat) : Bool := decide (2 ≤ h ∧ h ≤ lastF) && !badF.contains h
noncomputable def qtm : List (Nat × Option (List AV → Heap → Option (AV × Heap))) := [(45, some (q61 1)),(52, some q3g)]
noncomputable def env : Env0 := { P := Try.prog, glob := fun _ => none, an := an, ok := okF, lib := look1 none qtm }
structure Claim where
 Topic : Int
 Value : Int
structure Frac where
 Num : Int
 Den : Int
structure Trust where
 Threshold : Int
 Nodes : List (Int)
 Inner : List (Trust)
structure Nomination where
 Node : Int
 Seq : Int
 Trust : Trust
 Votes : List (List UInt8)
 Accepts : List (List UInt8)
structure Member where
 Declared : Bool
 Trust : Trust
structure Message where
 Node : Int
 Seq : Int
 Trust : Trust
 Votes : List (Claim)
 Accepts : List (Claim)
structure Nominator where
 Node : Int
 Slot : Int
 Round : Int
 Seq : Int
 Trust : Trust
 Own : List UInt8
 Votes : List (List UInt8)
 Accepts : List (List UInt8)
 Candidates : List (List UInt8)
 Heard : List (Nomination)
structure Config where
 Members : List (Member)
inductive TC where
 | s | i64 | l_i64 | l_s | b | Claim | l_Claim | Frac | Trust | l_Trust | Nomination | l_Nomination | Member | l_Member | Message | Nominator | Config
 deriving DecidableEq
def Ty : TC → Type
 | .s => List UInt8
 | .i64 => Int
 | .l_i64 => List (Int)
 | .l_s => List (List UInt8)
 | .b => Bool
 | .Claim => Claim
 | .l_Claim => List (Claim)
 | .Frac => Frac
 | .Trust => Trust
 | .l_Trust => List (Trust)
 | .Nomination => Nomination
 | .l_Nomination => List (Nomination)
 | .Member => Member
 | .l_Member => List (Member)
 | .Message => Message
 | .Nominator => Nominator
 | .Config => Config
abbrev Lv := Leaf TC Ty
def asL (c : TC) : Lv → Option (List (Ty c))
 | .l c' xs => if h : c' = c then some (h ▸ xs) else none
 | _ => none
theorem q26 {c : TC} {x : Lv} {xs : List (Ty c)} (h : asL c x = some xs) : x = .l c xs := by
 cases x with
 | l c' ys =>
  simp only [asL] at h;split at h
  ·rename_i hc;subst hc;cases h; rfl
  ·cases h
 | _ => cases h
def enc_s (x : List UInt8) : D := .v (.string ⟨⟨x⟩⟩)
theorem inj_s (x y : List UInt8) (h : enc_s x = enc_s y) : x = y := qu1 h
def que (x : List UInt8) : List Lv := [.s x]
def qfa : List Lv → Option (List UInt8)
 | [.s x] => some x
 | _ => none
theorem of_s (cs : List Lv) (x : List UInt8) (h : qfa cs = some x) : que x = cs := by
 unfold qfa at h;split at h
 ·cases h; rfl
 ·cases h
def q6p (x : Int) : D := .v (.int .i64 x)
theorem qa8 (x y : Int) (h : q6p x = q6p y) : x = y := q2a h
def qkt (x : Int) : List Lv := [.i .i64 x]
def q9e : List Lv → Option (Int)
 | [.i .i64 x] => some x
 | _ => none
theorem y23 (cs : List Lv) (x : Int) (h : q9e cs = some x) : qkt x = cs := by
 unfold q9e at h;split at h
 ·cases h; rfl
 ·cases h
def qfr (x : List (Int)) : D := .list (x.map q6p)
theorem qtv (x y : List (Int)) (h : qfr x = qfr y) : x = y := q0u qa8 h
def qg7 (x : List (Int)) : List Lv := [.l .i64 x]
def qbj : List Lv → Option (List (Int))
 | [x] => asL .i64 x
 | _ => none
theorem qw5 : ∀ (cs : List Lv) (x : List (Int)), qbj cs = some x → qg7 x = cs
 | [y], x, h => by rw [q26 (c := .i64) (x := y) (xs := x) h]; rfl
 | [], x, h => by
  have h' : (none : Option (List (Int))) = some x := h;cases h'
 | _ :: _ :: _, x, h => by
  have h' : (none : Option (List (Int))) = some x := h;cases h'
def qn1 (x : List (List UInt8)) : D := .list (x.map enc_s)
theorem qyu (x y : List (List UInt8)) (h : qn1 x = qn1 y) : x = y := q0u inj_s h
def qkv (x : List (List UInt8)) : List Lv := [.l .s x]
def qfk : List Lv → Option (List (List UInt8))
 | [x] => asL .s x
 | _ => none
theorem y1p : ∀ (cs : List Lv) (x : List (List UInt8)), qfk cs = some x → qkv x = cs
 | [y], x, h => by rw [q26 (c := .s) (x := y) (xs := x) h]; rfl
 | [], x, h => by
  have h' : (none : Option (List (List UInt8))) = some x := h;cases h'
 | _ :: _ :: _, x, h => by
  have h' : (none : Option (List (List UInt8))) = some x := h;cases h'
def enc_b (x : Bool) : D := .v (.bool x)
theorem inj_b (x y : Bool) (h : enc_b x = enc_b y) : x = y := qp1 h
def qse (x : Bool) : List Lv := [.b x]
def qfj : List Lv → Option (Bool)
 | [.b x] => some x
 | _ => none
theorem of_b (cs : List Lv) (x : Bool) (h : qfj cs = some x) : qse x = cs := by
 unfold qfj at h;split at h
 ·cases h; rfl
 ·cases h
def q53 (x : Claim) : D := .agg [.v (.int .i64 (x.Topic)), .v (.int .i64 (x.Value))]
theorem qax : ∀ x y : Claim, q53 x = q53 y → x = y
 | ⟨a0, a1⟩, ⟨b0, b1⟩, h => by
  simp only [q53, D.agg.injEq, List.cons.injEq, and_true] at h;obtain ⟨h0, h1⟩ := h;have e0 : a0 = b0 := q2a h0;have e1 : a1 = b1 := q2a h1;rw [e0, e1]
def qg5 (x : Claim) : List Lv := [.i .i64 x.Topic, .i .i64 x.Value]
def q73 : List Lv → Option Claim
 | [.i .i64 a0, .i .i64 a1] => some (Claim.mk a0 a1)
 | _ => none
theorem qwa (cs : List Lv) (x : Claim) (h : q73 cs = some x) : qg5 x = cs := by
 unfold q73 at h;split at h
 ·cases h; rfl
 ·cases h
def q9k (x : List (Claim)) : D := .list (x.map q53)
theorem qoa (x y : List (Claim)) (h : q9k x = q9k y) : x = y := q0u qax h
def qad (x : List (Claim)) : List Lv := [.l .Claim x]
def q87 : List Lv → Option (List (Claim))
 | [x] => asL .Claim x
 | _ => none
theorem qqe : ∀ (cs : List Lv) (x : List (Claim)), q87 cs = some x → qad x = cs
 | [y], x, h => by rw [q26 (c := .Claim) (x := y) (xs := x) h]; rfl
 | [], x, h => by
  have h' : (none : Option (List (Claim))) = some x := h;cases h'
 | _ :: _ :: _, x, h => by
  have h' : (none : Option (List (Claim))) = some x := h;cases h'
def qea (x : Frac) : D := .agg [.v (.int .i64 (x.Num)), .v (.int .i64 (x.Den))]
theorem qvh : ∀ x y : Frac, qea x = qea y → x = y
 | ⟨a0, a1⟩, ⟨b0, b1⟩, h => by
  simp only [qea, D.agg.injEq, List.cons.injEq, and_true] at h;obtain ⟨h0, h1⟩ := h;have e0 : a0 = b0 := q2a h0;have e1 : a1 = b1 := q2a h1;rw [e0, e1]
def qid (x : Frac) : List Lv := [.i .i64 x.Num, .i .i64 x.Den]
def q7z : List Lv → Option Frac
 | [.i .i64 a0, .i .i64 a1] => some (Frac.mk a0 a1)
 | _ => none
theorem qz0 (cs : List Lv) (x : Frac) (h : q7z cs = some x) : qid x = cs := by
 unfold q7z at h;split at h
 ·cases h; rfl
 ·cases h
mutual
def q1v : Trust → D
 | ⟨a0, a1, a2⟩ => .agg [.v (.int .i64 a0), .list ((a1).map q6p), .list (q2n a2)]
def q2n : List Trust → List D
 | [] => []
 | x :: r => q1v x :: q2n r
end
theorem qb6 : ∀ l : List Trust, q2n l = l.map q1v
 | [] => rfl
 | x :: r => by simp only [q2n, qb6 r, List.map_cons]
mutual
theorem q51 : ∀ x y : Trust, q1v x = q1v y → x = y
 | ⟨a0, a1, a2⟩, ⟨b0, b1, b2⟩, h => by
  simp only [q1v, D.agg.injEq, List.cons.injEq, and_true] at h;obtain ⟨h0, h1, h2⟩ := h;have e0 : a0 = b0 := q2a h0;have e1 : a1 = b1 := q0u qa8 h1;have e2 : a2 = b2 := qhd _ _ (D.list.inj h2);rw [e0, e1, e2]
theorem qhd : ∀ x y : List Trust, q2n x = q2n y → x = y
 | [], [], _ => rfl
 | [], _ :: _, h => by simp [q2n] at h
 | _ :: _, [], h => by simp [q2n] at h
 | x :: r, y :: r', h => by
  simp only [q2n, List.cons.injEq] at h;rw [q51 x y h.1, qhd r r' h.2]
end
def q9l (x : Trust) : List Lv := [.i .i64 x.Threshold, .l .i64 x.Nodes, .l .Trust x.Inner]
def q6k : List Lv → Option Trust
 | [.i .i64 a0, l1, l2] => match asL .i64 l1, asL .Trust l2 with
  | some m1, some m2 => some (Trust.mk a0 m1 m2)
  | _, _ => none
 | _ => none
theorem qw0 (cs : List Lv) (x : Trust) (h : q6k cs = some x) : q9l x = cs := by
 unfold q6k at h;split at h
 ·split at h
  ·rename_i m1 m2 h1 h2;cases q26 h1;cases q26 h2;cases h; rfl
  ·cases h
 ·cases h
def qa0 (x : List (Trust)) : D := .list (x.map q1v)
theorem qn4 (x y : List (Trust)) (h : qa0 x = qa0 y) : x = y := q0u q51 h
def qat (x : List (Trust)) : List Lv := [.l .Trust x]
def q7j : List Lv → Option (List (Trust))
 | [x] => asL .Trust x
 | _ => none
theorem qr7 : ∀ (cs : List Lv) (x : List (Trust)), q7j cs = some x → qat x = cs
 | [y], x, h => by rw [q26 (c := .Trust) (x := y) (xs := x) h]; rfl
 | [], x, h => by
  have h' : (none : Option (List (Trust))) = some x := h;cases h'
 | _ :: _ :: _, x, h => by
  have h' : (none : Option (List (Trust))) = some x := h;cases h'
def q27 (x : Nomination) : D := .agg [.v (.int .i64 (x.Node)), .v (.int .i64 (x.Seq)), .v (.int .i64 (x.Trust.Threshold)), .list (((x.Trust.Nodes)).map q6p), .list (((x.Trust.Inner)).map q1v), .list (((x.Votes)).map enc_s), .list (((x.Accepts)).map enc_s)]
theorem q5p : ∀ x y : Nomination, q27 x = q27 y → x = y
 | ⟨a0, a1, ⟨a2, a3, a4⟩, a5, a6⟩, ⟨b0, b1, ⟨b2, b3, b4⟩, b5, b6⟩, h => by
  simp only [q27, D.agg.injEq, List.cons.injEq, and_true] at h;obtain ⟨h0, h1, h2, h3, h4, h5, h6⟩ := h;have e0 : a0 = b0 := q2a h0;have e1 : a1 = b1 := q2a h1;have e2 : a2 = b2 := q2a h2;have e3 : a3 = b3 := q0u qa8 h3;have e4 : a4 = b4 := q0u q51 h4;have e5 : a5 = b5 := q0u inj_s h5;have e6 : a6 = b6 := q0u inj_s h6;rw [e0, e1, e2, e3, e4, e5, e6]
def q7e (x : Nomination) : List Lv := [.i .i64 x.Node, .i .i64 x.Seq, .i .i64 x.Trust.Threshold, .l .i64 x.Trust.Nodes, .l .Trust x.Trust.Inner, .l .s x.Votes, .l .s x.Accepts]
def q3d : List Lv → Option Nomination
 | [.i .i64 a0, .i .i64 a1, .i .i64 a2, l3, l4, l5, l6] => match asL .i64 l3, asL .Trust l4, asL .s l5, asL .s l6 with
  | some m3, some m4, some m5, some m6 => some (Nomination.mk a0 a1 (Trust.mk a2 m3 m4) m5 m6)
  | _, _, _, _ => none
 | _ => none
theorem qjc (cs : List Lv) (x : Nomination) (h : q3d cs = some x) : q7e x = cs := by
 unfold q3d at h;split at h
 ·split at h
  ·rename_i m3 m4 m5 m6 h3 h4 h5 h6;cases q26 h3;cases q26 h4;cases q26 h5;cases q26 h6;cases h; rfl
  ·cases h
 ·cases h
def q42 (x : List (Nomination)) : D := .list (x.map q27)
theorem qdr (x y : List (Nomination)) (h : q42 x = q42 y) : x = y := q0u q5p h
def q56 (x : List (Nomination)) : List Lv := [.l .Nomination x]
def q46 : List Lv → Option (List (Nomination))
 | [x] => asL .Nomination x
 | _ => none
theorem qez : ∀ (cs : List Lv) (x : List (Nomination)), q46 cs = some x → q56 x = cs
 | [y], x, h => by rw [q26 (c := .Nomination) (x := y) (xs := x) h]; rfl
 | [], x, h => by
  have h' : (none : Option (List (Nomination))) = some x := h;cases h'
 | _ :: _ :: _, x, h => by
  have h' : (none : Option (List (Nomination))) = some x := h;cases h'
def q4l (x : Member) : D := .agg [.v (.bool (x.Declared)), .v (.int .i64 (x.Trust.Threshold)), .list (((x.Trust.Nodes)).map q6p), .list (((x.Trust.Inner)).map q1v)]
theorem qca : ∀ x y : Member, q4l x = q4l y → x = y
 | ⟨a0, ⟨a1, a2, a3⟩⟩, ⟨b0, ⟨b1, b2, b3⟩⟩, h => by
  simp only [q4l, D.agg.injEq, List.cons.injEq, and_true] at h;obtain ⟨h0, h1, h2, h3⟩ := h;have e0 : a0 = b0 := qp1 h0;have e1 : a1 = b1 := q2a h1;have e2 : a2 = b2 := q0u qa8 h2;have e3 : a3 = b3 := q0u q51 h3;rw [e0, e1, e2, e3]
def qdh (x : Member) : List Lv := [.b x.Declared, .i .i64 x.Trust.Threshold, .l .i64 x.Trust.Nodes, .l .Trust x.Trust.Inner]
def q5m : List Lv → Option Member
 | [.b a0, .i .i64 a1, l2, l3] => match asL .i64 l2, asL .Trust l3 with
  | some m2, some m3 => some (Member.mk a0 (Trust.mk a1 m2 m3))
  | _, _ => none
 | _ => none
theorem qri (cs : List Lv) (x : Member) (h : q5m cs = some x) : qdh x = cs := by
 unfold q5m at h;split at h
 ·split at h
  ·rename_i m2 m3 h2 h3;cases q26 h2;cases q26 h3;cases h; rfl
  ·cases h
 ·cases h
def q8e (x : List (Member)) : D := .list (x.map q4l)
theorem qk6 (x y : List (Member)) (h : q8e x = q8e y) : x = y := q0u qca h
def q93 (x : List (Member)) : List Lv := [.l .Member x]
def q79 : List Lv → Option (List (Member))
 | [x] => asL .Member x
 | _ => none
theorem qob : ∀ (cs : List Lv) (x : List (Member)), q79 cs = some x → q93 x = cs
 | [y], x, h => by rw [q26 (c := .Member) (x := y) (xs := x) h]; rfl
 | [], x, h => by
  have h' : (none : Option (List (Member))) = some x := h;cases h'
 | _ :: _ :: _, x, h => by
  have h' : (none : Option (List (Member))) = some x := h;cases h'
def q6q (x : Message) : D := .agg [.v (.int .i64 (x.Node)), .v (.int .i64 (x.Seq)), .v (.int .i64 (x.Trust.Threshold)), .list (((x.Trust.Nodes)).map q6p), .list (((x.Trust.Inner)).map q1v), .list (((x.Votes)).map q53), .list (((x.Accepts)).map q53)]
theorem qmy : ∀ x y : Message, q6q x = q6q y → x = y
 | ⟨a0, a1, ⟨a2, a3, a4⟩, a5, a6⟩, ⟨b0, b1, ⟨b2, b3, b4⟩, b5, b6⟩, h => by
  simp only [q6q, D.agg.injEq, List.cons.injEq, and_true] at h;obtain ⟨h0, h1, h2, h3, h4, h5, h6⟩ := h;have e0 : a0 = b0 := q2a h0;have e1 : a1 = b1 := q2a h1;have e2 : a2 = b2 := q2a h2;have e3 : a3 = b3 := q0u qa8 h3;have e4 : a4 = b4 := q0u q51 h4;have e5 : a5 = b5 := q0u qax h5;have e6 : a6 = b6 := q0u qax h6;rw [e0, e1, e2, e3, e4, e5, e6]
def qbu (x : Message) : List Lv := [.i .i64 x.Node, .i .i64 x.Seq, .i .i64 x.Trust.Threshold, .l .i64 x.Trust.Nodes, .l .Trust x.Trust.Inner, .l .Claim x.Votes, .l .Claim x.Accepts]
def q4r : List Lv → Option Message
 | [.i .i64 a0, .i .i64 a1, .i .i64 a2, l3, l4, l5, l6] => match asL .i64 l3, asL .Trust l4, asL .Claim l5, asL .Claim l6 with
  | some m3, some m4, some m5, some m6 => some (Message.mk a0 a1 (Trust.mk a2 m3 m4) m5 m6)
  | _, _, _, _ => none
 | _ => none
theorem qqr (cs : List Lv) (x : Message) (h : q4r cs = some x) : qbu x = cs := by
 unfold q4r at h;split at h
 ·split at h
  ·rename_i m3 m4 m5 m6 h3 h4 h5 h6;cases q26 h3;cases q26 h4;cases q26 h5;cases q26 h6;cases h; rfl
  ·cases h
 ·cases h
def q48 (x : Nominator) : D := .agg [.v (.int .i64 (x.Node)), .v (.int .i64 (x.Slot)), .v (.int .i64 (x.Round)), .v (.int .i64 (x.Seq)), .v (.int .i64 (x.Trust.Threshold)), .list (((x.Trust.Nodes)).map q6p), .list (((x.Trust.Inner)).map q1v), .v (.string ⟨⟨(x.Own)⟩⟩), .list (((x.Votes)).map enc_s), .list (((x.Accepts)).map enc_s), .list (((x.Candidates)).map enc_s), .list (((x.Heard)).map q27)]
theorem qin : ∀ x y : Nominator, q48 x = q48 y → x = y
 | ⟨a0, a1, a2, a3, ⟨a4, a5, a6⟩, a7, a8, a9, a10, a11⟩, ⟨b0, b1, b2, b3, ⟨b4, b5, b6⟩, b7, b8, b9, b10, b11⟩, h => by
  simp only [q48, D.agg.injEq, List.cons.injEq, and_true] at h;obtain ⟨h0, h1, h2, h3, h4, h5, h6, h7, h8, h9, h10, h11⟩ := h;have e0 : a0 = b0 := q2a h0;have e1 : a1 = b1 := q2a h1;have e2 : a2 = b2 := q2a h2;have e3 : a3 = b3 := q2a h3;have e4 : a4 = b4 := q2a h4;have e5 : a5 = b5 := q0u qa8 h5;have e6 : a6 = b6 := q0u q51 h6;have e7 : a7 = b7 := qu1 h7;have e8 : a8 = b8 := q0u inj_s h8;have e9 : a9 = b9 := q0u inj_s h9;have e10 : a10 = b10 := q0u inj_s h10;have e11 : a11 = b11 := q0u q5p h11;rw [e0, e1, e2, e3, e4, e5, e6, e7, e8, e9, e10, e11]
def q7y (x : Nominator) : List Lv := [.i .i64 x.Node, .i .i64 x.Slot, .i .i64 x.Round, .i .i64 x.Seq, .i .i64 x.Trust.Threshold, .l .i64 x.Trust.Nodes, .l .Trust x.Trust.Inner, .s x.Own, .l .s x.Votes, .l .s x.Accepts, .l .s x.Candidates, .l .Nomination x.Heard]
def q3p : List Lv → Option Nominator
 | [.i .i64 a0, .i .i64 a1, .i .i64 a2, .i .i64 a3, .i .i64 a4, l5, l6, .s a7, l8, l9, l10, l11] => match asL .i64 l5, asL .Trust l6, asL .s l8, asL .s l9, asL .s l10, asL .Nomination l11 with
  | some m5, some m6, some m8, some m9, some m10, some m11 => some (Nominator.mk a0 a1 a2 a3 (Trust.mk a4 m5 m6) a7 m8 m9 m10 m11)
  | _, _, _, _, _, _ => none
 | _ => none
theorem qky (cs : List Lv) (x : Nominator) (h : q3p cs = some x) : q7y x = cs := by
 unfold q3p at h;split at h
 ·split at h
  ·rename_i m5 m6 m8 m9 m10 m11 h5 h6 h8 h9 h10 h11;cases q26 h5;cases q26 h6;cases q26 h8;cases q26 h9;cases q26 h10;cases q26 h11;cases h; rfl
  ·cases h
 ·cases h
def q8y (x : Config) : D := .agg [.list (((x.Members)).map q4l)]
theorem qq5 : ∀ x y : Config, q8y x = q8y y → x = y
 | ⟨a0⟩, ⟨b0⟩, h => by
  simp only [q8y, D.agg.injEq, List.cons.injEq, and_true] at h;have h0 := h;have e0 : a0 = b0 := q0u qca h0;rw [e0]
def qdf (x : Config) : List Lv := [.l .Member x.Members]
def q5i : List Lv → Option Config
 | [l0] => match asL .Member l0 with
  | some m0 => some (Config.mk m0)
  | _ => none
 | _ => none
theorem qt8 (cs : List Lv) (x : Config) (h : q5i cs = some x) : qdf x = cs := by
 unfold q5i at h;split at h
 ·split at h
  ·rename_i m0 h0;cases q26 h0;cases h; rfl
  ·cases h
 ·cases h
def encT : (c : TC) → Ty c → D
 | .s => enc_s
 | .i64 => q6p
 | .l_i64 => qfr
 | .l_s => qn1
 | .b => enc_b
 | .Claim => q53
 | .l_Claim => q9k
 | .Frac => qea
 | .Trust => q1v
 | .l_Trust => qa0
 | .Nomination => q27
 | .l_Nomination => q42
 | .Member => q4l
 | .l_Member => q8e
 | .Message => q6q
 | .Nominator => q48
 | .Config => q8y
def y19 : (c : TC) → Ty c → List Lv
 | .s => que
 | .i64 => qkt
 | .l_i64 => qg7
 | .l_s => qkv
 | .b => qse
 | .Claim => qg5
 | .l_Claim => qad
 | .Frac => qid
 | .Trust => q9l
 | .l_Trust => qat
 | .Nomination => q7e
 | .l_Nomination => q56
 | .Member => qdh
 | .l_Member => q93
 | .Message => qbu
 | .Nominator => q7y
 | .Config => qdf
def qvc : (c : TC) → List Lv → Option (Ty c)
 | .s => qfa
 | .i64 => q9e
 | .l_i64 => qbj
 | .l_s => qfk
 | .b => qfj
 | .Claim => q73
 | .l_Claim => q87
 | .Frac => q7z
 | .Trust => q6k
 | .l_Trust => q7j
 | .Nomination => q3d
 | .l_Nomination => q46
 | .Member => q5m
 | .l_Member => q79
 | .Message => q4r
 | .Nominator => q3p
 | .Config => q5i
def aggF : TC → Bool
 | .s => false
 | .i64 => false
 | .l_i64 => false
 | .l_s => false
 | .b => false
 | .Claim => true
 | .l_Claim => false
 | .Frac => true
 | .Trust => true
 | .l_Trust => false
 | .Nomination => true
 | .l_Nomination => false
 | .Member => true
 | .l_Member => false
 | .Message => true
 | .Nominator => true
 | .Config => true
def sizeF : TC → Nat
 | .s => 1
 | .i64 => 1
 | .l_i64 => 1
 | .l_s => 1
 | .b => 1
 | .Claim => 2
 | .l_Claim => 1
 | .Frac => 2
 | .Trust => 3
 | .l_Trust => 1
 | .Nomination => 7
 | .l_Nomination => 1
 | .Member => 4
 | .l_Member => 1
 | .Message => 7
 | .Nominator => 12
 | .Config => 1
def qs9 : List (TypeId × TC × TypeId) := [(22, .s, 9),(27, .i64,3),(28, .Trust, 30),(31, .Nomination, 48),(51, .Member, 87),(69, .Message, 72),(70, .Claim, 117)]
def qvz : List (TypeId × List (Option TC)) := [(22,[some .s]),(27,[some .i64]),(28,[some .Trust]),(29,[none, some .i64, some .Trust]),(30,[none, some .i64, some .Trust]),(31,[some .Nomination]),(32,[none, none, none, none, none, some .i64, some .Trust, none, some .s, some .s, some .s, some .Nomination]),(33,[none, none, none, none, none, some .i64, some .Trust, none, some .s, some .s, some .s, some .Nomination]),(47,[none, none, none, some .i64, some .Trust, some .s, some .s]),(48,[none, none, none, some .i64, some .Trust, some .s, some .s]),(51,[some .Member]),(52,[some .Member]),(53,[some .Member]),(69,[some .Message]),(70,[some .Claim]),(71,[none, none, none, some .i64, some .Trust, some .Claim, some .Claim]),(72,[none, none, none, some .i64, some .Trust, some .Claim, some .Claim]),(86,[none, none, some .i64, some .Trust]),(87,[none, none, some .i64, some .Trust])]
def elemF : List (TypeId × TC × TypeId) → TypeId → Option TC
 | [], _ => none
 | (u, c, _) :: r, t => if u = t then some c else elemF r t
def sig : Sig := { TC := TC, Ty := Ty, enc := encT, cells := y19, ofCells := qvc, agg := aggF, size := sizeF, elem := elemF qs9, lists := look1 [] qvz }
theorem qph (P : Program) : ∀ (tab : List (TypeId × TC × TypeId)), (tab.all fun p => q1l P p.1 == some p.2.2 && tyAgg P p.2.2 == some (aggF p.2.1) && q09 P p.2.2 == some (sizeF p.2.1)) = true → ∀ t c, elemF tab t = some c → ∃ e, q1l P t = some e ∧ tyAgg P e = some (aggF c) ∧ q09 P e = some (sizeF c)
 | [], _, _, _, h => by cases h
 | (u, d, e) :: r, ha, t, c, h => by
  simp only [List.all_cons, aT, beq_iff_eq] at ha;simp only [elemF] at h;split at h
  ·rename_i hu; cases h; subst hu; exact ⟨e, ha.1.1.1, ha.1.1.2, ha.1.2⟩
  ·exact qph P r ha.2 t c h
theorem qnt (x : Trust) : sig.enc .Trust x = (packT (S := sig) true (q9l x)).toD := by
 cases x;show q1v _ = _;simp only [q1v, qb6];rfl
theorem sigOk : sig.Ok Try.prog where
 enc_eq := fun c x => by cases c <;> first | rfl | exact qnt x
 of_eq := fun c cs x h => by
  have : sig.cells c x = cs := by
   cases c
   ·exact of_s cs x h
   ·exact y23 cs x h
   ·exact qw5 cs x h
   ·exact y1p cs x h
   ·exact of_b cs x h
   ·exact qwa cs x h
   ·exact qqe cs x h
   ·exact qz0 cs x h
   ·exact qw0 cs x h
   ·exact qr7 cs x h
   ·exact qjc cs x h
   ·exact qez cs x h
   ·exact qri cs x h
   ·exact qob cs x h
   ·exact qqr cs x h
   ·exact qky cs x h
   ·exact qt8 cs x h
  rw [this]
 inj := fun c x y h => by
  cases c
  ·exact inj_s x y h
  ·exact qa8 x y h
  ·exact qtv x y h
  ·exact qyu x y h
  ·exact inj_b x y h
  ·exact qax x y h
  ·exact qoa x y h
  ·exact qvh x y h
  ·exact q51 x y h
  ·exact qn4 x y h
  ·exact q5p x y h
  ·exact qdr x y h
  ·exact qca x y h
  ·exact qk6 x y h
  ·exact qmy x y h
  ·exact qin x y h
  ·exact qq5 x y h
 len := fun c x => by cases c <;> rfl
 pos := fun c => by cases c <;> decide
 one := fun c h => by cases c <;> first | rfl | cases h
 elem := qph Try.prog qs9 (by kernel_rfl)
def y0a : List (Nat × List (OT sig)) := [(3,[.lf .b]),(4,[.lf .b]),(5,[.lf .s, .lf .b]),(6,[.lf .b]),(7,[.ag .Nominator, .lf (.i .i64)]),(10,[.lf .b]),(11,[.lf (.i .i64)]),(13,[.ag .Nominator]),(12,[.ag .Nominator]),(17,[.lf (.i .i64)]),(18,[.lf (.i .i64)]),(19,[.lf (.i .i64)]),(23,[.lf (.l .s)]),(24,[.ag .Config]),(25,[.lf .s, .lf .b]),(20,[.ag .Trust]),(21,[.ref 0]),(33,[.lf .b]),(36,[.lf (.i .i64), .lf (.i .i64)]),(38,[.lf (.i .i64), .lf (.i .i64)]),(39,[.lf (.l .i64)]),(27,[.ref 0]),(28,[.ag .Nomination]),(40,[.lf (.l .s)]),(37,[.ref 0]),(48,[.lf (.i .i64)]),(49,[.lf (.i .i64)]),(8,[.lf .b]),(9,[.lf (.i .i64)]),(15,[.lf (.i .i64)]),(16,[.lf (.i .i64)]),(14,[.lf (.i .i64)]),(31,[.lf .b]),(32,[.lf .b]),(26,[.lf (.l .s)]),(44,[.lf (.i .i64), .lf .b]),(45,[.lf (.l .s)]),(22,[.ag .Nomination]),(41,[.ag .Config]),(29,[.lf (.i .i64), .lf (.i .i64)]),(42,[.lf .b]),(43,[.lf .b]),(56,[.lf .b]),(57,[.lf .b]),(58,[.lf .b]),(47,[.lf (.i .i64)]),(46,[.lf .b]),(67,[.lf (.i .i64)]),(68,[.lf .b]),(69,[.lf (.i .i64)]),(70,[.lf .b]),(61,[.lf (.i .i64), .lf (.l .i64)]),(50,[.lf (.i .i64)]),(51,[]),(52,[.lf (.l .s)]),(65,[.lf (.i .i64)]),(64,[]),(83,[.lf (.i .i64)]),(34,[.lf .b]),(35,[.lf .b]),(30,[.lf .b]),(53,[.lf .b]),(54,[.ag .Trust]),(55,[.lf .b]),(66,[.lf .b]),(72,[.lf (.i .i64), .lf .b]),(62,[.lf .b]),(63,[.lf (.i .u32)]),(73,[.ag .Frac, .lf .b]),(88,[.lf .b]),(94,[.lf (.i .i64)]),(74,[]),(75,[]),(76,[]),(77,[.lf (.i .i64), .lf (.i .i64)]),(78,[]),(79,[.lf .b]),(80,[.lf (.i .i64)]),(81,[.lf (.i .i64), .lf .b]),(90,[.lf (.i .u64)]),(92,[.lf (.i .i64)]),(93,[.lf (.i .i64)]),(95,[.lf (.i .i64), .lf (.i .i64)]),(84,[.lf .b]),(85,[.lf (.i .i64)]),(87,[.lf .b]),(89,[]),(91,[.lf (.i .u64)])]
def qyy : List (Nat × List (List (OT sig))) := [(21,[[.own .s false]]),(27,[[.own .Nomination false]]),(37,[[.own .i64 false]])]
noncomputable def tn : TEn := { E := env, S := sig, res := look1 [] y0a, news := look1 [] qyy, outs := fun f => if List.contains [45,52] f then some [[.undef]] else none, cut := fun _ _ => false }
def qdg (fn : Func) : Code := match fn.body with | some c => c | none => .skip
def q0c (fn : Func) (p : List Nat) : Code := qfc p (qdg fn)
def y0p (fn : Func) (p ms : List Nat) : List Fr := qfb p (qdg fn) ms []
abbrev o0' : OSpec sig := ⟨[.lf .b],[]⟩
abbrev o1' : OSpec sig := ⟨[.lf (.i .i64)],[]⟩
abbrev o2' : OSpec sig := ⟨[],[[.own .s false]]⟩
abbrev o3' : OSpec sig := ⟨[.lf (.i .i64), .lf .b],[[.own .s false]]⟩
abbrev o4' : OSpec sig := ⟨[.lf (.l .s)],[]⟩
abbrev o5' : OSpec sig := ⟨[.lf (.i .i64), .lf (.i .i64)],[]⟩
abbrev o6' : OSpec sig := ⟨[.lf .b],[[.own .s false]]⟩
abbrev o7' : OSpec sig := ⟨[.ag .Nominator],[]⟩
abbrev o8' : OSpec sig := ⟨[.lf (.i .i64)],[[.own .s false]]⟩
abbrev o9' : OSpec sig := ⟨[.lf .s, .lf .b],[]⟩
abbrev o10' : OSpec sig := ⟨[.ag .Config],[]⟩
abbrev o11' : OSpec sig := ⟨[.ag .Trust],[]⟩
abbrev o12' : OSpec sig := ⟨[.lf (.i .i64), .lf .b],[]⟩
abbrev o13' : OSpec sig := ⟨[.lf (.l .i64)],[]⟩
abbrev o14' : OSpec sig := ⟨[.ag .Nomination],[]⟩
abbrev o15' : OSpec sig := ⟨[.lf (.i .i64), .lf (.l .i64)],[]⟩
abbrev o16' : OSpec sig := ⟨[.ag .Frac, .lf .b],[]⟩
abbrev o17' : OSpec sig := ⟨[.lf (.i .i64)],[[.own .s false],[.lf (.i .i64)]]⟩
abbrev o18' : OSpec sig := ⟨[.ag .Nominator, .lf (.i .i64)],[]⟩
abbrev o19' : OSpec sig := ⟨[.lf (.i .i64), .lf (.i .i64)],[[.own .s false]]⟩
abbrev o20' : OSpec sig := ⟨[.lf (.i .i64), .lf (.i .i64)],[[.own .s false],[.lf (.i .i64)]]⟩
abbrev o21' : OSpec sig := ⟨[.lf (.i .u64)],[[.lf (.i .u64)]]⟩
def eL {α : Type} (b a : Option α) : Prop := ∀ r, a = some r → b = some r
theorem cL {f : FuncId} {fn : Func} {vs : List (TL sig)} {hs : THeap sig} (o : OSpec sig) (hf : Try.prog.funcs[f]? = some fn) {p : Option o.Out} (hok : env.ok f = true := by kernel_rfl) (hb : fn.body = some (qdg fn) := by kernel_rfl) (hn0 : (decide (vs.length ≤ fn.ntmps) && (q5f Try.prog fn (qdg fn)).isNone && (env.seek f).isNone && (env.lib f).isNone) = true := by kernel_rfl) (h : te tn ⟨f, fn, hs.length⟩ o 100000 (qdg fn) [] ⟨bindT 0 vs, hs⟩ = p := by kernel_rfl) : eL (callC tn f vs hs o) p := qux (T := tn) sigOk 100000 hok hf hb hn0 h
theorem gL {F : Fx} (o : OSpec sig) (b : Code) {c : Code} {K : List Fr} {s : TSt sig} {p : Option o.Out} (hc : c = .loop b := by kernel_rfl) (h : te tn F o 100000 b (.loop b s.heap.length :: K) s = p := by kernel_rfl) : eL (goC tn F o c K s) p := qr9 (T := tn) sigOk 100000 hc h
end Go.Proofs.Ytglokalgdbegeaa
