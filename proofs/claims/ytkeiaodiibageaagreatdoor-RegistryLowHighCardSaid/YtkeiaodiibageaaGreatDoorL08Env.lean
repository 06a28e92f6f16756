/- The seat's program for the machines. -/
import Derived.Test.YtkeiaodiibageaaGreatDoorL08An
import Derived.Test.YtkeiaodiibageaaGreatDoorMachT
import Derived.Test.YtkeiaodiibageaaGreatDoorChecked
namespace Go.Proofs.YtkeiaodiibageaaGreatDoor
open Go Go.Ab
def look1 {α : Type} (d : α) : List (Nat × α) → Nat → α
 | [], _ => d
 | (k, v) :: r, t => if k = t then v else look1 d r t
def an : An := { flag := fun f t => if (look1 [] y14 f).contains t then .keep else .view, clear := fun f => look1 [] (look1 [] qxv f), mode := fun f => look1 0 (look1 [] y0e f), order := fun f => look1 [] (look1 [] qys f), own := fun f => anOwn.contains f }
def lastF : Nat := 165
def badF : List Nat := [2,3,4,5,11,12,20,31,33,42,69,70,87,88,90,96,107,108,111,117,118,121,122,123,124,125,126,127,128,129,131,132,133,134,135,136,137,139,140,141,142,143,144,145,146,147,148,149,150,151,152,153,154,155,156,157,158,159,160,161,162,163,164,165]
def okF (h : Nat) : Bool := decide (2 ≤ h ∧ h ≤ lastF) && !badF.contains h
noncomputable def qqm : List (Nat × Option (List AV → Heap → Option (AV × Heap))) := [(64, some q7c),(67, some q7c),(76, some (q60 6)),(94, some (q4l 3)),(115, some qch),(116, some qc8)]
noncomputable def env : Env0 := { P := Tryz.prog, glob := fun _ => none, an := an, ok := okF, lib := look1 none qqm }
structure Trust where
 Threshold : Int
 Nodes : List (Int)
 Inner : List (Trust)
structure Declaration where
 Node : Int
 Seq : Int
 Trust : Trust
 Tag : Int
structure Evidence where
 A : Declaration
 B : Declaration
structure Tape where
 l : List (Int)
 at_ : Int
structure Member where
 Declared : Bool
 Trust : Trust
structure Registry where
 Entries : List (List (Declaration))
structure Config where
 Members : List (Member)
inductive TC where
 | i64 | l_i64 | Trust | l_Trust | b | u64 | Declaration | l_Declaration | l_l_Declaration | Evidence | s | Tape | Member | l_Member | Registry | Config
 deriving DecidableEq
def Ty : TC → Type
 | .i64 => Int
 | .l_i64 => List (Int)
 | .Trust => Trust
 | .l_Trust => List (Trust)
 | .b => Bool
 | .u64 => Int
 | .Declaration => Declaration
 | .l_Declaration => List (Declaration)
 | .l_l_Declaration => List (List (Declaration))
 | .Evidence => Evidence
 | .s => List UInt8
 | .Tape => Tape
 | .Member => Member
 | .l_Member => List (Member)
 | .Registry => Registry
 | .Config => Config
abbrev Lv := Leaf TC Ty
def asL (c : TC) : Lv → Option (List (Ty c))
 | .l c' xs => if h : c' = c then some (h ▸ xs) else none
 | _ => none
theorem q3f {c : TC} {x : Lv} {xs : List (Ty c)} (h : asL c x = some xs) : x = .l c xs := by
 cases x with
 | l c' ys =>
  simp only [asL] at h;split at h
  ·rename_i hc;subst hc;cases h; rfl
  ·cases h
 | _ => cases h
def q5n (x : Int) : D := .v (.int .i64 x)
theorem q89 (x y : Int) (h : q5n x = q5n y) : x = y := q2k h
def qkb (x : Int) : List Lv := [.i .i64 x]
def q9j : List Lv → Option (Int)
 | [.i .i64 x] => some x
 | _ => none
theorem y1g (cs : List Lv) (x : Int) (h : q9j cs = some x) : qkb x = cs := by
 unfold q9j at h;split at h
 ·cases h; rfl
 ·cases h
def qer (x : List (Int)) : D := .list (x.map q5n)
theorem qsm (x y : List (Int)) (h : qer x = qer y) : x = y := q1r q89 h
def qey (x : List (Int)) : List Lv := [.l .i64 x]
def qah : List Lv → Option (List (Int))
 | [x] => asL .i64 x
 | _ => none
theorem qvg : ∀ (cs : List Lv) (x : List (Int)), qah cs = some x → qey x = cs
 | [y], x, h => by rw [q3f (c := .i64) (x := y) (xs := x) h]; rfl
 | [], x, h => by
  have h' : (none : Option (List (Int))) = some x := h;cases h'
 | _ :: _ :: _, x, h => by
  have h' : (none : Option (List (Int))) = some x := h;cases h'
mutual
def q0x : Trust → D
 | ⟨a0, a1, a2⟩ => .agg [.v (.int .i64 a0), .list ((a1).map q5n), .list (q2p a2)]
def q2p : List Trust → List D
 | [] => []
 | x :: r => q0x x :: q2p r
end
theorem qaa : ∀ l : List Trust, q2p l = l.map q0x
 | [] => rfl
 | x :: r => by simp only [q2p, qaa r, List.map_cons]
mutual
theorem q54 : ∀ x y : Trust, q0x x = q0x y → x = y
 | ⟨a0, a1, a2⟩, ⟨b0, b1, b2⟩, h => by
  simp only [q0x, D.agg.injEq, List.cons.injEq, and_true] at h;obtain ⟨h0, h1, h2⟩ := h;have e0 : a0 = b0 := q2k h0;have e1 : a1 = b1 := q1r q89 h1;have e2 : a2 = b2 := qh5 _ _ (D.list.inj h2);rw [e0, e1, e2]
theorem qh5 : ∀ x y : List Trust, q2p x = q2p y → x = y
 | [], [], _ => rfl
 | [], _ :: _, h => by simp [q2p] at h
 | _ :: _, [], h => by simp [q2p] at h
 | x :: r, y :: r', h => by
  simp only [q2p, List.cons.injEq] at h;rw [q54 x y h.1, qh5 r r' h.2]
end
def q9o (x : Trust) : List Lv := [.i .i64 x.Threshold, .l .i64 x.Nodes, .l .Trust x.Inner]
def q6i : List Lv → Option Trust
 | [.i .i64 a0, l1, l2] => match asL .i64 l1, asL .Trust l2 with
  | some m1, some m2 => some (Trust.mk a0 m1 m2)
  | _, _ => none
 | _ => none
theorem qvb (cs : List Lv) (x : Trust) (h : q6i cs = some x) : q9o x = cs := by
 unfold q6i at h;split at h
 ·split at h
  ·rename_i m1 m2 h1 h2;cases q3f h1;cases q3f h2;cases h; rfl
  ·cases h
 ·cases h
def q9v (x : List (Trust)) : D := .list (x.map q0x)
theorem qlw (x y : List (Trust)) (h : q9v x = q9v y) : x = y := q1r q54 h
def qab (x : List (Trust)) : List Lv := [.l .Trust x]
def q88 : List Lv → Option (List (Trust))
 | [x] => asL .Trust x
 | _ => none
theorem qqd : ∀ (cs : List Lv) (x : List (Trust)), q88 cs = some x → qab x = cs
 | [y], x, h => by rw [q3f (c := .Trust) (x := y) (xs := x) h]; rfl
 | [], x, h => by
  have h' : (none : Option (List (Trust))) = some x := h;cases h'
 | _ :: _ :: _, x, h => by
  have h' : (none : Option (List (Trust))) = some x := h;cases h'
def enc_b (x : Bool) : D := .v (.bool x)
theorem inj_b (x y : Bool) (h : enc_b x = enc_b y) : x = y := qol h
def qsb (x : Bool) : List Lv := [.b x]
def qf7 : List Lv → Option (Bool)
 | [.b x] => some x
 | _ => none
theorem of_b (cs : List Lv) (x : Bool) (h : qf7 cs = some x) : qsb x = cs := by
 unfold qf7 at h;split at h
 ·cases h; rfl
 ·cases h
def qme (x : Int) : D := .v (.int .u64 x)
theorem qyn (x y : Int) (h : qme x = qme y) : x = y := q2k h
def ql7 (x : Int) : List Lv := [.i .u64 x]
def q9n : List Lv → Option (Int)
 | [.i .u64 x] => some x
 | _ => none
theorem y1e (cs : List Lv) (x : Int) (h : q9n cs = some x) : ql7 x = cs := by
 unfold q9n at h;split at h
 ·cases h; rfl
 ·cases h
def q0b (x : Declaration) : D := .agg [.v (.int .i64 (x.Node)), .v (.int .i64 (x.Seq)), .v (.int .i64 (x.Trust.Threshold)), .list (((x.Trust.Nodes)).map q5n), .list (((x.Trust.Inner)).map q0x), .v (.int .u64 (x.Tag))]
theorem q84 : ∀ x y : Declaration, q0b x = q0b y → x = y
 | ⟨a0, a1, ⟨a2, a3, a4⟩, a5⟩, ⟨b0, b1, ⟨b2, b3, b4⟩, b5⟩, h => by
  simp only [q0b, D.agg.injEq, List.cons.injEq, and_true] at h;obtain ⟨h0, h1, h2, h3, h4, h5⟩ := h;have e0 : a0 = b0 := q2k h0;have e1 : a1 = b1 := q2k h1;have e2 : a2 = b2 := q2k h2;have e3 : a3 = b3 := q1r q89 h3;have e4 : a4 = b4 := q1r q54 h4;have e5 : a5 = b5 := q2k h5;rw [e0, e1, e2, e3, e4, e5]
def q6c (x : Declaration) : List Lv := [.i .i64 x.Node, .i .i64 x.Seq, .i .i64 x.Trust.Threshold, .l .i64 x.Trust.Nodes, .l .Trust x.Trust.Inner, .i .u64 x.Tag]
def q2z : List Lv → Option Declaration
 | [.i .i64 a0, .i .i64 a1, .i .i64 a2, l3, l4, .i .u64 a5] => match asL .i64 l3, asL .Trust l4 with
  | some m3, some m4 => some (Declaration.mk a0 a1 (Trust.mk a2 m3 m4) a5)
  | _, _ => none
 | _ => none
theorem qga (cs : List Lv) (x : Declaration) (h : q2z cs = some x) : q6c x = cs := by
 unfold q2z at h;split at h
 ·split at h
  ·rename_i m3 m4 h3 h4;cases q3f h3;cases q3f h4;cases h; rfl
  ·cases h
 ·cases h
def q24 (x : List (Declaration)) : D := .list (x.map q0b)
theorem q3m (x y : List (Declaration)) (h : q24 x = q24 y) : x = y := q1r q84 h
def q50 (x : List (Declaration)) : List Lv := [.l .Declaration x]
def q40 : List Lv → Option (List (Declaration))
 | [x] => asL .Declaration x
 | _ => none
theorem qdj : ∀ (cs : List Lv) (x : List (Declaration)), q40 cs = some x → q50 x = cs
 | [y], x, h => by rw [q3f (c := .Declaration) (x := y) (xs := x) h]; rfl
 | [], x, h => by
  have h' : (none : Option (List (Declaration))) = some x := h;cases h'
 | _ :: _ :: _, x, h => by
  have h' : (none : Option (List (Declaration))) = some x := h;cases h'
def q30 (x : List (List (Declaration))) : D := .list (x.map q24)
theorem q9k (x y : List (List (Declaration))) (h : q30 x = q30 y) : x = y := q1r q3m h
def q3z (x : List (List (Declaration))) : List Lv := [.l .l_Declaration x]
def q3c : List Lv → Option (List (List (Declaration)))
 | [x] => asL .l_Declaration x
 | _ => none
theorem qbf : ∀ (cs : List Lv) (x : List (List (Declaration))), q3c cs = some x → q3z x = cs
 | [y], x, h => by rw [q3f (c := .l_Declaration) (x := y) (xs := x) h]; rfl
 | [], x, h => by
  have h' : (none : Option (List (List (Declaration)))) = some x := h;cases h'
 | _ :: _ :: _, x, h => by
  have h' : (none : Option (List (List (Declaration)))) = some x := h;cases h'
def q5g (x : Evidence) : D := .agg [.v (.int .i64 (x.A.Node)), .v (.int .i64 (x.A.Seq)), .v (.int .i64 (x.A.Trust.Threshold)), .list (((x.A.Trust.Nodes)).map q5n), .list (((x.A.Trust.Inner)).map q0x), .v (.int .u64 (x.A.Tag)), .v (.int .i64 (x.B.Node)), .v (.int .i64 (x.B.Seq)), .v (.int .i64 (x.B.Trust.Threshold)), .list (((x.B.Trust.Nodes)).map q5n), .list (((x.B.Trust.Inner)).map q0x), .v (.int .u64 (x.B.Tag))]
theorem ql5 : ∀ x y : Evidence, q5g x = q5g y → x = y
 | ⟨⟨a0, a1, ⟨a2, a3, a4⟩, a5⟩, ⟨a6, a7, ⟨a8, a9, a10⟩, a11⟩⟩, ⟨⟨b0, b1, ⟨b2, b3, b4⟩, b5⟩, ⟨b6, b7, ⟨b8, b9, b10⟩, b11⟩⟩, h => by
  simp only [q5g, D.agg.injEq, List.cons.injEq, and_true] at h;obtain ⟨h0, h1, h2, h3, h4, h5, h6, h7, h8, h9, h10, h11⟩ := h;have e0 : a0 = b0 := q2k h0;have e1 : a1 = b1 := q2k h1;have e2 : a2 = b2 := q2k h2;have e3 : a3 = b3 := q1r q89 h3;have e4 : a4 = b4 := q1r q54 h4;have e5 : a5 = b5 := q2k h5;have e6 : a6 = b6 := q2k h6;have e7 : a7 = b7 := q2k h7;have e8 : a8 = b8 := q2k h8;have e9 : a9 = b9 := q1r q89 h9;have e10 : a10 = b10 := q1r q54 h10;have e11 : a11 = b11 := q2k h11;rw [e0, e1, e2, e3, e4, e5, e6, e7, e8, e9, e10, e11]
def q9i (x : Evidence) : List Lv := [.i .i64 x.A.Node, .i .i64 x.A.Seq, .i .i64 x.A.Trust.Threshold, .l .i64 x.A.Trust.Nodes, .l .Trust x.A.Trust.Inner, .i .u64 x.A.Tag, .i .i64 x.B.Node, .i .i64 x.B.Seq, .i .i64 x.B.Trust.Threshold, .l .i64 x.B.Trust.Nodes, .l .Trust x.B.Trust.Inner, .i .u64 x.B.Tag]
def q42 : List Lv → Option Evidence
 | [.i .i64 a0, .i .i64 a1, .i .i64 a2, l3, l4, .i .u64 a5, .i .i64 a6, .i .i64 a7, .i .i64 a8, l9, l10, .i .u64 a11] => match asL .i64 l3, asL .Trust l4, asL .i64 l9, asL .Trust l10 with
  | some m3, some m4, some m9, some m10 => some (Evidence.mk (Declaration.mk a0 a1 (Trust.mk a2 m3 m4) a5) (Declaration.mk a6 a7 (Trust.mk a8 m9 m10) a11))
  | _, _, _, _ => none
 | _ => none
theorem qn3 (cs : List Lv) (x : Evidence) (h : q42 cs = some x) : q9i x = cs := by
 unfold q42 at h;split at h
 ·split at h
  ·rename_i m3 m4 m9 m10 h3 h4 h9 h10;cases q3f h3;cases q3f h4;cases q3f h9;cases q3f h10;cases h; rfl
  ·cases h
 ·cases h
def enc_s (x : List UInt8) : D := .v (.string ⟨⟨x⟩⟩)
theorem inj_s (x y : List UInt8) (h : enc_s x = enc_s y) : x = y := qxj h
def qqj (x : List UInt8) : List Lv := [.s x]
def qem : List Lv → Option (List UInt8)
 | [.s x] => some x
 | _ => none
theorem of_s (cs : List Lv) (x : List UInt8) (h : qem cs = some x) : qqj x = cs := by
 unfold qem at h;split at h
 ·cases h; rfl
 ·cases h
def qdo (x : Tape) : D := .agg [.list (((x.l)).map q5n), .v (.int .i64 (x.at_))]
theorem qu7 : ∀ x y : Tape, qdo x = qdo y → x = y
 | ⟨a0, a1⟩, ⟨b0, b1⟩, h => by
  simp only [qdo, D.agg.injEq, List.cons.injEq, and_true] at h;obtain ⟨h0, h1⟩ := h;have e0 : a0 = b0 := q1r q89 h0;have e1 : a1 = b1 := q2k h1;rw [e0, e1]
def qgm (x : Tape) : List Lv := [.l .i64 x.l, .i .i64 x.at_]
def q81 : List Lv → Option Tape
 | [l0, .i .i64 a1] => match asL .i64 l0 with
  | some m0 => some (Tape.mk m0 a1)
  | _ => none
 | _ => none
theorem qyl (cs : List Lv) (x : Tape) (h : q81 cs = some x) : qgm x = cs := by
 unfold q81 at h;split at h
 ·split at h
  ·rename_i m0 h0;cases q3f h0;cases h; rfl
  ·cases h
 ·cases h
def q4m (x : Member) : D := .agg [.v (.bool (x.Declared)), .v (.int .i64 (x.Trust.Threshold)), .list (((x.Trust.Nodes)).map q5n), .list (((x.Trust.Inner)).map q0x)]
theorem qbs : ∀ x y : Member, q4m x = q4m y → x = y
 | ⟨a0, ⟨a1, a2, a3⟩⟩, ⟨b0, ⟨b1, b2, b3⟩⟩, h => by
  simp only [q4m, D.agg.injEq, List.cons.injEq, and_true] at h;obtain ⟨h0, h1, h2, h3⟩ := h;have e0 : a0 = b0 := qol h0;have e1 : a1 = b1 := q2k h1;have e2 : a2 = b2 := q1r q89 h2;have e3 : a3 = b3 := q1r q54 h3;rw [e0, e1, e2, e3]
def qd9 (x : Member) : List Lv := [.b x.Declared, .i .i64 x.Trust.Threshold, .l .i64 x.Trust.Nodes, .l .Trust x.Trust.Inner]
def q5m : List Lv → Option Member
 | [.b a0, .i .i64 a1, l2, l3] => match asL .i64 l2, asL .Trust l3 with
  | some m2, some m3 => some (Member.mk a0 (Trust.mk a1 m2 m3))
  | _, _ => none
 | _ => none
theorem qs0 (cs : List Lv) (x : Member) (h : q5m cs = some x) : qd9 x = cs := by
 unfold q5m at h;split at h
 ·split at h
  ·rename_i m2 m3 h2 h3;cases q3f h2;cases q3f h3;cases h; rfl
  ·cases h
 ·cases h
def q8a (x : List (Member)) : D := .list (x.map q4m)
theorem qjn (x y : List (Member)) (h : q8a x = q8a y) : x = y := q1r qbs h
def q9a (x : List (Member)) : List Lv := [.l .Member x]
def q76 : List Lv → Option (List (Member))
 | [x] => asL .Member x
 | _ => none
theorem qmu : ∀ (cs : List Lv) (x : List (Member)), q76 cs = some x → q9a x = cs
 | [y], x, h => by rw [q3f (c := .Member) (x := y) (xs := x) h]; rfl
 | [], x, h => by
  have h' : (none : Option (List (Member))) = some x := h;cases h'
 | _ :: _ :: _, x, h => by
  have h' : (none : Option (List (Member))) = some x := h;cases h'
def q5f (x : Registry) : D := .agg [.list (((x.Entries)).map q24)]
theorem qk4 : ∀ x y : Registry, q5f x = q5f y → x = y
 | ⟨a0⟩, ⟨b0⟩, h => by
  simp only [q5f, D.agg.injEq, List.cons.injEq, and_true] at h;have h0 := h;have e0 : a0 = b0 := q1r q3m h0;rw [e0]
def q98 (x : Registry) : List Lv := [.l .l_Declaration x.Entries]
def q47 : List Lv → Option Registry
 | [l0] => match asL .l_Declaration l0 with
  | some m0 => some (Registry.mk m0)
  | _ => none
 | _ => none
theorem qlu (cs : List Lv) (x : Registry) (h : q47 cs = some x) : q98 x = cs := by
 unfold q47 at h;split at h
 ·split at h
  ·rename_i m0 h0;cases q3f h0;cases h; rfl
  ·cases h
 ·cases h
def q8o (x : Config) : D := .agg [.list (((x.Members)).map q4m)]
theorem qpw : ∀ x y : Config, q8o x = q8o y → x = y
 | ⟨a0⟩, ⟨b0⟩, h => by
  simp only [q8o, D.agg.injEq, List.cons.injEq, and_true] at h;have h0 := h;have e0 : a0 = b0 := q1r qbs h0;rw [e0]
def qd7 (x : Config) : List Lv := [.l .Member x.Members]
def q5p : List Lv → Option Config
 | [l0] => match asL .Member l0 with
  | some m0 => some (Config.mk m0)
  | _ => none
 | _ => none
theorem qrg (cs : List Lv) (x : Config) (h : q5p cs = some x) : qd7 x = cs := by
 unfold q5p at h;split at h
 ·split at h
  ·rename_i m0 h0;cases q3f h0;cases h; rfl
  ·cases h
 ·cases h
def encT : (c : TC) → Ty c → D
 | .i64 => q5n
 | .l_i64 => qer
 | .Trust => q0x
 | .l_Trust => q9v
 | .b => enc_b
 | .u64 => qme
 | .Declaration => q0b
 | .l_Declaration => q24
 | .l_l_Declaration => q30
 | .Evidence => q5g
 | .s => enc_s
 | .Tape => qdo
 | .Member => q4m
 | .l_Member => q8a
 | .Registry => q5f
 | .Config => q8o
def y0w : (c : TC) → Ty c → List Lv
 | .i64 => qkb
 | .l_i64 => qey
 | .Trust => q9o
 | .l_Trust => qab
 | .b => qsb
 | .u64 => ql7
 | .Declaration => q6c
 | .l_Declaration => q50
 | .l_l_Declaration => q3z
 | .Evidence => q9i
 | .s => qqj
 | .Tape => qgm
 | .Member => qd9
 | .l_Member => q9a
 | .Registry => q98
 | .Config => qd7
def qv4 : (c : TC) → List Lv → Option (Ty c)
 | .i64 => q9j
 | .l_i64 => qah
 | .Trust => q6i
 | .l_Trust => q88
 | .b => qf7
 | .u64 => q9n
 | .Declaration => q2z
 | .l_Declaration => q40
 | .l_l_Declaration => q3c
 | .Evidence => q42
 | .s => qem
 | .Tape => q81
 | .Member => q5m
 | .l_Member => q76
 | .Registry => q47
 | .Config => q5p
def aggF : TC → Bool
 | .i64 => false
 | .l_i64 => false
 | .Trust => true
 | .l_Trust => false
 | .b => false
 | .u64 => false
 | .Declaration => true
 | .l_Declaration => false
 | .l_l_Declaration => false
 | .Evidence => true
 | .s => false
 | .Tape => true
 | .Member => true
 | .l_Member => false
 | .Registry => true
 | .Config => true
def sizeF : TC → Nat
 | .i64 => 1
 | .l_i64 => 1
 | .Trust => 3
 | .l_Trust => 1
 | .b => 1
 | .u64 => 1
 | .Declaration => 6
 | .l_Declaration => 1
 | .l_l_Declaration => 1
 | .Evidence => 12
 | .s => 1
 | .Tape => 2
 | .Member => 4
 | .l_Member => 1
 | .Registry => 1
 | .Config => 1
def qtj : List (TypeId × TC × TypeId) := [(22, .i64,3),(25, .u64,45),(28, .l_Declaration, 39),(39, .Declaration, 47),(42, .Trust, 44),(51, .l_Trust, 42),(53, .Member, 61),(136, .s, 9)]
def qvf : List (TypeId × List (Option TC)) := [(22,[some .i64]),(25,[some .u64]),(28,[some .l_Declaration]),(29,[some .l_Declaration]),(30,[some .l_Declaration]),(39,[some .Declaration]),(42,[some .Trust]),(43,[none, some .i64, some .Trust]),(44,[none, some .i64, some .Trust]),(46,[none, none, none, some .i64, some .Trust, none]),(47,[none, none, none, some .i64, some .Trust, none]),(51,[some .l_Trust]),(53,[some .Member]),(54,[some .Member]),(55,[some .Member]),(60,[none, none, some .i64, some .Trust]),(61,[none, none, some .i64, some .Trust]),(63,[none, none, none, some .i64, some .Trust, none, none, none, none, some .i64, some .Trust, none]),(64,[none, none, none, some .i64, some .Trust, none, none, none, none, some .i64, some .Trust, none]),(68,[some .i64, none]),(69,[some .i64, none]),(113,[none]),(136,[some .s]),(145,[none, none]),(146,[none, none])]
def elemF : List (TypeId × TC × TypeId) → TypeId → Option TC
 | [], _ => none
 | (u, c, _) :: r, t => if u = t then some c else elemF r t
def sig : Sig := { TC := TC, Ty := Ty, enc := encT, cells := y0w, ofCells := qv4, agg := aggF, size := sizeF, elem := elemF qtj, lists := look1 [] qvf }
theorem qoc (P : Program) : ∀ (tab : List (TypeId × TC × TypeId)), (tab.all fun p => q1p P p.1 == some p.2.2 && tyAgg P p.2.2 == some (aggF p.2.1) && q0c P p.2.2 == some (sizeF p.2.1)) = true → ∀ t c, elemF tab t = some c → ∃ e, q1p P t = some e ∧ tyAgg P e = some (aggF c) ∧ q0c P e = some (sizeF c)
 | [], _, _, _, h => by cases h
 | (u, d, e) :: r, ha, t, c, h => by
  simp only [List.all_cons, aT, beq_iff_eq] at ha;simp only [elemF] at h;split at h
  ·rename_i hu; cases h; subst hu; exact ⟨e, ha.1.1.1, ha.1.1.2, ha.1.2⟩
  ·exact qoc P r ha.2 t c h
theorem qmf (x : Trust) : sig.enc .Trust x = (packT (S := sig) true (q9o x)).toD := by
 cases x;show q0x _ = _;simp only [q0x, qaa];rfl
theorem sigOk : sig.Ok Tryz.prog where
 enc_eq := fun c x => by cases c <;> first | rfl | exact qmf x
 of_eq := fun c cs x h => by
  have : sig.cells c x = cs := by
   cases c
   ·exact y1g cs x h
   ·exact qvg cs x h
   ·exact qvb cs x h
   ·exact qqd cs x h
   ·exact of_b cs x h
   ·exact y1e cs x h
   ·exact qga cs x h
   ·exact qdj cs x h
   ·exact qbf cs x h
   ·exact qn3 cs x h
   ·exact of_s cs x h
   ·exact qyl cs x h
   ·exact qs0 cs x h
   ·exact qmu cs x h
   ·exact qlu cs x h
   ·exact qrg cs x h
  rw [this]
 inj := fun c x y h => by
  cases c
  ·exact q89 x y h
  ·exact qsm x y h
  ·exact q54 x y h
  ·exact qlw x y h
  ·exact inj_b x y h
  ·exact qyn x y h
  ·exact q84 x y h
  ·exact q3m x y h
  ·exact q9k x y h
  ·exact ql5 x y h
  ·exact inj_s x y h
  ·exact qu7 x y h
  ·exact qbs x y h
  ·exact qjn x y h
  ·exact qk4 x y h
  ·exact qpw x y h
 len := fun c x => by cases c <;> rfl
 pos := fun c => by cases c <;> decide
 one := fun c h => by cases c <;> first | rfl | cases h
 elem := qoc Tryz.prog qtj (by kernel_rfl)
def y0y : List (Nat × List (OT sig)) := [(6,[.lf .b]),(7,[.ptr 0 0]),(9,[.lf (.i .i64)]),(21,[.lf (.l .l_Trust)]),(22,[.ag .Config, .lf (.i .i64)]),(23,[.ag .Config, .lf (.i .i64)]),(24,[.lf (.i .i64)]),(47,[.ag .Config, .lf (.i .i64)]),(8,[.lf (.l .u64)]),(10,[.ag .Registry]),(26,[.ag .Config]),(29,[.ref 0, .ref 0]),(16,[.lf (.l .Declaration)]),(13,[.lf (.i .i64)]),(39,[.lf (.i .i64)]),(72,[.lf (.l .Trust), .lf (.i .i64)]),(48,[.lf (.i .i64)]),(73,[.lf (.i .i64)]),(49,[.lf (.i .i64)]),(27,[.ag .Evidence, .lf .b]),(28,[.lf .b]),(15,[.lf .b]),(14,[.lf (.i .i64)]),(54,[.lf .b]),(17,[.ref 0, .ref 0]),(30,[.ag .Registry, .lf (.i .i64)]),(55,[.lf (.i .i64)]),(56,[.ref 0, .ref 0]),(57,[.lf (.l .Declaration)]),(35,[.lf (.i .i64)]),(62,[.lf .s]),(64,[.lf (.i .u64)]),(61,[.lf (.i .i64)]),(46,[.lf (.i .i64)]),(45,[.lf (.i .i64)]),(85,[.lf .s]),(86,[.lf .s]),(84,[.lf (.i .i64)]),(102,[.lf .s]),(103,[.lf .s]),(115,[.lf .s]),(52,[.lf (.i .i64)]),(53,[.ag .Trust]),(75,[.ref 0]),(40,[.ag .Declaration]),(66,[.ag .Trust]),(37,[.ag .Declaration, .lf (.i .i64)]),(44,[.ag .Trust]),(71,[.ag .Trust]),(19,[.lf (.l .i64)]),(34,[.lf (.i .i64)]),(65,[.lf (.i .i64), .lf .b]),(78,[.lf (.i .i64)]),(92,[.lf (.i .i64), .lf .b]),(94,[.ref 1]),(79,[.lf (.i .i64)]),(80,[.lf (.i .i64)]),(98,[.lf (.i .i64)]),(112,[.lf .b]),(114,[.lf (.i .i64), .lf (.i .i64)]),(119,[.lf (.i .i64)]),(95,[.lf (.i .i64)]),(109,[.lf .b]),(25,[.lf .b]),(50,[.lf .b]),(38,[.lf (.l .Declaration)]),(18,[.ag .Registry, .lf (.i .i64)]),(41,[.lf (.i .i64)]),(32,[.ag .Registry]),(59,[.lf (.i .i64)]),(68,[.lf .s]),(67,[.lf (.i .u64)]),(89,[.lf .s]),(104,[.lf .s]),(36,[.lf (.i .i64)]),(63,[.lf (.i .i64)]),(101,[.lf (.i .i64), .lf (.i .i64)]),(74,[.lf .b]),(91,[.lf (.i .i64)]),(60,[.lf (.i .i64)]),(82,[.lf (.i .i64)]),(83,[.lf (.i .i64)]),(81,[.lf (.i .i64)]),(99,[.lf .b]),(100,[.lf .b]),(93,[.lf (.i .i64)]),(105,[.lf (.i .i64)]),(106,[.lf (.i .i64)]),(120,[.lf .b]),(130,[.lf .b]),(138,[.lf .b]),(113,[.lf .b]),(51,[.lf .b]),(58,[.lf (.l .Declaration)]),(43,[.lf (.l .Declaration)]),(76,[.ref 0]),(77,[]),(97,[]),(110,[]),(116,[.lf .s])]
def qz0 : List (Nat × List (List (OT sig))) := [(7,[[.lf (.l .i64), .lf (.i .i64)]]),(29,[[.own .l_Declaration false]]),(17,[[.own .l_Declaration false]]),(56,[[.own .l_Declaration false]]),(75,[[.own .i64 false]]),(94,[[.own .Trust false]]),(76,[[.own .Declaration false]])]
noncomputable def tn : TEn := { E := env, S := sig, res := look1 [] y0y, news := look1 [] qz0, outs := fun f => if List.contains [94] f then some [[.undef]] else none, cut := fun _ _ => false }
def qho (fn : Func) : Code := match fn.body with | some c => c | none => .skip
def q0h (fn : Func) (p : List Nat) : Code := qfx p (qho fn)
def y1t (fn : Func) (p ms : List Nat) : List Fr := qfp p (qho fn) ms []
abbrev o0' : OSpec sig := ⟨[.lf (.i .i64)],[]⟩
abbrev o1' : OSpec sig := ⟨[.lf .b],[]⟩
abbrev o2' : OSpec sig := ⟨[.lf .s],[]⟩
abbrev o3' : OSpec sig := ⟨[.lf (.l .Declaration)],[]⟩
abbrev o4' : OSpec sig := ⟨[],[[.own .Declaration false]]⟩
abbrev o5' : OSpec sig := ⟨[.ag .Config, .lf (.i .i64)],[]⟩
abbrev o6' : OSpec sig := ⟨[.ag .Trust],[[.lf (.l .i64), .lf (.i .i64)]]⟩
abbrev o7' : OSpec sig := ⟨[.ref 0, .ref 0],[[.own .l_Declaration false]]⟩
abbrev o8' : OSpec sig := ⟨[.lf (.i .i64), .lf (.i .i64)],[]⟩
abbrev o9' : OSpec sig := ⟨[.lf (.i .i64)],[[.lf (.l .i64), .lf (.i .i64)]]⟩
abbrev o10' : OSpec sig := ⟨[.lf (.l .l_Trust)],[[.lf (.l .i64), .lf (.i .i64)]]⟩
abbrev o11' : OSpec sig := ⟨[.lf (.l .i64)],[[.lf (.l .i64), .lf (.i .i64)]]⟩
abbrev o12' : OSpec sig := ⟨[.lf (.l .u64)],[[.lf (.l .i64), .lf (.i .i64)]]⟩
abbrev o13' : OSpec sig := ⟨[.ag .Registry],[[.lf (.l .i64), .lf (.i .i64)]]⟩
abbrev o14' : OSpec sig := ⟨[.ag .Config],[]⟩
abbrev o15' : OSpec sig := ⟨[.lf (.l .Declaration)],[[.lf (.l .i64), .lf (.i .i64)]]⟩
abbrev o16' : OSpec sig := ⟨[.lf (.l .Trust), .lf (.i .i64)],[]⟩
abbrev o17' : OSpec sig := ⟨[.ag .Evidence, .lf .b],[]⟩
abbrev o18' : OSpec sig := ⟨[.ag .Registry, .lf (.i .i64)],[]⟩
abbrev o19' : OSpec sig := ⟨[.ag .Trust],[]⟩
abbrev o20' : OSpec sig := ⟨[.lf (.i .i64), .lf .b],[]⟩
abbrev o21' : OSpec sig := ⟨[.lf (.i .i64), .lf .b],[[.own .Trust false]]⟩
abbrev o22' : OSpec sig := ⟨[.ag .Registry],[]⟩
abbrev o23' : OSpec sig := ⟨[.ptr 0 0],[[.lf (.l .i64), .lf (.i .i64)]]⟩
abbrev o24' : OSpec sig := ⟨[.ag .Declaration],[[.lf (.l .i64), .lf (.i .i64)]]⟩
abbrev o25' : OSpec sig := ⟨[.ag .Declaration, .lf (.i .i64)],[]⟩
def eL {α : Type} (b a : Option α) : Prop := ∀ r, a = some r → b = some r
theorem cL {f : FuncId} {fn : Func} {vs : List (TL sig)} {hs : THeap sig} (o : OSpec sig) (hf : Tryz.prog.funcs[f]? = some fn) {p : Option o.Out} (hok : env.ok f = true := by kernel_rfl) (hb : fn.body = some (qho fn) := by kernel_rfl) (hn0 : (decide (vs.length ≤ fn.ntmps) && (q5o Tryz.prog fn (qho fn)).isNone && (env.seek f).isNone && (env.lib f).isNone) = true := by kernel_rfl) (h : te tn ⟨f, fn, hs.length⟩ o 100000 (qho fn) [] ⟨bindT 0 vs, hs⟩ = p := by kernel_rfl) : eL (callC tn f vs hs o) p := qvp (T := tn) sigOk 100000 hok hf hb hn0 h
theorem gL {F : Fx} (o : OSpec sig) (b : Code) {c : Code} {K : List Fr} {s : TSt sig} {p : Option o.Out} (hc : c = .loop b := by kernel_rfl) (h : te tn F o 100000 b (.loop b s.heap.length :: K) s = p := by kernel_rfl) : eL (goC tn F o c K s) p := qq1 (T := tn) sigOk 100000 hc h
end Go.Proofs.YtkeiaodiibageaaGreatDoor
