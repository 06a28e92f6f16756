/- The seat's program for the machines. -/
import Derived.Test.YtjfhnffdijlboaaGreatP15An
import Derived.Test.YtjfhnffdijlboaaGreatMachT
import Derived.Test.YtjfhnffdijlboaaGreatChecked
namespace Go.Proofs.YtjfhnffdijlboaaGreat
open Go Go.Ab
def look1 {α : Type} (d : α) : List (Nat × α) -> Nat -> α
 | [], _ => d
 | (k, v) :: r, t => if k = t then v else look1 d r t
def an : An := { flag := fun f t => if (look1 [] y7x f).contains t then .keep else .view, clear := fun f => look1 [] (look1 [] y53 f), mode := fun f => look1 0 (look1 [] y7m f), order := fun f => look1 [] (look1 [] y5b f), own := fun f => anOwn.contains f }
def lastF : Nat := 175
def badF : List Nat := []
def okF (h : Nat) : Bool := decide (2 <= h /\ h <= lastF) && !badF.contains h
noncomputable def env : Env0 := { P := Tryz.prog, glob := fun _ => none, an := an, ok := okF, seek := fun f => if List.contains [127] f then some (120, setOrder) else none }
structure Refutation where
 Node : Int
 A : Int
 B : Int
structure Tape where
 l : List (Int)
 at_ : Int
structure Trust where
 Threshold : Int
 Nodes : List (Int)
 Inner : List (Trust)
structure Explanation where
 Kind : Int
 Set : Int
 A : Int
 B : Int
 Refutations : List (Refutation)
structure Member where
 Declared : Bool
 Trust : Trust
structure Config where
 Members : List (Member)
structure Arr2_Config where
 e0 : Config
 e1 : Config
inductive TC where
 | i64 | b | l_i64 | Refutation | l_Refutation | Tape | Trust | l_Trust | Explanation | Member | l_Member | Config | Arr2_Config
 deriving DecidableEq
def Ty : TC -> Type
 | .i64 => Int
 | .b => Bool
 | .l_i64 => List (Int)
 | .Refutation => Refutation
 | .l_Refutation => List (Refutation)
 | .Tape => Tape
 | .Trust => Trust
 | .l_Trust => List (Trust)
 | .Explanation => Explanation
 | .Member => Member
 | .l_Member => List (Member)
 | .Config => Config
 | .Arr2_Config => Arr2_Config
abbrev Lv := Leaf TC Ty
def asL (c : TC) : Lv -> Option (List (Ty c))
 | .l c' xs => if h : c' = c then some (h ▸ xs) else none
 | _ => none
theorem q7i {c : TC} {x : Lv} {xs : List (Ty c)} (h : asL c x = some xs) : x = .l c xs := by
 cases x with
 | l c' ys =>
  simp only [asL] at h;split at h
  ·rename_i hc;subst hc;cases h; rfl
  ·cases h
 | _ => cases h
def q6o (x : Int) : D := .v (.int .i64 x)
theorem qfp (x y : Int) (h : q6o x = q6o y) : x = y := q64 h
def qn7 (x : Int) : List Lv := [.i .i64 x]
def qb6 : List Lv -> Option (Int)
 | [.i .i64 x] => some x
 | _ => none
theorem y7z (cs : List Lv) (x : Int) (h : qb6 cs = some x) : qn7 x = cs := by
 unfold qb6 at h;split at h
 ·cases h; rfl
 ·cases h
def enc_b (x : Bool) : D := .v (.bool x)
theorem inj_b (x y : Bool) (h : enc_b x = enc_b y) : x = y := qqz h
def qy5 (x : Bool) : List Lv := [.b x]
def qfx : List Lv -> Option (Bool)
 | [.b x] => some x
 | _ => none
theorem of_b (cs : List Lv) (x : Bool) (h : qfx cs = some x) : qy5 x = cs := by
 unfold qfx at h;split at h
 ·cases h; rfl
 ·cases h
def qhz (x : List (Int)) : D := .list (x.map q6o)
theorem qvl (x y : List (Int)) (h : qhz x = qhz y) : x = y := q3t qfp h
def qhj (x : List (Int)) : List Lv := [.l .i64 x]
def qcf : List Lv -> Option (List (Int))
 | [x] => asL .i64 x
 | _ => none
theorem qzh : ∀ (cs : List Lv) (x : List (Int)), qcf cs = some x -> qhj x = cs
 | [y], x, h => by rw [q7i (c := .i64) (x := y) (xs := x) h]; rfl
 | [], x, h => by
  have h' : (none : Option (List (Int))) = some x := h;cases h'
 | _ :: _ :: _, x, h => by
  have h' : (none : Option (List (Int))) = some x := h;cases h'
def q1m (x : Refutation) : D := .agg [.v (.int .i64 (x.Node)), .v (.int .i64 (x.A)), .v (.int .i64 (x.B))]
theorem q6x : ∀ x y : Refutation, q1m x = q1m y -> x = y
 | ⟨a0, a1, a2⟩, ⟨b0, b1, b2⟩, h => by
  simp only [q1m, D.agg.injEq, List.cons.injEq, and_true] at h;obtain ⟨h0, h1, h2⟩ := h;have e0 : a0 = b0 := q64 h0;have e1 : a1 = b1 := q64 h1;have e2 : a2 = b2 := q64 h2;rw [e0, e1, e2]
def q8r (x : Refutation) : List Lv := [.i .i64 x.Node, .i .i64 x.A, .i .i64 x.B]
def q4i : List Lv -> Option Refutation
 | [.i .i64 a0, .i .i64 a1, .i .i64 a2] => some (Refutation.mk a0 a1 a2)
 | _ => none
theorem qjm (cs : List Lv) (x : Refutation) (h : q4i cs = some x) : q8r x = cs := by
 unfold q4i at h;split at h
 ·cases h; rfl
 ·cases h
def q5c (x : List (Refutation)) : D := .list (x.map q1m)
theorem qez (x y : List (Refutation)) (h : q5c x = q5c y) : x = y := q3t q6x h
def q6e (x : List (Refutation)) : List Lv := [.l .Refutation x]
def q5f : List Lv -> Option (List (Refutation))
 | [x] => asL .Refutation x
 | _ => none
theorem qhe : ∀ (cs : List Lv) (x : List (Refutation)), q5f cs = some x -> q6e x = cs
 | [y], x, h => by rw [q7i (c := .Refutation) (x := y) (xs := x) h]; rfl
 | [], x, h => by
  have h' : (none : Option (List (Refutation))) = some x := h;cases h'
 | _ :: _ :: _, x, h => by
  have h' : (none : Option (List (Refutation))) = some x := h;cases h'
def qf3 (x : Tape) : D := .agg [.list (((x.l)).map q6o), .v (.int .i64 (x.at_))]
theorem qz7 : ∀ x y : Tape, qf3 x = qf3 y -> x = y
 | ⟨a0, a1⟩, ⟨b0, b1⟩, h => by
  simp only [qf3, D.agg.injEq, List.cons.injEq, and_true] at h;obtain ⟨h0, h1⟩ := h;have e0 : a0 = b0 := q3t qfp h0;have e1 : a1 = b1 := q64 h1;rw [e0, e1]
def qig (x : Tape) : List Lv := [.l .i64 x.l, .i .i64 x.at_]
def qa3 : List Lv -> Option Tape
 | [l0, .i .i64 a1] => match asL .i64 l0 with
  | some m0 => some (Tape.mk m0 a1)
  | _ => none
 | _ => none
theorem y46 (cs : List Lv) (x : Tape) (h : qa3 cs = some x) : qig x = cs := by
 unfold qa3 at h;split at h
 ·split at h
  ·rename_i m0 h0;cases q7i h0;cases h; rfl
  ·cases h
 ·cases h
mutual
def q2a : Trust -> D
 | ⟨a0, a1, a2⟩ => .agg [.v (.int .i64 a0), .list ((a1).map q6o), .list (q2y a2)]
def q2y : List Trust -> List D
 | [] => []
 | x :: r => q2a x :: q2y r
end
theorem q5l : ∀ l : List Trust, q2y l = l.map q2a
 | [] => rfl
 | x :: r => by simp only [q2y, q5l r, List.map_cons]
mutual
theorem qbu : ∀ x y : Trust, q2a x = q2a y -> x = y
 | ⟨a0, a1, a2⟩, ⟨b0, b1, b2⟩, h => by
  simp only [q2a, D.agg.injEq, List.cons.injEq, and_true] at h;obtain ⟨h0, h1, h2⟩ := h;have e0 : a0 = b0 := q64 h0;have e1 : a1 = b1 := q3t qfp h1;have e2 : a2 = b2 := qjb _ _ (D.list.inj h2);rw [e0, e1, e2]
theorem qjb : ∀ x y : List Trust, q2y x = q2y y -> x = y
 | [], [], _ => rfl
 | [], _ :: _, h => by simp [q2y] at h
 | _ :: _, [], h => by simp [q2y] at h
 | x :: r, y :: r', h => by
  simp only [q2y, List.cons.injEq] at h;rw [qbu x y h.1, qjb r r' h.2]
end
def qbi (x : Trust) : List Lv := [.i .i64 x.Threshold, .l .i64 x.Nodes, .l .Trust x.Inner]
def q8j : List Lv -> Option Trust
 | [.i .i64 a0, l1, l2] => match asL .i64 l1, asL .Trust l2 with
  | some m1, some m2 => some (Trust.mk a0 m1 m2)
  | _, _ => none
 | _ => none
theorem qzw (cs : List Lv) (x : Trust) (h : q8j cs = some x) : qbi x = cs := by
 unfold q8j at h;split at h
 ·split at h
  ·rename_i m1 m2 h1 h2;cases q7i h1;cases q7i h2;cases h; rfl
  ·cases h
 ·cases h
def qb7 (x : List (Trust)) : D := .list (x.map q2a)
theorem qpi (x y : List (Trust)) (h : qb7 x = qb7 y) : x = y := q3t qbu h
def qbo (x : List (Trust)) : List Lv := [.l .Trust x]
def q92 : List Lv -> Option (List (Trust))
 | [x] => asL .Trust x
 | _ => none
theorem qu0 : ∀ (cs : List Lv) (x : List (Trust)), q92 cs = some x -> qbo x = cs
 | [y], x, h => by rw [q7i (c := .Trust) (x := y) (xs := x) h]; rfl
 | [], x, h => by
  have h' : (none : Option (List (Trust))) = some x := h;cases h'
 | _ :: _ :: _, x, h => by
  have h' : (none : Option (List (Trust))) = some x := h;cases h'
def q16 (x : Explanation) : D := .agg [.v (.int .i64 (x.Kind)), .v (.int .i64 (x.Set)), .v (.int .i64 (x.A)), .v (.int .i64 (x.B)), .list (((x.Refutations)).map q1m)]
theorem qgj : ∀ x y : Explanation, q16 x = q16 y -> x = y
 | ⟨a0, a1, a2, a3, a4⟩, ⟨b0, b1, b2, b3, b4⟩, h => by
  simp only [q16, D.agg.injEq, List.cons.injEq, and_true] at h;obtain ⟨h0, h1, h2, h3, h4⟩ := h;have e0 : a0 = b0 := q64 h0;have e1 : a1 = b1 := q64 h1;have e2 : a2 = b2 := q64 h2;have e3 : a3 = b3 := q64 h3;have e4 : a4 = b4 := q3t q6x h4;rw [e0, e1, e2, e3, e4]
def q4q (x : Explanation) : List Lv := [.i .i64 x.Kind, .i .i64 x.Set, .i .i64 x.A, .i .i64 x.B, .l .Refutation x.Refutations]
def q3z : List Lv -> Option Explanation
 | [.i .i64 a0, .i .i64 a1, .i .i64 a2, .i .i64 a3, l4] => match asL .Refutation l4 with
  | some m4 => some (Explanation.mk a0 a1 a2 a3 m4)
  | _ => none
 | _ => none
theorem qia (cs : List Lv) (x : Explanation) (h : q3z cs = some x) : q4q x = cs := by
 unfold q3z at h;split at h
 ·split at h
  ·rename_i m4 h4;cases q7i h4;cases h; rfl
  ·cases h
 ·cases h
def q2z (x : Member) : D := .agg [.v (.bool (x.Declared)), .v (.int .i64 (x.Trust.Threshold)), .list (((x.Trust.Nodes)).map q6o), .list (((x.Trust.Inner)).map q2a)]
theorem q75 : ∀ x y : Member, q2z x = q2z y -> x = y
 | ⟨a0, ⟨a1, a2, a3⟩⟩, ⟨b0, ⟨b1, b2, b3⟩⟩, h => by
  simp only [q2z, D.agg.injEq, List.cons.injEq, and_true] at h;obtain ⟨h0, h1, h2, h3⟩ := h;have e0 : a0 = b0 := qqz h0;have e1 : a1 = b1 := q64 h1;have e2 : a2 = b2 := q3t qfp h2;have e3 : a3 = b3 := q3t qbu h3;rw [e0, e1, e2, e3]
def qeq (x : Member) : List Lv := [.b x.Declared, .i .i64 x.Trust.Threshold, .l .i64 x.Trust.Nodes, .l .Trust x.Trust.Inner]
def q6w : List Lv -> Option Member
 | [.b a0, .i .i64 a1, l2, l3] => match asL .i64 l2, asL .Trust l3 with
  | some m2, some m3 => some (Member.mk a0 (Trust.mk a1 m2 m3))
  | _, _ => none
 | _ => none
theorem qvs (cs : List Lv) (x : Member) (h : q6w cs = some x) : qeq x = cs := by
 unfold q6w at h;split at h
 ·split at h
  ·rename_i m2 m3 h2 h3;cases q7i h2;cases q7i h3;cases h; rfl
  ·cases h
 ·cases h
def q91 (x : List (Member)) : D := .list (x.map q2z)
theorem qlu (x y : List (Member)) (h : q91 x = q91 y) : x = y := q3t q75 h
def qaw (x : List (Member)) : List Lv := [.l .Member x]
def q8o : List Lv -> Option (List (Member))
 | [x] => asL .Member x
 | _ => none
theorem qoo : ∀ (cs : List Lv) (x : List (Member)), q8o cs = some x -> qaw x = cs
 | [y], x, h => by rw [q7i (c := .Member) (x := y) (xs := x) h]; rfl
 | [], x, h => by
  have h' : (none : Option (List (Member))) = some x := h;cases h'
 | _ :: _ :: _, x, h => by
  have h' : (none : Option (List (Member))) = some x := h;cases h'
def q1j (x : Config) : D := .agg [.list (((x.Members)).map q2z)]
theorem qt1 : ∀ x y : Config, q1j x = q1j y -> x = y
 | ⟨a0⟩, ⟨b0⟩, h => by
  simp only [q1j, D.agg.injEq, List.cons.injEq, and_true] at h;have h0 := h;have e0 : a0 = b0 := q3t q75 h0;rw [e0]
def q6l (x : Config) : List Lv := [.l .Member x.Members]
def q6r : List Lv -> Option Config
 | [l0] => match asL .Member l0 with
  | some m0 => some (Config.mk m0)
  | _ => none
 | _ => none
theorem qul (cs : List Lv) (x : Config) (h : q6r cs = some x) : q6l x = cs := by
 unfold q6r at h;split at h
 ·split at h
  ·rename_i m0 h0;cases q7i h0;cases h; rfl
  ·cases h
 ·cases h
def q4d (x : Arr2_Config) : D := .agg [.list (((x.e0.Members)).map q2z), .list (((x.e1.Members)).map q2z)]
theorem qhc : ∀ x y : Arr2_Config, q4d x = q4d y -> x = y
 | ⟨⟨a0⟩, ⟨a1⟩⟩, ⟨⟨b0⟩, ⟨b1⟩⟩, h => by
  simp only [q4d, D.agg.injEq, List.cons.injEq, and_true] at h;obtain ⟨h0, h1⟩ := h;have e0 : a0 = b0 := q3t q75 h0;have e1 : a1 = b1 := q3t q75 h1;rw [e0, e1]
def q79 (x : Arr2_Config) : List Lv := [.l .Member x.e0.Members, .l .Member x.e1.Members]
def q40 : List Lv -> Option Arr2_Config
 | [l0, l1] => match asL .Member l0, asL .Member l1 with
  | some m0, some m1 => some (Arr2_Config.mk (Config.mk m0) (Config.mk m1))
  | _, _ => none
 | _ => none
theorem qi4 (cs : List Lv) (x : Arr2_Config) (h : q40 cs = some x) : q79 x = cs := by
 unfold q40 at h;split at h
 ·split at h
  ·rename_i m0 m1 h0 h1;cases q7i h0;cases q7i h1;cases h; rfl
  ·cases h
 ·cases h
def encT : (c : TC) -> Ty c -> D
 | .i64 => q6o
 | .b => enc_b
 | .l_i64 => qhz
 | .Refutation => q1m
 | .l_Refutation => q5c
 | .Tape => qf3
 | .Trust => q2a
 | .l_Trust => qb7
 | .Explanation => q16
 | .Member => q2z
 | .l_Member => q91
 | .Config => q1j
 | .Arr2_Config => q4d
def yae : (c : TC) -> Ty c -> List Lv
 | .i64 => qn7
 | .b => qy5
 | .l_i64 => qhj
 | .Refutation => q8r
 | .l_Refutation => q6e
 | .Tape => qig
 | .Trust => qbi
 | .l_Trust => qbo
 | .Explanation => q4q
 | .Member => qeq
 | .l_Member => qaw
 | .Config => q6l
 | .Arr2_Config => q79
def qzn : (c : TC) -> List Lv -> Option (Ty c)
 | .i64 => qb6
 | .b => qfx
 | .l_i64 => qcf
 | .Refutation => q4i
 | .l_Refutation => q5f
 | .Tape => qa3
 | .Trust => q8j
 | .l_Trust => q92
 | .Explanation => q3z
 | .Member => q6w
 | .l_Member => q8o
 | .Config => q6r
 | .Arr2_Config => q40
def aggF : TC -> Bool
 | .i64 => false
 | .b => false
 | .l_i64 => false
 | .Refutation => true
 | .l_Refutation => false
 | .Tape => true
 | .Trust => true
 | .l_Trust => false
 | .Explanation => true
 | .Member => true
 | .l_Member => false
 | .Config => true
 | .Arr2_Config => true
def sizeF : TC -> Nat
 | .i64 => 1
 | .b => 1
 | .l_i64 => 1
 | .Refutation => 3
 | .l_Refutation => 1
 | .Tape => 2
 | .Trust => 3
 | .l_Trust => 1
 | .Explanation => 5
 | .Member => 4
 | .l_Member => 1
 | .Config => 1
 | .Arr2_Config => 2
def qyc : List (TypeId × TC × TypeId) := [(22, .i64,3),(25, .Member, 72),(49, .Refutation, 92),(55, .Explanation, 51),(60, .Arr2_Config, 58),(67, .l_Trust, 68),(68, .Trust, 70)]
def qyr : List (TypeId × List (Option TC)) := [(22,[some .i64]),(25,[some .Member]),(26,[some .Member]),(27,[some .Member]),(49,[some .Refutation]),(50,[none, none, none, none, some .Refutation]),(51,[none, none, none, none, some .Refutation]),(55,[some .Explanation]),(58,[some .Member, some .Member]),(60,[some .Arr2_Config]),(64,[some .i64, none]),(65,[some .i64, none]),(67,[some .l_Trust]),(68,[some .Trust]),(69,[none, some .i64, some .Trust]),(70,[none, some .i64, some .Trust]),(71,[none, none, some .i64, some .Trust]),(72,[none, none, some .i64, some .Trust])]
def elemF : List (TypeId × TC × TypeId) -> TypeId -> Option TC
 | [], _ => none
 | (u, c, _) :: r, t => if u = t then some c else elemF r t
def sig : Sig := { TC := TC, Ty := Ty, enc := encT, cells := yae, ofCells := qzn, agg := aggF, size := sizeF, elem := elemF qyc, lists := look1 [] qyr }
theorem qs9 (P : Program) : ∀ (tab : List (TypeId × TC × TypeId)), (tab.all fun p => q29 P p.1 == some p.2.2 && tyAgg P p.2.2 == some (aggF p.2.1) && q0l P p.2.2 == some (sizeF p.2.1)) = true -> ∀ t c, elemF tab t = some c -> ∃ e, q29 P t = some e /\ tyAgg P e = some (aggF c) /\ q0l P e = some (sizeF c)
 | [], _, _, _, h => by cases h
 | (u, d, e) :: r, ha, t, c, h => by
  simp only [List.all_cons, aT, beq_iff_eq] at ha;simp only [elemF] at h;split at h
  ·rename_i hu; cases h; subst hu; exact ⟨e, ha.1.1.1, ha.1.1.2, ha.1.2⟩
  ·exact qs9 P r ha.2 t c h
theorem qoa (x : Trust) : sig.enc .Trust x = (packT (S := sig) true (qbi x)).toD := by
 cases x;show q2a _ = _;simp only [q2a, q5l];rfl
theorem sigOk : sig.Ok Tryz.prog where
 enc_eq := fun c x => by cases c <;> first | rfl | exact qoa x
 of_eq := fun c cs x h => by
  have : sig.cells c x = cs := by
   cases c
   ·exact y7z cs x h
   ·exact of_b cs x h
   ·exact qzh cs x h
   ·exact qjm cs x h
   ·exact qhe cs x h
   ·exact y46 cs x h
   ·exact qzw cs x h
   ·exact qu0 cs x h
   ·exact qia cs x h
   ·exact qvs cs x h
   ·exact qoo cs x h
   ·exact qul cs x h
   ·exact qi4 cs x h
  rw [this]
 inj := fun c x y h => by
  cases c
  ·exact qfp x y h
  ·exact inj_b x y h
  ·exact qvl x y h
  ·exact q6x x y h
  ·exact qez x y h
  ·exact qz7 x y h
  ·exact qbu x y h
  ·exact qpi x y h
  ·exact qgj x y h
  ·exact q75 x y h
  ·exact qlu x y h
  ·exact qt1 x y h
  ·exact qhc x y h
 len := fun c x => by cases c <;> rfl
 pos := fun c => by cases c <;> decide
 one := fun c h => by cases c <;> first | rfl | cases h
 elem := qs9 Tryz.prog qyc (by kernel_rfl)
def y8a : List (Nat × List (OT sig)) := [(8,[.lf .b]),(4,[.lf .b]),(7,[.lf .b]),(6,[.lf .b]),(5,[.lf .b]),(3,[.lf .b]),(28,[.lf .b]),(17,[.lf .b]),(9,[.ptr 0 0]),(10,[.ag .Config, .ag .Config]),(29,[.ag .Config]),(11,[.lf (.i .i64)]),(12,[.lf (.i .i64), .lf (.i .i64)]),(19,[.lf (.l .i64)]),(20,[.lf (.i .i64)]),(22,[.lf (.i .i64)]),(13,[.lf (.i .i64), .lf (.i .i64)]),(14,[.lf .b]),(15,[.lf (.l .i64), .lf (.i .i64)]),(16,[.lf .b, .lf (.i .i64)]),(53,[.ag .Config]),(36,[.ag .Config]),(35,[.lf (.i .i64)]),(73,[.ag .Trust]),(41,[.lf (.i .i64), .lf .b, .lf (.i .i64)]),(43,[.lf .b]),(40,[.lf (.i .i64)]),(54,[.lf (.l .i64)]),(42,[.lf (.i .i64)]),(45,[.lf (.i .i64)]),(47,[.lf (.i .i64)]),(46,[.lf (.l .i64)]),(49,[.lf (.i .i64)]),(50,[.lf (.i .i64)]),(52,[.ag .Config]),(51,[.lf .b, .lf (.i .i64)]),(77,[.lf (.i .i64)]),(82,[.lf (.l .i64), .lf (.i .i64)]),(67,[.lf .b, .lf (.i .i64)]),(83,[.lf (.i .i64)]),(89,[.lf (.i .i64), .lf (.i .i64)]),(99,[.lf (.i .i64)]),(100,[.lf (.i .i64)]),(98,[.lf (.l .i64)]),(104,[.lf (.i .i64)]),(59,[.ag .Config]),(105,[.lf .b, .lf (.i .i64)]),(116,[.lf (.i .i64)]),(66,[.lf (.i .i64)]),(94,[.lf (.i .i64)]),(95,[.lf (.i .i64), .lf (.i .i64)]),(92,[.lf (.i .i64)]),(21,[.lf .b]),(24,[.lf .b]),(44,[.lf .b]),(25,[.ag .Explanation, .lf (.i .i64)]),(26,[.lf .b]),(27,[.lf .b]),(57,[.lf .b]),(58,[.lf (.i .i64), .lf (.i .i64), .lf (.i .i64)]),(60,[.lf (.l .i64)]),(62,[.lf (.i .i64)]),(68,[.lf .b, .lf (.i .i64)]),(69,[.lf .b]),(70,[.lf .b]),(71,[.lf .b]),(91,[.lf .b]),(74,[.lf (.i .i64)]),(106,[.lf .b]),(107,[.lf .b]),(108,[.lf (.i .i64), .lf .b]),(118,[.lf .b]),(129,[.lf .b, .lf (.i .i64)]),(55,[.lf (.l .i64)]),(23,[.lf (.i .i64), .lf .b, .lf (.i .i64)]),(18,[.lf .b]),(72,[.lf (.i .i64)]),(38,[.ag .Config, .lf (.i .i64)]),(39,[.ag .Config, .lf (.i .i64)]),(81,[.ag .Config, .lf (.i .i64)]),(48,[.lf .b]),(85,[.lf .b, .lf (.i .i64)]),(78,[.ag .Trust]),(79,[.ag .Trust]),(80,[.ag .Trust]),(110,[.ag .Trust]),(87,[.lf (.i .i64)]),(131,[.lf (.l .i64)]),(113,[.lf (.i .i64)]),(114,[.lf (.i .i64)]),(115,[.lf (.i .i64)]),(84,[.lf (.i .i64)]),(86,[.lf .b]),(88,[.lf (.i .i64)]),(112,[.lf .b]),(90,[.ag .Trust]),(117,[.ag .Trust]),(124,[]),(142,[.lf (.i .i64)]),(141,[]),(162,[.lf (.i .i64)]),(96,[.ag .Trust]),(97,[.ag .Trust]),(123,[.ag .Trust]),(103,[.lf .b, .lf (.i .i64), .lf (.i .i64)]),(126,[.lf (.i .i64)]),(127,[.lf (.i .i64), .lf .b]),(136,[.lf (.i .i64)]),(128,[.lf .b]),(148,[.lf (.i .i64)]),(149,[.lf (.i .i64)]),(150,[.lf (.i .i64)]),(93,[.lf .b]),(164,[.lf .b]),(166,[.lf (.i .i64), .lf (.i .i64)]),(174,[.lf (.i .i64)]),(119,[.lf (.i .i64)]),(135,[.lf .b]),(137,[.lf (.i .i64)]),(120,[.lf (.i .i64), .lf .b]),(122,[.lf (.i .i64)]),(121,[.lf (.i .i64)]),(138,[.lf (.i .i64)]),(139,[.lf (.i .i64), .lf (.l .i64)]),(152,[.lf (.i .i64)]),(168,[.lf (.i .i64)]),(30,[.lf (.i .i64), .lf (.i .i64)]),(31,[.lf (.i .i64), .lf (.i .i64)]),(32,[.lf (.i .i64), .lf .b, .lf (.i .i64)]),(33,[.ag .Explanation, .lf (.i .i64)]),(34,[.lf .b]),(75,[.lf (.i .i64), .lf (.i .i64), .lf (.i .i64)]),(64,[.lf (.l .i64)]),(61,[.ag .Refutation, .lf (.i .i64)]),(63,[.lf .b, .lf (.i .i64)]),(109,[.lf .b]),(101,[.lf .b]),(130,[.lf .b]),(56,[.lf .b]),(37,[.ag .Trust]),(133,[.lf (.i .i64), .lf (.i .i64)]),(134,[.lf (.i .i64)]),(153,[]),(154,[]),(155,[]),(156,[.lf (.i .i64), .lf (.i .i64)]),(157,[]),(158,[.lf .b]),(125,[.lf (.i .i64)]),(159,[.lf (.i .i64)]),(160,[.lf (.i .i64), .lf .b]),(170,[.lf (.i .u64)]),(172,[.lf (.i .i64)]),(173,[.lf (.i .i64)]),(145,[.lf (.i .i64)]),(144,[.lf (.i .i64)]),(143,[.lf (.i .i64)]),(175,[.lf (.i .i64), .lf (.i .i64)]),(163,[.lf .b]),(140,[.lf (.i .i64)]),(165,[.lf .b]),(151,[.lf .b]),(76,[.ag .Refutation, .lf (.i .i64)]),(65,[.lf .b]),(102,[.lf .b]),(111,[.lf (.l .Trust)]),(169,[]),(171,[.lf (.i .u64)]),(132,[.lf (.i .i64)]),(147,[.lf (.i .i64)])]
def y41 : List (Nat × List (List (OT sig))) := [(9,[[.lf (.l .i64), .lf (.i .i64)]])]
noncomputable def tn : TEn := { E := env, S := sig, res := look1 [] y8a, news := look1 [] y41, cut := fun f id => List.contains [(26,5)] (f, id) }
def qmm (fn : Func) : Code := match fn.body with | some c => c | none => .skip
def q0a (fn : Func) (p : List Nat) : Code := qgv p (qmm fn)
def y6f (fn : Func) (p ms : List Nat) : List Fr := qgw p (qmm fn) ms []
abbrev o0' : OSpec sig := ⟨[.lf (.i .i64)],[]⟩
abbrev o1' : OSpec sig := ⟨[.lf .b],[]⟩
abbrev o2' : OSpec sig := ⟨[.lf (.l .i64)],[]⟩
abbrev o3' : OSpec sig := ⟨[],[[.own .i64 false]]⟩
abbrev o4' : OSpec sig := ⟨[.ag .Trust],[[.lf (.l .i64), .lf (.i .i64)]]⟩
abbrev o5' : OSpec sig := ⟨[.lf (.i .i64), .lf (.i .i64)],[]⟩
abbrev o6' : OSpec sig := ⟨[.ag .Trust],[]⟩
abbrev o7' : OSpec sig := ⟨[.lf .b, .lf (.i .i64)],[]⟩
abbrev o8' : OSpec sig := ⟨[.lf (.i .i64), .lf .b],[[.own .i64 false]]⟩
abbrev o9' : OSpec sig := ⟨[.ag .Config],[]⟩
abbrev o10' : OSpec sig := ⟨[.lf (.i .i64), .lf .b, .lf (.i .i64)],[]⟩
abbrev o11' : OSpec sig := ⟨[.lf .b],[[.own .i64 false]]⟩
abbrev o12' : OSpec sig := ⟨[.ag .Config],[[.lf (.l .i64), .lf (.i .i64)]]⟩
abbrev o13' : OSpec sig := ⟨[.lf (.i .i64)],[[.lf (.l .i64), .lf (.i .i64)]]⟩
abbrev o14' : OSpec sig := ⟨[.ag .Config, .lf (.i .i64)],[]⟩
abbrev o15' : OSpec sig := ⟨[.lf (.i .i64)],[[.own .i64 false]]⟩
abbrev o16' : OSpec sig := ⟨[.lf (.l .i64), .lf (.i .i64)],[]⟩
abbrev o17' : OSpec sig := ⟨[.ag .Explanation, .lf (.i .i64)],[]⟩
abbrev o18' : OSpec sig := ⟨[.lf (.i .i64), .lf .b],[]⟩
abbrev o19' : OSpec sig := ⟨[.ag .Refutation, .lf (.i .i64)],[]⟩
abbrev o20' : OSpec sig := ⟨[.ag .Config, .ag .Config],[[.lf (.l .i64), .lf (.i .i64)]]⟩
abbrev o21' : OSpec sig := ⟨[.lf (.l .i64)],[[.lf (.l .i64), .lf (.i .i64)]]⟩
abbrev o22' : OSpec sig := ⟨[.lf (.l .Trust)],[]⟩
abbrev o23' : OSpec sig := ⟨[.lf (.i .i64), .lf (.i .i64), .lf (.i .i64)],[]⟩
abbrev o24' : OSpec sig := ⟨[.lf (.i .i64), .lf (.l .i64)],[]⟩
abbrev o25' : OSpec sig := ⟨[.lf (.i .i64)],[[.own .i64 false],[.lf (.i .i64)]]⟩
abbrev o26' : OSpec sig := ⟨[.ptr 0 0],[[.lf (.l .i64), .lf (.i .i64)]]⟩
abbrev o27' : OSpec sig := ⟨[.lf .b, .lf (.i .i64), .lf (.i .i64)],[]⟩
abbrev o28' : OSpec sig := ⟨[.lf .b],[[.lf (.i .i64), .lf (.l .i64), .lf (.l .Trust)],[.lf (.i .i64), .lf (.l .i64), .lf (.l .Trust)]]⟩
abbrev o29' : OSpec sig := ⟨[.lf (.i .i64), .lf (.i .i64)],[[.own .i64 false]]⟩
abbrev o30' : OSpec sig := ⟨[.lf (.i .i64), .lf (.i .i64)],[[.own .i64 false],[.lf (.i .i64)]]⟩
abbrev o31' : OSpec sig := ⟨[.lf (.i .u64)],[[.lf (.i .u64)]]⟩
theorem cL {f : FuncId} {fn : Func} {vs : List (TL sig)} {hs : THeap sig} (o : OSpec sig) (hf : Tryz.prog.funcs[f]? = some fn) {p : Option o.Out} (hok : env.ok f = true := by kernel_rfl) (hb : fn.body = some (qmm fn) := by kernel_rfl) (hn0 : (decide (vs.length <= fn.ntmps) && (q8f Tryz.prog fn (qmm fn)).isNone && (env.seek f).isNone) = true := by kernel_rfl) (h : te tn ⟨f, fn, hs.length⟩ o 100000 (qmm fn) [] ⟨bindT 0 vs, hs⟩ = p := by kernel_rfl) : Le p (callC tn f vs hs o) := y03 (T := tn) sigOk 100000 hok hf hb hn0 h
theorem gL {F : Fx} (o : OSpec sig) (b : Code) {c : Code} {K : List Fr} {s : TSt sig} {p : Option o.Out} (hc : c = .loop b := by kernel_rfl) (h : te tn F o 100000 b (.loop b s.heap.length :: K) s = p := by kernel_rfl) : Le p (goC tn F o c K s) := qsi (T := tn) sigOk 100000 hc h
end Go.Proofs.YtjfhnffdijlboaaGreat
