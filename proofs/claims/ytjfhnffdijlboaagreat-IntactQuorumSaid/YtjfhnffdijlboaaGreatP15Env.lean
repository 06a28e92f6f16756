/- The seat's program for the machines. -/
import Derived.Test.YtjfhnffdijlboaaGreatP15An
import Derived.Test.YtjfhnffdijlboaaGreatMachT
import Derived.Test.YtjfhnffdijlboaaGreatChecked
namespace Go.Proofs.YtjfhnffdijlboaaGreat
open Go Go.Ab
def look1 {α : Type} (d : α) : List (Nat × α) → Nat → α
 | [], _ => d
 | (k, v) :: r, t => if k = t then v else look1 d r t
def an : An := { flag := fun f t => if (look1 [] y74 f).contains t then .keep else .view, clear := fun f => look1 [] (look1 [] y4n f), mode := fun f => look1 0 (look1 [] ya7 f), order := fun f => look1 [] (look1 [] y4z f), own := fun f => anOwn.contains f }
def lastF : Nat := 175
def badF : List Nat := []
def okF (h : Nat) : Bool := decide (2 ≤ h ∧ h ≤ lastF) && !badF.contains h
noncomputable def env : Env0 := { P := Tryz.prog, glob := fun _ => none, an := an, ok := okF, seek := fun f => if List.contains [127] f then some (120, setOrder) else none }
structure Refutation where
 Node : Int
 A : Int
 B : Int
structure Tape where
 l : List (Int)
 at_ : Int
structure Trust where
 Threshold : Int
 Nodes : List (Int)
 Inner : List (Trust)
structure Explanation where
 Kind : Int
 Set : Int
 A : Int
 B : Int
 Refutations : List (Refutation)
structure Member where
 Declared : Bool
 Trust : Trust
structure Config where
 Members : List (Member)
structure Arr2_Config where
 e0 : Config
 e1 : Config
inductive TC where
 | i64 | b | l_i64 | Refutation | l_Refutation | Tape | Trust | l_Trust | Explanation | Member | l_Member | Config | Arr2_Config
 deriving DecidableEq
def Ty : TC → Type
 | .i64 => Int
 | .b => Bool
 | .l_i64 => List (Int)
 | .Refutation => Refutation
 | .l_Refutation => List (Refutation)
 | .Tape => Tape
 | .Trust => Trust
 | .l_Trust => List (Trust)
 | .Explanation => Explanation
 | .Member => Member
 | .l_Member => List (Member)
 | .Config => Config
 | .Arr2_Config => Arr2_Config
abbrev Lv := Leaf TC Ty
def asL (c : TC) : Lv → Option (List (Ty c))
 | .l c' xs => if h : c' = c then some (h ▸ xs) else none
 | _ => none
theorem q7m {c : TC} {x : Lv} {xs : List (Ty c)} (h : asL c x = some xs) : x = .l c xs := by
 cases x with
 | l c' ys =>
  simp only [asL] at h;split at h
  ·rename_i hc;subst hc;cases h; rfl
  ·cases h
 | _ => cases h
def qby (x : Int) : D := .v (.int .i64 x)
theorem qfv (x y : Int) (h : qby x = qby y) : x = y := q64 h
def qnb (x : Int) : List Lv := [.i .i64 x]
def qbf : List Lv → Option (Int)
 | [.i .i64 x] => some x
 | _ => none
theorem y6n (cs : List Lv) (x : Int) (h : qbf cs = some x) : qnb x = cs := by
 unfold qbf at h;split at h
 ·cases h; rfl
 ·cases h
def enc_b (x : Bool) : D := .v (.bool x)
theorem inj_b (x y : Bool) (h : enc_b x = enc_b y) : x = y := qq7 h
def qw1 (x : Bool) : List Lv := [.b x]
def qg8 : List Lv → Option (Bool)
 | [.b x] => some x
 | _ => none
theorem of_b (cs : List Lv) (x : Bool) (h : qg8 cs = some x) : qw1 x = cs := by
 unfold qg8 at h;split at h
 ·cases h; rfl
 ·cases h
def qh2 (x : List (Int)) : D := .list (x.map qby)
theorem qy7 (x y : List (Int)) (h : qh2 x = qh2 y) : x = y := q3x qfv h
def qi4 (x : List (Int)) : List Lv := [.l .i64 x]
def qd2 : List Lv → Option (List (Int))
 | [x] => asL .i64 x
 | _ => none
theorem y05 : ∀ (cs : List Lv) (x : List (Int)), qd2 cs = some x → qi4 x = cs
 | [y], x, h => by rw [q7m (c := .i64) (x := y) (xs := x) h]; rfl
 | [], x, h => by
  have h' : (none : Option (List (Int))) = some x := h;cases h'
 | _ :: _ :: _, x, h => by
  have h' : (none : Option (List (Int))) = some x := h;cases h'
def q1r (x : Refutation) : D := .agg [.v (.int .i64 (x.Node)), .v (.int .i64 (x.A)), .v (.int .i64 (x.B))]
theorem q6t : ∀ x y : Refutation, q1r x = q1r y → x = y
 | ⟨a0, a1, a2⟩, ⟨b0, b1, b2⟩, h => by
  simp only [q1r, D.agg.injEq, List.cons.injEq, and_true] at h;obtain ⟨h0, h1, h2⟩ := h;have e0 : a0 = b0 := q64 h0;have e1 : a1 = b1 := q64 h1;have e2 : a2 = b2 := q64 h2;rw [e0, e1, e2]
def q8s (x : Refutation) : List Lv := [.i .i64 x.Node, .i .i64 x.A, .i .i64 x.B]
def q4k : List Lv → Option Refutation
 | [.i .i64 a0, .i .i64 a1, .i .i64 a2] => some (Refutation.mk a0 a1 a2)
 | _ => none
theorem qkz (cs : List Lv) (x : Refutation) (h : q4k cs = some x) : q8s x = cs := by
 unfold q4k at h;split at h
 ·cases h; rfl
 ·cases h
def q5c (x : List (Refutation)) : D := .list (x.map q1r)
theorem qf8 (x y : List (Refutation)) (h : q5c x = q5c y) : x = y := q3x q6t h
def q6e (x : List (Refutation)) : List Lv := [.l .Refutation x]
def q5e : List Lv → Option (List (Refutation))
 | [x] => asL .Refutation x
 | _ => none
theorem qgu : ∀ (cs : List Lv) (x : List (Refutation)), q5e cs = some x → q6e x = cs
 | [y], x, h => by rw [q7m (c := .Refutation) (x := y) (xs := x) h]; rfl
 | [], x, h => by
  have h' : (none : Option (List (Refutation))) = some x := h;cases h'
 | _ :: _ :: _, x, h => by
  have h' : (none : Option (List (Refutation))) = some x := h;cases h'
def qfd (x : Tape) : D := .agg [.list (((x.l)).map qby), .v (.int .i64 (x.at_))]
theorem qzm : ∀ x y : Tape, qfd x = qfd y → x = y
 | ⟨a0, a1⟩, ⟨b0, b1⟩, h => by
  simp only [qfd, D.agg.injEq, List.cons.injEq, and_true] at h;obtain ⟨h0, h1⟩ := h;have e0 : a0 = b0 := q3x qfv h0;have e1 : a1 = b1 := q64 h1;rw [e0, e1]
def qix (x : Tape) : List Lv := [.l .i64 x.l, .i .i64 x.at_]
def q9t : List Lv → Option Tape
 | [l0, .i .i64 a1] => match asL .i64 l0 with
  | some m0 => some (Tape.mk m0 a1)
  | _ => none
 | _ => none
theorem y4c (cs : List Lv) (x : Tape) (h : q9t cs = some x) : qix x = cs := by
 unfold q9t at h;split at h
 ·split at h
  ·rename_i m0 h0;cases q7m h0;cases h; rfl
  ·cases h
 ·cases h
mutual
def q3s : Trust → D
 | ⟨a0, a1, a2⟩ => .agg [.v (.int .i64 a0), .list ((a1).map qby), .list (q3i a2)]
def q3i : List Trust → List D
 | [] => []
 | x :: r => q3s x :: q3i r
end
theorem qcm : ∀ l : List Trust, q3i l = l.map q3s
 | [] => rfl
 | x :: r => by simp only [q3i, qcm r, List.map_cons]
mutual
theorem qci : ∀ x y : Trust, q3s x = q3s y → x = y
 | ⟨a0, a1, a2⟩, ⟨b0, b1, b2⟩, h => by
  simp only [q3s, D.agg.injEq, List.cons.injEq, and_true] at h;obtain ⟨h0, h1, h2⟩ := h;have e0 : a0 = b0 := q64 h0;have e1 : a1 = b1 := q3x qfv h1;have e2 : a2 = b2 := qjh _ _ (D.list.inj h2);rw [e0, e1, e2]
theorem qjh : ∀ x y : List Trust, q3i x = q3i y → x = y
 | [], [], _ => rfl
 | [], _ :: _, h => by simp [q3i] at h
 | _ :: _, [], h => by simp [q3i] at h
 | x :: r, y :: r', h => by
  simp only [q3i, List.cons.injEq] at h;rw [qci x y h.1, qjh r r' h.2]
end
def qbl (x : Trust) : List Lv := [.i .i64 x.Threshold, .l .i64 x.Nodes, .l .Trust x.Inner]
def q8a : List Lv → Option Trust
 | [.i .i64 a0, l1, l2] => match asL .i64 l1, asL .Trust l2 with
  | some m1, some m2 => some (Trust.mk a0 m1 m2)
  | _, _ => none
 | _ => none
theorem qyq (cs : List Lv) (x : Trust) (h : q8a cs = some x) : qbl x = cs := by
 unfold q8a at h;split at h
 ·split at h
  ·rename_i m1 m2 h1 h2;cases q7m h1;cases q7m h2;cases h; rfl
  ·cases h
 ·cases h
def qbz (x : List (Trust)) : D := .list (x.map q3s)
theorem qpp (x y : List (Trust)) (h : qbz x = qbz y) : x = y := q3x qci h
def qce (x : List (Trust)) : List Lv := [.l .Trust x]
def qa3 : List Lv → Option (List (Trust))
 | [x] => asL .Trust x
 | _ => none
theorem qt9 : ∀ (cs : List Lv) (x : List (Trust)), qa3 cs = some x → qce x = cs
 | [y], x, h => by rw [q7m (c := .Trust) (x := y) (xs := x) h]; rfl
 | [], x, h => by
  have h' : (none : Option (List (Trust))) = some x := h;cases h'
 | _ :: _ :: _, x, h => by
  have h' : (none : Option (List (Trust))) = some x := h;cases h'
def q18 (x : Explanation) : D := .agg [.v (.int .i64 (x.Kind)), .v (.int .i64 (x.Set)), .v (.int .i64 (x.A)), .v (.int .i64 (x.B)), .list (((x.Refutations)).map q1r)]
theorem qhf : ∀ x y : Explanation, q18 x = q18 y → x = y
 | ⟨a0, a1, a2, a3, a4⟩, ⟨b0, b1, b2, b3, b4⟩, h => by
  simp only [q18, D.agg.injEq, List.cons.injEq, and_true] at h;obtain ⟨h0, h1, h2, h3, h4⟩ := h;have e0 : a0 = b0 := q64 h0;have e1 : a1 = b1 := q64 h1;have e2 : a2 = b2 := q64 h2;have e3 : a3 = b3 := q64 h3;have e4 : a4 = b4 := q3x q6t h4;rw [e0, e1, e2, e3, e4]
def q52 (x : Explanation) : List Lv := [.i .i64 x.Kind, .i .i64 x.Set, .i .i64 x.A, .i .i64 x.B, .l .Refutation x.Refutations]
def q42 : List Lv → Option Explanation
 | [.i .i64 a0, .i .i64 a1, .i .i64 a2, .i .i64 a3, l4] => match asL .Refutation l4 with
  | some m4 => some (Explanation.mk a0 a1 a2 a3 m4)
  | _ => none
 | _ => none
theorem qih (cs : List Lv) (x : Explanation) (h : q42 cs = some x) : q52 x = cs := by
 unfold q42 at h;split at h
 ·split at h
  ·rename_i m4 h4;cases q7m h4;cases h; rfl
  ·cases h
 ·cases h
def q47 (x : Member) : D := .agg [.v (.bool (x.Declared)), .v (.int .i64 (x.Trust.Threshold)), .list (((x.Trust.Nodes)).map qby), .list (((x.Trust.Inner)).map q3s)]
theorem q79 : ∀ x y : Member, q47 x = q47 y → x = y
 | ⟨a0, ⟨a1, a2, a3⟩⟩, ⟨b0, ⟨b1, b2, b3⟩⟩, h => by
  simp only [q47, D.agg.injEq, List.cons.injEq, and_true] at h;obtain ⟨h0, h1, h2, h3⟩ := h;have e0 : a0 = b0 := qq7 h0;have e1 : a1 = b1 := q64 h1;have e2 : a2 = b2 := q3x qfv h2;have e3 : a3 = b3 := q3x qci h3;rw [e0, e1, e2, e3]
def qef (x : Member) : List Lv := [.b x.Declared, .i .i64 x.Trust.Threshold, .l .i64 x.Trust.Nodes, .l .Trust x.Trust.Inner]
def q6o : List Lv → Option Member
 | [.b a0, .i .i64 a1, l2, l3] => match asL .i64 l2, asL .Trust l3 with
  | some m2, some m3 => some (Member.mk a0 (Trust.mk a1 m2 m3))
  | _, _ => none
 | _ => none
theorem qv3 (cs : List Lv) (x : Member) (h : q6o cs = some x) : qef x = cs := by
 unfold q6o at h;split at h
 ·split at h
  ·rename_i m2 m3 h2 h3;cases q7m h2;cases q7m h3;cases h; rfl
  ·cases h
 ·cases h
def q9i (x : List (Member)) : D := .list (x.map q47)
theorem qm8 (x y : List (Member)) (h : q9i x = q9i y) : x = y := q3x q79 h
def qb1 (x : List (Member)) : List Lv := [.l .Member x]
def q8z : List Lv → Option (List (Member))
 | [x] => asL .Member x
 | _ => none
theorem qp6 : ∀ (cs : List Lv) (x : List (Member)), q8z cs = some x → qb1 x = cs
 | [y], x, h => by rw [q7m (c := .Member) (x := y) (xs := x) h]; rfl
 | [], x, h => by
  have h' : (none : Option (List (Member))) = some x := h;cases h'
 | _ :: _ :: _, x, h => by
  have h' : (none : Option (List (Member))) = some x := h;cases h'
def qah (x : Config) : D := .agg [.list (((x.Members)).map q47)]
theorem qu0 : ∀ x y : Config, qah x = qah y → x = y
 | ⟨a0⟩, ⟨b0⟩, h => by
  simp only [qah, D.agg.injEq, List.cons.injEq, and_true] at h;have h0 := h;have e0 : a0 = b0 := q3x q79 h0;rw [e0]
def qes (x : Config) : List Lv := [.l .Member x.Members]
def q6u : List Lv → Option Config
 | [l0] => match asL .Member l0 with
  | some m0 => some (Config.mk m0)
  | _ => none
 | _ => none
theorem quv (cs : List Lv) (x : Config) (h : q6u cs = some x) : qes x = cs := by
 unfold q6u at h;split at h
 ·split at h
  ·rename_i m0 h0;cases q7m h0;cases h; rfl
  ·cases h
 ·cases h
def q4d (x : Arr2_Config) : D := .agg [.list (((x.e0.Members)).map q47), .list (((x.e1.Members)).map q47)]
theorem qgt : ∀ x y : Arr2_Config, q4d x = q4d y → x = y
 | ⟨⟨a0⟩, ⟨a1⟩⟩, ⟨⟨b0⟩, ⟨b1⟩⟩, h => by
  simp only [q4d, D.agg.injEq, List.cons.injEq, and_true] at h;obtain ⟨h0, h1⟩ := h;have e0 : a0 = b0 := q3x q79 h0;have e1 : a1 = b1 := q3x q79 h1;rw [e0, e1]
def q7c (x : Arr2_Config) : List Lv := [.l .Member x.e0.Members, .l .Member x.e1.Members]
def q43 : List Lv → Option Arr2_Config
 | [l0, l1] => match asL .Member l0, asL .Member l1 with
  | some m0, some m1 => some (Arr2_Config.mk (Config.mk m0) (Config.mk m1))
  | _, _ => none
 | _ => none
theorem qin (cs : List Lv) (x : Arr2_Config) (h : q43 cs = some x) : q7c x = cs := by
 unfold q43 at h;split at h
 ·split at h
  ·rename_i m0 m1 h0 h1;cases q7m h0;cases q7m h1;cases h; rfl
  ·cases h
 ·cases h
def encT : (c : TC) → Ty c → D
 | .i64 => qby
 | .b => enc_b
 | .l_i64 => qh2
 | .Refutation => q1r
 | .l_Refutation => q5c
 | .Tape => qfd
 | .Trust => q3s
 | .l_Trust => qbz
 | .Explanation => q18
 | .Member => q47
 | .l_Member => q9i
 | .Config => qah
 | .Arr2_Config => q4d
def ya8 : (c : TC) → Ty c → List Lv
 | .i64 => qnb
 | .b => qw1
 | .l_i64 => qi4
 | .Refutation => q8s
 | .l_Refutation => q6e
 | .Tape => qix
 | .Trust => qbl
 | .l_Trust => qce
 | .Explanation => q52
 | .Member => qef
 | .l_Member => qb1
 | .Config => qes
 | .Arr2_Config => q7c
def qz5 : (c : TC) → List Lv → Option (Ty c)
 | .i64 => qbf
 | .b => qg8
 | .l_i64 => qd2
 | .Refutation => q4k
 | .l_Refutation => q5e
 | .Tape => q9t
 | .Trust => q8a
 | .l_Trust => qa3
 | .Explanation => q42
 | .Member => q6o
 | .l_Member => q8z
 | .Config => q6u
 | .Arr2_Config => q43
def aggF : TC → Bool
 | .i64 => false
 | .b => false
 | .l_i64 => false
 | .Refutation => true
 | .l_Refutation => false
 | .Tape => true
 | .Trust => true
 | .l_Trust => false
 | .Explanation => true
 | .Member => true
 | .l_Member => false
 | .Config => true
 | .Arr2_Config => true
def sizeF : TC → Nat
 | .i64 => 1
 | .b => 1
 | .l_i64 => 1
 | .Refutation => 3
 | .l_Refutation => 1
 | .Tape => 2
 | .Trust => 3
 | .l_Trust => 1
 | .Explanation => 5
 | .Member => 4
 | .l_Member => 1
 | .Config => 1
 | .Arr2_Config => 2
def qyi : List (TypeId × TC × TypeId) := [(22, .i64,3),(25, .Member, 72),(49, .Refutation, 92),(55, .Explanation, 51),(60, .Arr2_Config, 58),(67, .l_Trust, 68),(68, .Trust, 70)]
def qzs : List (TypeId × List (Option TC)) := [(22,[some .i64]),(25,[some .Member]),(26,[some .Member]),(27,[some .Member]),(49,[some .Refutation]),(50,[none, none, none, none, some .Refutation]),(51,[none, none, none, none, some .Refutation]),(55,[some .Explanation]),(58,[some .Member, some .Member]),(60,[some .Arr2_Config]),(64,[some .i64, none]),(65,[some .i64, none]),(67,[some .l_Trust]),(68,[some .Trust]),(69,[none, some .i64, some .Trust]),(70,[none, some .i64, some .Trust]),(71,[none, none, some .i64, some .Trust]),(72,[none, none, some .i64, some .Trust])]
def elemF : List (TypeId × TC × TypeId) → TypeId → Option TC
 | [], _ => none
 | (u, c, _) :: r, t => if u = t then some c else elemF r t
def sig : Sig := { TC := TC, Ty := Ty, enc := encT, cells := ya8, ofCells := qz5, agg := aggF, size := sizeF, elem := elemF qyi, lists := look1 [] qzs }
theorem qsb (P : Program) : ∀ (tab : List (TypeId × TC × TypeId)), (tab.all fun p => q2c P p.1 == some p.2.2 && tyAgg P p.2.2 == some (aggF p.2.1) && q0m P p.2.2 == some (sizeF p.2.1)) = true → ∀ t c, elemF tab t = some c → ∃ e, q2c P t = some e ∧ tyAgg P e = some (aggF c) ∧ q0m P e = some (sizeF c)
 | [], _, _, _, h => by cases h
 | (u, d, e) :: r, ha, t, c, h => by
  simp only [List.all_cons, aT, beq_iff_eq] at ha;simp only [elemF] at h;split at h
  ·rename_i hu; cases h; subst hu; exact ⟨e, ha.1.1.1, ha.1.1.2, ha.1.2⟩
  ·exact qsb P r ha.2 t c h
theorem qq2 (x : Trust) : sig.enc .Trust x = (packT (S := sig) true (qbl x)).toD := by
 cases x;show q3s _ = _;simp only [q3s, qcm];rfl
theorem sigOk : sig.Ok Tryz.prog where
 enc_eq := fun c x => by cases c <;> first | rfl | exact qq2 x
 of_eq := fun c cs x h => by
  have : sig.cells c x = cs := by
   cases c
   ·exact y6n cs x h
   ·exact of_b cs x h
   ·exact y05 cs x h
   ·exact qkz cs x h
   ·exact qgu cs x h
   ·exact y4c cs x h
   ·exact qyq cs x h
   ·exact qt9 cs x h
   ·exact qih cs x h
   ·exact qv3 cs x h
   ·exact qp6 cs x h
   ·exact quv cs x h
   ·exact qin cs x h
  rw [this]
 inj := fun c x y h => by
  cases c
  ·exact qfv x y h
  ·exact inj_b x y h
  ·exact qy7 x y h
  ·exact q6t x y h
  ·exact qf8 x y h
  ·exact qzm x y h
  ·exact qci x y h
  ·exact qpp x y h
  ·exact qhf x y h
  ·exact q79 x y h
  ·exact qm8 x y h
  ·exact qu0 x y h
  ·exact qgt x y h
 len := fun c x => by cases c <;> rfl
 pos := fun c => by cases c <;> decide
 one := fun c h => by cases c <;> first | rfl | cases h
 elem := qsb Tryz.prog qyi (by kernel_rfl)
def y94 : List (Nat × List (OT sig)) := [(8,[.lf .b]),(4,[.lf .b]),(7,[.lf .b]),(6,[.lf .b]),(5,[.lf .b]),(3,[.lf .b]),(28,[.lf .b]),(17,[.lf .b]),(9,[.ptr 0 0]),(10,[.ag .Config, .ag .Config]),(29,[.ag .Config]),(11,[.lf (.i .i64)]),(12,[.lf (.i .i64), .lf (.i .i64)]),(19,[.lf (.l .i64)]),(20,[.lf (.i .i64)]),(22,[.lf (.i .i64)]),(13,[.lf (.i .i64), .lf (.i .i64)]),(14,[.lf .b]),(15,[.lf (.l .i64), .lf (.i .i64)]),(16,[.lf .b, .lf (.i .i64)]),(53,[.ag .Config]),(36,[.ag .Config]),(35,[.lf (.i .i64)]),(73,[.ag .Trust]),(41,[.lf (.i .i64), .lf .b, .lf (.i .i64)]),(43,[.lf .b]),(40,[.lf (.i .i64)]),(54,[.lf (.l .i64)]),(42,[.lf (.i .i64)]),(45,[.lf (.i .i64)]),(47,[.lf (.i .i64)]),(46,[.lf (.l .i64)]),(49,[.lf (.i .i64)]),(50,[.lf (.i .i64)]),(52,[.ag .Config]),(51,[.lf .b, .lf (.i .i64)]),(77,[.lf (.i .i64)]),(82,[.lf (.l .i64), .lf (.i .i64)]),(67,[.lf .b, .lf (.i .i64)]),(83,[.lf (.i .i64)]),(89,[.lf (.i .i64), .lf (.i .i64)]),(99,[.lf (.i .i64)]),(100,[.lf (.i .i64)]),(98,[.lf (.l .i64)]),(104,[.lf (.i .i64)]),(59,[.ag .Config]),(105,[.lf .b, .lf (.i .i64)]),(116,[.lf (.i .i64)]),(66,[.lf (.i .i64)]),(94,[.lf (.i .i64)]),(95,[.lf (.i .i64), .lf (.i .i64)]),(92,[.lf (.i .i64)]),(21,[.lf .b]),(24,[.lf .b]),(44,[.lf .b]),(25,[.ag .Explanation, .lf (.i .i64)]),(26,[.lf .b]),(27,[.lf .b]),(57,[.lf .b]),(58,[.lf (.i .i64), .lf (.i .i64), .lf (.i .i64)]),(60,[.lf (.l .i64)]),(62,[.lf (.i .i64)]),(68,[.lf .b, .lf (.i .i64)]),(69,[.lf .b]),(70,[.lf .b]),(71,[.lf .b]),(91,[.lf .b]),(74,[.lf (.i .i64)]),(106,[.lf .b]),(107,[.lf .b]),(108,[.lf (.i .i64), .lf .b]),(118,[.lf .b]),(129,[.lf .b, .lf (.i .i64)]),(55,[.lf (.l .i64)]),(23,[.lf (.i .i64), .lf .b, .lf (.i .i64)]),(18,[.lf .b]),(72,[.lf (.i .i64)]),(38,[.ag .Config, .lf (.i .i64)]),(39,[.ag .Config, .lf (.i .i64)]),(81,[.ag .Config, .lf (.i .i64)]),(48,[.lf .b]),(85,[.lf .b, .lf (.i .i64)]),(78,[.ag .Trust]),(79,[.ag .Trust]),(80,[.ag .Trust]),(110,[.ag .Trust]),(87,[.lf (.i .i64)]),(131,[.lf (.l .i64)]),(113,[.lf (.i .i64)]),(114,[.lf (.i .i64)]),(115,[.lf (.i .i64)]),(84,[.lf (.i .i64)]),(86,[.lf .b]),(88,[.lf (.i .i64)]),(112,[.lf .b]),(90,[.ag .Trust]),(117,[.ag .Trust]),(124,[]),(142,[.lf (.i .i64)]),(141,[]),(162,[.lf (.i .i64)]),(96,[.ag .Trust]),(97,[.ag .Trust]),(123,[.ag .Trust]),(103,[.lf .b, .lf (.i .i64), .lf (.i .i64)]),(126,[.lf (.i .i64)]),(127,[.lf (.i .i64), .lf .b]),(136,[.lf (.i .i64)]),(128,[.lf .b]),(148,[.lf (.i .i64)]),(149,[.lf (.i .i64)]),(150,[.lf (.i .i64)]),(93,[.lf .b]),(164,[.lf .b]),(166,[.lf (.i .i64), .lf (.i .i64)]),(174,[.lf (.i .i64)]),(119,[.lf (.i .i64)]),(135,[.lf .b]),(137,[.lf (.i .i64)]),(120,[.lf (.i .i64), .lf .b]),(122,[.lf (.i .i64)]),(121,[.lf (.i .i64)]),(138,[.lf (.i .i64)]),(139,[.lf (.i .i64), .lf (.l .i64)]),(152,[.lf (.i .i64)]),(168,[.lf (.i .i64)]),(30,[.lf (.i .i64), .lf (.i .i64)]),(31,[.lf (.i .i64), .lf (.i .i64)]),(32,[.lf (.i .i64), .lf .b, .lf (.i .i64)]),(33,[.ag .Explanation, .lf (.i .i64)]),(34,[.lf .b]),(75,[.lf (.i .i64), .lf (.i .i64), .lf (.i .i64)]),(64,[.lf (.l .i64)]),(61,[.ag .Refutation, .lf (.i .i64)]),(63,[.lf .b, .lf (.i .i64)]),(109,[.lf .b]),(101,[.lf .b]),(130,[.lf .b]),(56,[.lf .b]),(37,[.ag .Trust]),(133,[.lf (.i .i64), .lf (.i .i64)]),(134,[.lf (.i .i64)]),(153,[]),(154,[]),(155,[]),(156,[.lf (.i .i64), .lf (.i .i64)]),(157,[]),(158,[.lf .b]),(125,[.lf (.i .i64)]),(159,[.lf (.i .i64)]),(160,[.lf (.i .i64), .lf .b]),(170,[.lf (.i .u64)]),(172,[.lf (.i .i64)]),(173,[.lf (.i .i64)]),(145,[.lf (.i .i64)]),(144,[.lf (.i .i64)]),(143,[.lf (.i .i64)]),(175,[.lf (.i .i64), .lf (.i .i64)]),(163,[.lf .b]),(140,[.lf (.i .i64)]),(165,[.lf .b]),(151,[.lf .b]),(76,[.ag .Refutation, .lf (.i .i64)]),(65,[.lf .b]),(102,[.lf .b]),(111,[.lf (.l .Trust)]),(169,[]),(171,[.lf (.i .u64)]),(132,[.lf (.i .i64)]),(147,[.lf (.i .i64)])]
def y53 : List (Nat × List (List (OT sig))) := [(9,[[.lf (.l .i64), .lf (.i .i64)]])]
noncomputable def tn : TEn := { E := env, S := sig, res := look1 [] y94, news := look1 [] y53, cut := fun f id => List.contains [(26,5)] (f, id) }
def qn9 (fn : Func) : Code := match fn.body with | some c => c | none => .skip
def q01 (fn : Func) (p : List Nat) : Code := qgx p (qn9 fn)
def q0c (fn : Func) (p ms : List Nat) : List Fr := qhi p (qn9 fn) ms []
abbrev o0' : OSpec sig := ⟨[.lf (.i .i64)],[]⟩
abbrev o1' : OSpec sig := ⟨[.lf .b],[]⟩
abbrev o2' : OSpec sig := ⟨[.lf (.l .i64)],[]⟩
abbrev o3' : OSpec sig := ⟨[],[[.own .i64 false]]⟩
abbrev o4' : OSpec sig := ⟨[.ag .Trust],[]⟩
abbrev o5' : OSpec sig := ⟨[.ag .Config],[]⟩
abbrev o6' : OSpec sig := ⟨[.lf .b],[[.own .i64 false]]⟩
abbrev o7' : OSpec sig := ⟨[.lf (.i .i64), .lf (.i .i64)],[]⟩
abbrev o8' : OSpec sig := ⟨[.ag .Trust],[[.lf (.l .i64), .lf (.i .i64)]]⟩
abbrev o9' : OSpec sig := ⟨[.lf (.i .i64)],[[.own .i64 false]]⟩
abbrev o10' : OSpec sig := ⟨[.lf .b, .lf (.i .i64)],[]⟩
abbrev o11' : OSpec sig := ⟨[.lf (.i .i64), .lf .b],[[.own .i64 false]]⟩
abbrev o12' : OSpec sig := ⟨[.lf (.l .Trust)],[]⟩
abbrev o13' : OSpec sig := ⟨[.lf (.i .i64)],[[.lf (.l .i64), .lf (.i .i64)]]⟩
abbrev o14' : OSpec sig := ⟨[.ag .Config, .lf (.i .i64)],[]⟩
abbrev o15' : OSpec sig := ⟨[.lf (.l .i64), .lf (.i .i64)],[]⟩
abbrev o16' : OSpec sig := ⟨[.lf (.i .i64), .lf .b, .lf (.i .i64)],[]⟩
abbrev o17' : OSpec sig := ⟨[.lf (.i .i64), .lf .b],[]⟩
abbrev o18' : OSpec sig := ⟨[.lf (.i .i64)],[[.own .i64 false],[.lf (.i .i64)]]⟩
abbrev o19' : OSpec sig := ⟨[.ag .Config, .ag .Config],[[.lf (.l .i64), .lf (.i .i64)]]⟩
abbrev o20' : OSpec sig := ⟨[.lf (.l .i64)],[[.lf (.l .i64), .lf (.i .i64)]]⟩
abbrev o21' : OSpec sig := ⟨[.ag .Config],[[.lf (.l .i64), .lf (.i .i64)]]⟩
abbrev o22' : OSpec sig := ⟨[.ag .Explanation, .lf (.i .i64)],[]⟩
abbrev o23' : OSpec sig := ⟨[.lf (.i .i64), .lf (.l .i64)],[]⟩
abbrev o24' : OSpec sig := ⟨[.ag .Refutation, .lf (.i .i64)],[]⟩
abbrev o25' : OSpec sig := ⟨[.lf (.i .u64)],[[.lf (.i .u64)]]⟩
theorem cL {f : FuncId} {fn : Func} {vs : List (TL sig)} {hs : THeap sig} (o : OSpec sig) (hf : Tryz.prog.funcs[f]? = some fn) {p : Option o.Out} (hok : env.ok f = true := by kernel_rfl) (hb : fn.body = some (qn9 fn) := by kernel_rfl) (hn0 : (decide (vs.length ≤ fn.ntmps) && (q8i Tryz.prog fn (qn9 fn)).isNone && (env.seek f).isNone) = true := by kernel_rfl) (h : te tn ⟨f, fn, hs.length⟩ o 100000 (qn9 fn) [] ⟨bindT 0 vs, hs⟩ = p := by kernel_rfl) : Le p (callC tn f vs hs o) := qzl (T := tn) sigOk 100000 hok hf hb hn0 h
theorem gL {F : Fx} (o : OSpec sig) (b : Code) {c : Code} {K : List Fr} {s : TSt sig} {p : Option o.Out} (hc : c = .loop b := by kernel_rfl) (h : te tn F o 100000 b (.loop b s.heap.length :: K) s = p := by kernel_rfl) : Le p (goC tn F o c K s) := qtb (T := tn) sigOk 100000 hc h
end Go.Proofs.YtjfhnffdijlboaaGreat
