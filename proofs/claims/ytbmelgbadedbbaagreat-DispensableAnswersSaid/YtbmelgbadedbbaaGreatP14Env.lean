/- The seat's program for the machines. -/
import Derived.Test.YtbmelgbadedbbaaGreatP14An
import Derived.Test.YtbmelgbadedbbaaGreatMachT
import Derived.Test.YtbmelgbadedbbaaGreatChecked
namespace Go.Proofs.YtbmelgbadedbbaaGreat
open Go Go.Ab
def look1 {α : Type} (d : α) : List (Nat × α) → Nat → α
 | [], _ => d
 | (k, v) :: r, t => if k = t then v else look1 d r t
def an : An := { flag := fun f t => if (look1 [] y5q f).contains t then .keep else .view, clear := fun f => look1 [] (look1 [] y34 f), mode := fun f => look1 0 (look1 [] y6f f), order := fun f => look1 [] (look1 [] y2p f), own := fun f => anOwn.contains f }
def lastF : Nat := 154
def badF : List Nat := []
def okF (h : Nat) : Bool := decide (2 ≤ h ∧ h ≤ lastF) && !badF.contains h
noncomputable def env : Env0 := { P := Tryz.prog, glob := fun _ => none, an := an, ok := okF, seek := fun f => if List.contains [88] f then some (105, setOrder) else none }
structure Refutation where
 Node : Int
 A : Int
 B : Int
structure Tape where
 l : List (Int)
 at_ : Int
structure Trust where
 Threshold : Int
 Nodes : List (Int)
 Inner : List (Trust)
structure Member where
 Declared : Bool
 Trust : Trust
structure Config where
 Members : List (Member)
structure Arr2_Config where
 e0 : Config
 e1 : Config
inductive TC where
 | i64 | b | l_i64 | Refutation | Tape | Trust | l_Trust | Member | l_Member | Config | Arr2_Config
 deriving DecidableEq
def Ty : TC → Type
 | .i64 => Int
 | .b => Bool
 | .l_i64 => List (Int)
 | .Refutation => Refutation
 | .Tape => Tape
 | .Trust => Trust
 | .l_Trust => List (Trust)
 | .Member => Member
 | .l_Member => List (Member)
 | .Config => Config
 | .Arr2_Config => Arr2_Config
abbrev Lv := Leaf TC Ty
def asL (c : TC) : Lv → Option (List (Ty c))
 | .l c' xs => if h : c' = c then some (h ▸ xs) else none
 | _ => none
theorem q95 {c : TC} {x : Lv} {xs : List (Ty c)} (h : asL c x = some xs) : x = .l c xs := by
 cases x with
 | l c' ys =>
  simp only [asL] at h;split at h
  ·rename_i hc;subst hc;cases h; rfl
  ·cases h
 | _ => cases h
def q69 (x : Int) : D := .v (.int .i64 x)
theorem qgd (x y : Int) (h : q69 x = q69 y) : x = y := qb5 h
def qm6 (x : Int) : List Lv := [.i .i64 x]
def qav : List Lv → Option (Int)
 | [.i .i64 x] => some x
 | _ => none
theorem y4a (cs : List Lv) (x : Int) (h : qav cs = some x) : qm6 x = cs := by
 unfold qav at h;split at h
 ·cases h; rfl
 ·cases h
def enc_b (x : Bool) : D := .v (.bool x)
theorem inj_b (x y : Bool) (h : enc_b x = enc_b y) : x = y := qrh h
def qwe (x : Bool) : List Lv := [.b x]
def qgm : List Lv → Option (Bool)
 | [.b x] => some x
 | _ => none
theorem of_b (cs : List Lv) (x : Bool) (h : qgm cs = some x) : qwe x = cs := by
 unfold qgm at h;split at h
 ·cases h; rfl
 ·cases h
def qfj (x : List (Int)) : D := .list (x.map q69)
theorem qv2 (x y : List (Int)) (h : qfj x = qfj y) : x = y := q4k qgd h
def qf3 (x : List (Int)) : List Lv := [.l .i64 x]
def qby : List Lv → Option (List (Int))
 | [x] => asL .i64 x
 | _ => none
theorem qxu : ∀ (cs : List Lv) (x : List (Int)), qby cs = some x → qf3 x = cs
 | [y], x, h => by rw [q95 (c := .i64) (x := y) (xs := x) h]; rfl
 | [], x, h => by
  have h' : (none : Option (List (Int))) = some x := h;cases h'
 | _ :: _ :: _, x, h => by
  have h' : (none : Option (List (Int))) = some x := h;cases h'
def q15 (x : Refutation) : D := .agg [.v (.int .i64 (x.Node)), .v (.int .i64 (x.A)), .v (.int .i64 (x.B))]
theorem qha : ∀ x y : Refutation, q15 x = q15 y → x = y
 | ⟨a0, a1, a2⟩, ⟨b0, b1, b2⟩, h => by
  simp only [q15, D.agg.injEq, List.cons.injEq, and_true] at h;obtain ⟨h0, h1, h2⟩ := h;have e0 : a0 = b0 := qb5 h0;have e1 : a1 = b1 := qb5 h1;have e2 : a2 = b2 := qb5 h2;rw [e0, e1, e2]
def q4t (x : Refutation) : List Lv := [.i .i64 x.Node, .i .i64 x.A, .i .i64 x.B]
def q41 : List Lv → Option Refutation
 | [.i .i64 a0, .i .i64 a1, .i .i64 a2] => some (Refutation.mk a0 a1 a2)
 | _ => none
theorem qk3 (cs : List Lv) (x : Refutation) (h : q41 cs = some x) : q4t x = cs := by
 unfold q41 at h;split at h
 ·cases h; rfl
 ·cases h
def qes (x : Tape) : D := .agg [.list (((x.l)).map q69), .v (.int .i64 (x.at_))]
theorem qy9 : ∀ x y : Tape, qes x = qes y → x = y
 | ⟨a0, a1⟩, ⟨b0, b1⟩, h => by
  simp only [qes, D.agg.injEq, List.cons.injEq, and_true] at h;obtain ⟨h0, h1⟩ := h;have e0 : a0 = b0 := q4k qgd h0;have e1 : a1 = b1 := qb5 h1;rw [e0, e1]
def qig (x : Tape) : List Lv := [.l .i64 x.l, .i .i64 x.at_]
def q8o : List Lv → Option Tape
 | [l0, .i .i64 a1] => match asL .i64 l0 with
  | some m0 => some (Tape.mk m0 a1)
  | _ => none
 | _ => none
theorem y3o (cs : List Lv) (x : Tape) (h : q8o cs = some x) : qig x = cs := by
 unfold q8o at h;split at h
 ·split at h
  ·rename_i m0 h0;cases q95 h0;cases h; rfl
  ·cases h
 ·cases h
mutual
def q1z : Trust → D
 | ⟨a0, a1, a2⟩ => .agg [.v (.int .i64 a0), .list ((a1).map q69), .list (q2o a2)]
def q2o : List Trust → List D
 | [] => []
 | x :: r => q1z x :: q2o r
end
theorem q54 : ∀ l : List Trust, q2o l = l.map q1z
 | [] => rfl
 | x :: r => by simp only [q2o, q54 r, List.map_cons]
mutual
theorem qci : ∀ x y : Trust, q1z x = q1z y → x = y
 | ⟨a0, a1, a2⟩, ⟨b0, b1, b2⟩, h => by
  simp only [q1z, D.agg.injEq, List.cons.injEq, and_true] at h;obtain ⟨h0, h1, h2⟩ := h;have e0 : a0 = b0 := qb5 h0;have e1 : a1 = b1 := q4k qgd h1;have e2 : a2 = b2 := qhz _ _ (D.list.inj h2);rw [e0, e1, e2]
theorem qhz : ∀ x y : List Trust, q2o x = q2o y → x = y
 | [], [], _ => rfl
 | [], _ :: _, h => by simp [q2o] at h
 | _ :: _, [], h => by simp [q2o] at h
 | x :: r, y :: r', h => by
  simp only [q2o, List.cons.injEq] at h;rw [qci x y h.1, qhz r r' h.2]
end
def qb4 (x : Trust) : List Lv := [.i .i64 x.Threshold, .l .i64 x.Nodes, .l .Trust x.Inner]
def q7d : List Lv → Option Trust
 | [.i .i64 a0, l1, l2] => match asL .i64 l1, asL .Trust l2 with
  | some m1, some m2 => some (Trust.mk a0 m1 m2)
  | _, _ => none
 | _ => none
theorem qxv (cs : List Lv) (x : Trust) (h : q7d cs = some x) : qb4 x = cs := by
 unfold q7d at h;split at h
 ·split at h
  ·rename_i m1 m2 h1 h2;cases q95 h1;cases q95 h2;cases h; rfl
  ·cases h
 ·cases h
def qb7 (x : List (Trust)) : D := .list (x.map q1z)
theorem qp0 (x y : List (Trust)) (h : qb7 x = qb7 y) : x = y := q4k qci h
def qbo (x : List (Trust)) : List Lv := [.l .Trust x]
def q8v : List Lv → Option (List (Trust))
 | [x] => asL .Trust x
 | _ => none
theorem qrw : ∀ (cs : List Lv) (x : List (Trust)), q8v cs = some x → qbo x = cs
 | [y], x, h => by rw [q95 (c := .Trust) (x := y) (xs := x) h]; rfl
 | [], x, h => by
  have h' : (none : Option (List (Trust))) = some x := h;cases h'
 | _ :: _ :: _, x, h => by
  have h' : (none : Option (List (Trust))) = some x := h;cases h'
def q2n (x : Member) : D := .agg [.v (.bool (x.Declared)), .v (.int .i64 (x.Trust.Threshold)), .list (((x.Trust.Nodes)).map q69), .list (((x.Trust.Inner)).map q1z)]
theorem q75 : ∀ x y : Member, q2n x = q2n y → x = y
 | ⟨a0, ⟨a1, a2, a3⟩⟩, ⟨b0, ⟨b1, b2, b3⟩⟩, h => by
  simp only [q2n, D.agg.injEq, List.cons.injEq, and_true] at h;obtain ⟨h0, h1, h2, h3⟩ := h;have e0 : a0 = b0 := qrh h0;have e1 : a1 = b1 := qb5 h1;have e2 : a2 = b2 := q4k qgd h2;have e3 : a3 = b3 := q4k qci h3;rw [e0, e1, e2, e3]
def qdn (x : Member) : List Lv := [.b x.Declared, .i .i64 x.Trust.Threshold, .l .i64 x.Trust.Nodes, .l .Trust x.Trust.Inner]
def q6c : List Lv → Option Member
 | [.b a0, .i .i64 a1, l2, l3] => match asL .i64 l2, asL .Trust l3 with
  | some m2, some m3 => some (Member.mk a0 (Trust.mk a1 m2 m3))
  | _, _ => none
 | _ => none
theorem qw5 (cs : List Lv) (x : Member) (h : q6c cs = some x) : qdn x = cs := by
 unfold q6c at h;split at h
 ·split at h
  ·rename_i m2 m3 h2 h3;cases q95 h2;cases q95 h3;cases h; rfl
  ·cases h
 ·cases h
def q9b (x : List (Member)) : D := .list (x.map q2n)
theorem qli (x y : List (Member)) (h : q9b x = q9b y) : x = y := q4k q75 h
def qag (x : List (Member)) : List Lv := [.l .Member x]
def q86 : List Lv → Option (List (Member))
 | [x] => asL .Member x
 | _ => none
theorem qof : ∀ (cs : List Lv) (x : List (Member)), q86 cs = some x → qag x = cs
 | [y], x, h => by rw [q95 (c := .Member) (x := y) (xs := x) h]; rfl
 | [], x, h => by
  have h' : (none : Option (List (Member))) = some x := h;cases h'
 | _ :: _ :: _, x, h => by
  have h' : (none : Option (List (Member))) = some x := h;cases h'
def q1e (x : Config) : D := .agg [.list (((x.Members)).map q2n)]
theorem qsb : ∀ x y : Config, q1e x = q1e y → x = y
 | ⟨a0⟩, ⟨b0⟩, h => by
  simp only [q1e, D.agg.injEq, List.cons.injEq, and_true] at h;have h0 := h;have e0 : a0 = b0 := q4k q75 h0;rw [e0]
def q5w (x : Config) : List Lv := [.l .Member x.Members]
def q68 : List Lv → Option Config
 | [l0] => match asL .Member l0 with
  | some m0 => some (Config.mk m0)
  | _ => none
 | _ => none
theorem qwv (cs : List Lv) (x : Config) (h : q68 cs = some x) : q5w x = cs := by
 unfold q68 at h;split at h
 ·split at h
  ·rename_i m0 h0;cases q95 h0;cases h; rfl
  ·cases h
 ·cases h
def q3s (x : Arr2_Config) : D := .agg [.list (((x.e0.Members)).map q2n), .list (((x.e1.Members)).map q2n)]
theorem qgw : ∀ x y : Arr2_Config, q3s x = q3s y → x = y
 | ⟨⟨a0⟩, ⟨a1⟩⟩, ⟨⟨b0⟩, ⟨b1⟩⟩, h => by
  simp only [q3s, D.agg.injEq, List.cons.injEq, and_true] at h;obtain ⟨h0, h1⟩ := h;have e0 : a0 = b0 := q4k q75 h0;have e1 : a1 = b1 := q4k q75 h1;rw [e0, e1]
def q77 (x : Arr2_Config) : List Lv := [.l .Member x.e0.Members, .l .Member x.e1.Members]
def q3l : List Lv → Option Arr2_Config
 | [l0, l1] => match asL .Member l0, asL .Member l1 with
  | some m0, some m1 => some (Arr2_Config.mk (Config.mk m0) (Config.mk m1))
  | _, _ => none
 | _ => none
theorem qh2 (cs : List Lv) (x : Arr2_Config) (h : q3l cs = some x) : q77 x = cs := by
 unfold q3l at h;split at h
 ·split at h
  ·rename_i m0 m1 h0 h1;cases q95 h0;cases q95 h1;cases h; rfl
  ·cases h
 ·cases h
def encT : (c : TC) → Ty c → D
 | .i64 => q69
 | .b => enc_b
 | .l_i64 => qfj
 | .Refutation => q15
 | .Tape => qes
 | .Trust => q1z
 | .l_Trust => qb7
 | .Member => q2n
 | .l_Member => q9b
 | .Config => q1e
 | .Arr2_Config => q3s
def y6l : (c : TC) → Ty c → List Lv
 | .i64 => qm6
 | .b => qwe
 | .l_i64 => qf3
 | .Refutation => q4t
 | .Tape => qig
 | .Trust => qb4
 | .l_Trust => qbo
 | .Member => qdn
 | .l_Member => qag
 | .Config => q5w
 | .Arr2_Config => q77
def qyi : (c : TC) → List Lv → Option (Ty c)
 | .i64 => qav
 | .b => qgm
 | .l_i64 => qby
 | .Refutation => q41
 | .Tape => q8o
 | .Trust => q7d
 | .l_Trust => q8v
 | .Member => q6c
 | .l_Member => q86
 | .Config => q68
 | .Arr2_Config => q3l
def aggF : TC → Bool
 | .i64 => false
 | .b => false
 | .l_i64 => false
 | .Refutation => true
 | .Tape => true
 | .Trust => true
 | .l_Trust => false
 | .Member => true
 | .l_Member => false
 | .Config => true
 | .Arr2_Config => true
def sizeF : TC → Nat
 | .i64 => 1
 | .b => 1
 | .l_i64 => 1
 | .Refutation => 3
 | .Tape => 2
 | .Trust => 3
 | .l_Trust => 1
 | .Member => 4
 | .l_Member => 1
 | .Config => 1
 | .Arr2_Config => 2
def qve : List (TypeId × TC × TypeId) := [(22, .i64,3),(25, .Member, 67),(50, .Arr2_Config, 48),(52, .Refutation, 40),(62, .l_Trust, 63),(63, .Trust, 65)]
def qyo : List (TypeId × List (Option TC)) := [(22,[some .i64]),(25,[some .Member]),(26,[some .Member]),(27,[some .Member]),(48,[some .Member, some .Member]),(50,[some .Arr2_Config]),(52,[some .Refutation]),(59,[some .i64, none]),(60,[some .i64, none]),(62,[some .l_Trust]),(63,[some .Trust]),(64,[none, some .i64, some .Trust]),(65,[none, some .i64, some .Trust]),(66,[none, none, some .i64, some .Trust]),(67,[none, none, some .i64, some .Trust])]
def elemF : List (TypeId × TC × TypeId) → TypeId → Option TC
 | [], _ => none
 | (u, c, _) :: r, t => if u = t then some c else elemF r t
def sig : Sig := { TC := TC, Ty := Ty, enc := encT, cells := y6l, ofCells := qyi, agg := aggF, size := sizeF, elem := elemF qve, lists := look1 [] qyo }
theorem qr8 (P : Program) : ∀ (tab : List (TypeId × TC × TypeId)), (tab.all fun p => q20 P p.1 == some p.2.2 && tyAgg P p.2.2 == some (aggF p.2.1) && q0k P p.2.2 == some (sizeF p.2.1)) = true → ∀ t c, elemF tab t = some c → ∃ e, q20 P t = some e ∧ tyAgg P e = some (aggF c) ∧ q0k P e = some (sizeF c)
 | [], _, _, _, h => by cases h
 | (u, d, e) :: r, ha, t, c, h => by
  simp only [List.all_cons, Bool.and_eq_true, beq_iff_eq] at ha;simp only [elemF] at h;split at h
  ·rename_i hu; cases h; subst hu; exact ⟨e, ha.1.1.1, ha.1.1.2, ha.1.2⟩
  ·exact qr8 P r ha.2 t c h
theorem qob (x : Trust) : sig.enc .Trust x = (packT (S := sig) true (qb4 x)).toD := by
 cases x;show q1z _ = _;simp only [q1z, q54];rfl
theorem sigOk : sig.Ok Tryz.prog where
 enc_eq := fun c x => by cases c <;> first | rfl | exact qob x
 of_eq := fun c cs x h => by
  have : sig.cells c x = cs := by
   cases c
   ·exact y4a cs x h
   ·exact of_b cs x h
   ·exact qxu cs x h
   ·exact qk3 cs x h
   ·exact y3o cs x h
   ·exact qxv cs x h
   ·exact qrw cs x h
   ·exact qw5 cs x h
   ·exact qof cs x h
   ·exact qwv cs x h
   ·exact qh2 cs x h
  rw [this]
 inj := fun c x y h => by
  cases c
  ·exact qgd x y h
  ·exact inj_b x y h
  ·exact qv2 x y h
  ·exact qha x y h
  ·exact qy9 x y h
  ·exact qci x y h
  ·exact qp0 x y h
  ·exact q75 x y h
  ·exact qli x y h
  ·exact qsb x y h
  ·exact qgw x y h
 len := fun c x => by cases c <;> rfl
 pos := fun c => by cases c <;> decide
 one := fun c h => by cases c <;> first | rfl | cases h
 elem := qr8 Tryz.prog qve (by kernel_rfl)
def y83 : List (Nat × List (OT sig)) := [(6,[.lf .b]),(5,[.lf .b]),(7,[.lf .b]),(3,[.lf .b]),(4,[.lf .b]),(8,[.ptr 0 0]),(9,[.ag .Config, .ag .Config]),(10,[.lf (.i .i64)]),(11,[.lf (.l .i64), .lf (.i .i64)]),(13,[.lf .b]),(20,[.lf .b]),(14,[.lf .b]),(21,[.ag .Config]),(12,[.lf .b, .lf (.i .i64)]),(15,[.lf (.i .i64)]),(16,[.lf .b, .lf (.i .i64)]),(17,[.ag .Refutation, .lf (.i .i64)]),(18,[.lf .b]),(19,[.lf .b]),(35,[.ag .Config]),(39,[.lf (.i .i64)]),(40,[.lf (.i .i64)]),(42,[.lf (.i .i64)]),(41,[.lf (.l .i64)]),(47,[.ag .Config]),(30,[.lf .b]),(57,[.ag .Trust]),(44,[.lf (.i .i64)]),(46,[.ag .Config]),(45,[.lf .b, .lf (.i .i64)]),(48,[.lf (.i .i64)]),(49,[.lf .b]),(50,[.lf (.l .i64)]),(53,[.lf .b]),(34,[.ag .Config]),(32,[.lf .b]),(54,[.lf .b]),(51,[.lf .b]),(55,[.lf .b]),(72,[.lf (.i .i64)]),(22,[.lf (.i .i64)]),(58,[.lf (.i .i64)]),(80,[.lf (.i .i64), .lf (.i .i64)]),(23,[.lf (.i .i64)]),(64,[.lf (.i .i64)]),(26,[.lf .b, .lf (.i .i64)]),(24,[.lf .b, .lf (.i .i64)]),(70,[.lf .b]),(62,[.lf (.i .i64)]),(63,[.lf .b]),(67,[.lf .b]),(31,[.lf (.i .i64)]),(68,[.lf (.l .i64)]),(77,[.lf .b]),(83,[.lf .b]),(84,[.lf .b]),(85,[.lf (.i .i64), .lf .b]),(59,[.lf (.i .i64)]),(61,[.lf (.i .i64)]),(33,[.lf .b, .lf (.i .i64)]),(99,[.lf .b]),(69,[.lf (.i .i64), .lf (.i .i64)]),(94,[.lf (.i .i64)]),(66,[.lf (.l .i64)]),(27,[.lf .b, .lf (.i .i64)]),(43,[.lf .b]),(25,[.lf .b, .lf (.i .i64)]),(37,[.ag .Config, .lf (.i .i64)]),(38,[.ag .Config, .lf (.i .i64)]),(76,[.ag .Config, .lf (.i .i64)]),(56,[.lf (.i .i64)]),(52,[.lf (.i .i64), .lf (.i .i64), .lf (.i .i64)]),(73,[.ag .Trust]),(74,[.ag .Trust]),(75,[.ag .Trust]),(97,[.ag .Trust]),(91,[.lf (.i .i64)]),(120,[.lf (.l .i64)]),(115,[.lf (.i .i64)]),(116,[.lf (.i .i64)]),(117,[.lf (.i .i64)]),(78,[]),(101,[.lf (.i .i64)]),(100,[]),(131,[.lf (.i .i64)]),(81,[.ag .Trust]),(82,[.ag .Trust]),(108,[.ag .Trust]),(71,[.ag .Trust]),(96,[.ag .Trust]),(60,[.lf .b, .lf (.i .i64), .lf (.i .i64)]),(87,[.lf (.i .i64)]),(88,[.lf (.i .i64), .lf .b]),(111,[.lf (.i .i64)]),(89,[.lf .b]),(136,[.lf (.i .i64)]),(137,[.lf (.i .i64)]),(138,[.lf (.i .i64)]),(148,[.lf .b]),(150,[.lf (.i .i64), .lf (.i .i64)]),(154,[.lf (.i .i64)]),(86,[.lf (.i .i64)]),(110,[.lf .b]),(112,[.lf (.i .i64)]),(105,[.lf (.i .i64), .lf .b]),(107,[.lf (.i .i64)]),(106,[.lf (.i .i64)]),(133,[.lf (.i .i64)]),(134,[.lf (.i .i64), .lf (.l .i64)]),(147,[.lf (.i .i64)]),(153,[.lf (.i .i64)]),(109,[.lf .b]),(90,[.lf .b]),(92,[.lf (.i .i64)]),(114,[.lf .b]),(95,[.lf (.i .i64)]),(118,[.lf (.l .i64)]),(93,[.lf (.i .i64)]),(28,[.ag .Refutation, .lf (.i .i64)]),(29,[.lf (.l .i64), .lf (.i .i64)]),(36,[.ag .Trust]),(140,[.lf (.i .i64), .lf (.i .i64)]),(122,[]),(123,[]),(124,[]),(125,[.lf (.i .i64), .lf (.i .i64)]),(126,[]),(127,[.lf .b]),(79,[.lf (.i .i64)]),(128,[.lf (.i .i64)]),(129,[.lf (.i .i64), .lf .b]),(143,[.lf (.i .u64)]),(145,[.lf (.i .i64)]),(146,[.lf (.i .i64)]),(104,[.lf (.i .i64)]),(103,[.lf (.i .i64)]),(102,[.lf (.i .i64)]),(151,[.lf (.i .i64), .lf (.i .i64)]),(132,[.lf .b]),(135,[.lf (.i .i64)]),(119,[.lf (.i .i64)]),(149,[.lf .b]),(139,[.lf .b]),(65,[.lf (.i .i64), .lf (.i .i64), .lf (.i .i64)]),(98,[.lf (.l .Trust)]),(142,[]),(144,[.lf (.i .u64)]),(121,[.lf (.i .i64)]),(141,[.lf (.i .i64)])]
def y2u : List (Nat × List (List (OT sig))) := [(8,[[.lf (.l .i64), .lf (.i .i64)]])]
noncomputable def tn : TEn := { E := env, S := sig, res := look1 [] y83, news := look1 [] y2u, cut := fun _ _ => false }
def qkk (fn : Func) : Code := match fn.body with | some c => c | none => .skip
def q01 (fn : Func) (p : List Nat) : Code := qfk p (qkk fn)
def q0c (fn : Func) (p ms : List Nat) : List Fr := qfp p (qkk fn) ms []
abbrev o0' : OSpec sig := ⟨[.lf (.i .i64)],[]⟩
abbrev o1' : OSpec sig := ⟨[.lf .b],[]⟩
abbrev o2' : OSpec sig := ⟨[],[[.own .i64 false]]⟩
abbrev o3' : OSpec sig := ⟨[.lf (.l .i64)],[]⟩
abbrev o4' : OSpec sig := ⟨[.ag .Trust],[]⟩
abbrev o5' : OSpec sig := ⟨[.ag .Trust],[[.lf (.l .i64), .lf (.i .i64)]]⟩
abbrev o6' : OSpec sig := ⟨[.ag .Config],[]⟩
abbrev o7' : OSpec sig := ⟨[.lf .b],[[.own .i64 false]]⟩
abbrev o8' : OSpec sig := ⟨[.lf (.i .i64)],[[.own .i64 false]]⟩
abbrev o9' : OSpec sig := ⟨[.lf .b, .lf (.i .i64)],[]⟩
abbrev o10' : OSpec sig := ⟨[.lf (.i .i64), .lf (.i .i64)],[]⟩
abbrev o11' : OSpec sig := ⟨[.lf (.i .i64), .lf .b],[[.own .i64 false]]⟩
abbrev o12' : OSpec sig := ⟨[.lf (.l .Trust)],[]⟩
abbrev o13' : OSpec sig := ⟨[.lf (.i .i64)],[[.lf (.l .i64), .lf (.i .i64)]]⟩
abbrev o14' : OSpec sig := ⟨[.ag .Config],[[.lf (.l .i64), .lf (.i .i64)]]⟩
abbrev o15' : OSpec sig := ⟨[.ag .Config, .lf (.i .i64)],[]⟩
abbrev o16' : OSpec sig := ⟨[.lf (.l .i64), .lf (.i .i64)],[]⟩
abbrev o17' : OSpec sig := ⟨[.ag .Refutation, .lf (.i .i64)],[]⟩
abbrev o18' : OSpec sig := ⟨[.lf (.i .i64), .lf .b],[]⟩
abbrev o19' : OSpec sig := ⟨[.lf (.i .i64)],[[.own .i64 false],[.lf (.i .i64)]]⟩
abbrev o20' : OSpec sig := ⟨[.ag .Config, .ag .Config],[[.lf (.l .i64), .lf (.i .i64)]]⟩
abbrev o21' : OSpec sig := ⟨[.lf (.l .i64)],[[.lf (.l .i64), .lf (.i .i64)]]⟩
abbrev o22' : OSpec sig := ⟨[.lf (.i .i64), .lf (.i .i64), .lf (.i .i64)],[]⟩
abbrev o23' : OSpec sig := ⟨[.lf (.i .i64), .lf (.l .i64)],[]⟩
abbrev o24' : OSpec sig := ⟨[.lf (.i .u64)],[[.lf (.i .u64)]]⟩
theorem cL {f : FuncId} {fn : Func} {vs : List (TL sig)} {hs : THeap sig} (o : OSpec sig) (hf : Tryz.prog.funcs[f]? = some fn) {p : Option o.Out} (hok : env.ok f = true := by kernel_rfl) (hb : fn.body = some (qkk fn) := by kernel_rfl) (hn0 : (decide (vs.length ≤ fn.ntmps) && (q7p Tryz.prog fn (qkk fn)).isNone && (env.seek f).isNone) = true := by kernel_rfl) (h : te tn ⟨f, fn, hs.length⟩ o 100000 (qkk fn) [] ⟨bindT 0 vs, hs⟩ = p := by kernel_rfl) : Le p (callC tn f vs hs o) := qy0 (T := tn) sigOk 100000 hok hf hb hn0 h
theorem gL {F : Fx} (o : OSpec sig) (b : Code) {c : Code} {K : List Fr} {s : TSt sig} {p : Option o.Out} (hc : c = .loop b := by kernel_rfl) (h : te tn F o 100000 b (.loop b s.heap.length :: K) s = p := by kernel_rfl) : Le p (goC tn F o c K s) := qso (T := tn) sigOk 100000 hc h
end Go.Proofs.YtbmelgbadedbbaaGreat
