/- The seat's program for the machines. -/
import Derived.Test.YtkeiaodiibageaaGreatDoorP08An
import Derived.Test.YtkeiaodiibageaaGreatDoorMachT
import Derived.Test.YtkeiaodiibageaaGreatDoorChecked
namespace Go.Proofs.YtkeiaodiibageaaGreatDoor
open Go Go.Ab
def look1 {α : Type} (d : α) : List (Nat × α) → Nat → α
 | [], _ => d
 | (k, v) :: r, t => if k = t then v else look1 d r t
def an : An := { flag := fun f t => if (look1 [] qxv f).contains t then .keep else .view, clear := fun f => look1 [] (look1 [] qvw f), mode := fun f => look1 0 (look1 [] qwu f), order := fun f => look1 [] (look1 [] qwe f), own := fun f => anOwn.contains f }
def lastF : Nat := 165
def badF : List Nat := [2,6,21,22,23,25,26,27,47,48,49,52,72,73,87,88,92,93,94,95,96,105,106,107,108,109,111,117,118,121,122,123,124,125,126,127,128,129,131,132,133,134,135,136,137,139,140,141,142,143,144,145,146,147,148,149,150,151,152,153,154,155,156,157,158,159,160,161,162,163,164,165]
def okF (h : Nat) : Bool := decide (2 ≤ h ∧ h ≤ lastF) && !badF.contains h
noncomputable def qp2 : List (Nat × Option (List AV → Heap → Option (AV × Heap))) := [(64, some q6s),(67, some q6s),(76, some (q5k 6)),(115, some qbc),(116, some qb7)]
noncomputable def env : Env0 := { P := Tryz.prog, glob := fun _ => none, an := an, ok := okF, lib := look1 none qp2 }
structure Trust where
 Threshold : Int
 Nodes : List (Int)
 Inner : List (Trust)
structure Tape where
 l : List (Int)
 at_ : Int
structure Declaration where
 Node : Int
 Seq : Int
 Trust : Trust
 Tag : Int
structure Registry where
 Entries : List (List (Declaration))
inductive TC where
 | i64 | l_i64 | u64 | Trust | l_Trust | s | Tape | Declaration | l_Declaration | l_l_Declaration | Registry
 deriving DecidableEq
def Ty : TC → Type
 | .i64 => Int
 | .l_i64 => List (Int)
 | .u64 => Int
 | .Trust => Trust
 | .l_Trust => List (Trust)
 | .s => List UInt8
 | .Tape => Tape
 | .Declaration => Declaration
 | .l_Declaration => List (Declaration)
 | .l_l_Declaration => List (List (Declaration))
 | .Registry => Registry
abbrev Lv := Leaf TC Ty
def asL (c : TC) : Lv → Option (List (Ty c))
 | .l c' xs => if h : c' = c then some (h ▸ xs) else none
 | _ => none
theorem q8p {c : TC} {x : Lv} {xs : List (Ty c)} (h : asL c x = some xs) : x = .l c xs := by
 cases x with
 | l c' ys =>
  simp only [asL] at h;split at h
  ·rename_i hc;subst hc;cases h; rfl
  ·cases h
 | _ => cases h
def q96 (x : Int) : D := .v (.int .i64 x)
theorem qe8 (x y : Int) (h : q96 x = q96 y) : x = y := q7p h
def qjy (x : Int) : List Lv := [.i .i64 x]
def q9b : List Lv → Option (Int)
 | [.i .i64 x] => some x
 | _ => none
theorem qyb (cs : List Lv) (x : Int) (h : q9b cs = some x) : qjy x = cs := by
 unfold q9b at h;split at h
 ·cases h; rfl
 ·cases h
def qex (x : List (Int)) : D := .list (x.map q96)
theorem qpo (x y : List (Int)) (h : qex x = qex y) : x = y := q49 qe8 h
def qei (x : List (Int)) : List Lv := [.l .i64 x]
def qa1 : List Lv → Option (List (Int))
 | [x] => asL .i64 x
 | _ => none
theorem qt4 : ∀ (cs : List Lv) (x : List (Int)), qa1 cs = some x → qei x = cs
 | [y], x, h => by rw [q8p (c := .i64) (x := y) (xs := x) h]; rfl
 | [], x, h => by
  have h' : (none : Option (List (Int))) = some x := h;cases h'
 | _ :: _ :: _, x, h => by
  have h' : (none : Option (List (Int))) = some x := h;cases h'
def ql7 (x : Int) : D := .v (.int .u64 x)
theorem qwd (x y : Int) (h : ql7 x = ql7 y) : x = y := q7p h
def qj1 (x : Int) : List Lv := [.i .u64 x]
def q9e : List Lv → Option (Int)
 | [.i .u64 x] => some x
 | _ => none
theorem qwm (cs : List Lv) (x : Int) (h : q9e cs = some x) : qj1 x = cs := by
 unfold q9e at h;split at h
 ·cases h; rfl
 ·cases h
mutual
def q2s : Trust → D
 | ⟨a0, a1, a2⟩ => .agg [.v (.int .i64 a0), .list ((a1).map q96), .list (q2n a2)]
def q2n : List Trust → List D
 | [] => []
 | x :: r => q2s x :: q2n r
end
theorem qab : ∀ l : List Trust, q2n l = l.map q2s
 | [] => rfl
 | x :: r => by simp only [q2n, qab r, List.map_cons]
mutual
theorem qa3 : ∀ x y : Trust, q2s x = q2s y → x = y
 | ⟨a0, a1, a2⟩, ⟨b0, b1, b2⟩, h => by
  simp only [q2s, D.agg.injEq, List.cons.injEq, and_true] at h;obtain ⟨h0, h1, h2⟩ := h;have e0 : a0 = b0 := q7p h0;have e1 : a1 = b1 := q49 qe8 h1;have e2 : a2 = b2 := qft _ _ (D.list.inj h2);rw [e0, e1, e2]
theorem qft : ∀ x y : List Trust, q2n x = q2n y → x = y
 | [], [], _ => rfl
 | [], _ :: _, h => by simp [q2n] at h
 | _ :: _, [], h => by simp [q2n] at h
 | x :: r, y :: r', h => by
  simp only [q2n, List.cons.injEq] at h;rw [qa3 x y h.1, qft r r' h.2]
end
def q8w (x : Trust) : List Lv := [.i .i64 x.Threshold, .l .i64 x.Nodes, .l .Trust x.Inner]
def q66 : List Lv → Option Trust
 | [.i .i64 a0, l1, l2] => match asL .i64 l1, asL .Trust l2 with
  | some m1, some m2 => some (Trust.mk a0 m1 m2)
  | _, _ => none
 | _ => none
theorem qt6 (cs : List Lv) (x : Trust) (h : q66 cs = some x) : q8w x = cs := by
 unfold q66 at h;split at h
 ·split at h
  ·rename_i m1 m2 h1 h2;cases q8p h1;cases q8p h2;cases h; rfl
  ·cases h
 ·cases h
def q8v (x : List (Trust)) : D := .list (x.map q2s)
theorem qld (x y : List (Trust)) (h : q8v x = q8v y) : x = y := q49 qa3 h
def q9n (x : List (Trust)) : List Lv := [.l .Trust x]
def q72 : List Lv → Option (List (Trust))
 | [x] => asL .Trust x
 | _ => none
theorem qoa : ∀ (cs : List Lv) (x : List (Trust)), q72 cs = some x → q9n x = cs
 | [y], x, h => by rw [q8p (c := .Trust) (x := y) (xs := x) h]; rfl
 | [], x, h => by
  have h' : (none : Option (List (Trust))) = some x := h;cases h'
 | _ :: _ :: _, x, h => by
  have h' : (none : Option (List (Trust))) = some x := h;cases h'
def enc_s (x : List UInt8) : D := .v (.string ⟨⟨x⟩⟩)
theorem inj_s (x y : List UInt8) (h : enc_s x = enc_s y) : x = y := qvz h
def qr7 (x : List UInt8) : List Lv := [.s x]
def qe1 : List Lv → Option (List UInt8)
 | [.s x] => some x
 | _ => none
theorem of_s (cs : List Lv) (x : List UInt8) (h : qe1 cs = some x) : qr7 x = cs := by
 unfold qe1 at h;split at h
 ·cases h; rfl
 ·cases h
def qcw (x : Tape) : D := .agg [.list (((x.l)).map q96), .v (.int .i64 (x.at_))]
theorem qt9 : ∀ x y : Tape, qcw x = qcw y → x = y
 | ⟨a0, a1⟩, ⟨b0, b1⟩, h => by
  simp only [qcw, D.agg.injEq, List.cons.injEq, and_true] at h;obtain ⟨h0, h1⟩ := h;have e0 : a0 = b0 := q49 qe8 h0;have e1 : a1 = b1 := q7p h1;rw [e0, e1]
def qfj (x : Tape) : List Lv := [.l .i64 x.l, .i .i64 x.at_]
def q7g : List Lv → Option Tape
 | [l0, .i .i64 a1] => match asL .i64 l0 with
  | some m0 => some (Tape.mk m0 a1)
  | _ => none
 | _ => none
theorem qve (cs : List Lv) (x : Tape) (h : q7g cs = some x) : qfj x = cs := by
 unfold q7g at h;split at h
 ·split at h
  ·rename_i m0 h0;cases q8p h0;cases h; rfl
  ·cases h
 ·cases h
def q08 (x : Declaration) : D := .agg [.v (.int .i64 (x.Node)), .v (.int .i64 (x.Seq)), .v (.int .i64 (x.Trust.Threshold)), .list (((x.Trust.Nodes)).map q96), .list (((x.Trust.Inner)).map q2s), .v (.int .u64 (x.Tag))]
theorem q79 : ∀ x y : Declaration, q08 x = q08 y → x = y
 | ⟨a0, a1, ⟨a2, a3, a4⟩, a5⟩, ⟨b0, b1, ⟨b2, b3, b4⟩, b5⟩, h => by
  simp only [q08, D.agg.injEq, List.cons.injEq, and_true] at h;obtain ⟨h0, h1, h2, h3, h4, h5⟩ := h;have e0 : a0 = b0 := q7p h0;have e1 : a1 = b1 := q7p h1;have e2 : a2 = b2 := q7p h2;have e3 : a3 = b3 := q49 qe8 h3;have e4 : a4 = b4 := q49 qa3 h4;have e5 : a5 = b5 := q7p h5;rw [e0, e1, e2, e3, e4, e5]
def q5n (x : Declaration) : List Lv := [.i .i64 x.Node, .i .i64 x.Seq, .i .i64 x.Trust.Threshold, .l .i64 x.Trust.Nodes, .l .Trust x.Trust.Inner, .i .u64 x.Tag]
def q2v : List Lv → Option Declaration
 | [.i .i64 a0, .i .i64 a1, .i .i64 a2, l3, l4, .i .u64 a5] => match asL .i64 l3, asL .Trust l4 with
  | some m3, some m4 => some (Declaration.mk a0 a1 (Trust.mk a2 m3 m4) a5)
  | _, _ => none
 | _ => none
theorem qfc (cs : List Lv) (x : Declaration) (h : q2v cs = some x) : q5n x = cs := by
 unfold q2v at h;split at h
 ·split at h
  ·rename_i m3 m4 h3 h4;cases q8p h3;cases q8p h4;cases h; rfl
  ·cases h
 ·cases h
def q1y (x : List (Declaration)) : D := .list (x.map q08)
theorem q3c (x y : List (Declaration)) (h : q1y x = q1y y) : x = y := q49 q79 h
def q4s (x : List (Declaration)) : List Lv := [.l .Declaration x]
def q3s : List Lv → Option (List (Declaration))
 | [x] => asL .Declaration x
 | _ => none
theorem qcp : ∀ (cs : List Lv) (x : List (Declaration)), q3s cs = some x → q4s x = cs
 | [y], x, h => by rw [q8p (c := .Declaration) (x := y) (xs := x) h]; rfl
 | [], x, h => by
  have h' : (none : Option (List (Declaration))) = some x := h;cases h'
 | _ :: _ :: _, x, h => by
  have h' : (none : Option (List (Declaration))) = some x := h;cases h'
def q2w (x : List (List (Declaration))) : D := .list (x.map q1y)
theorem q97 (x y : List (List (Declaration))) (h : q2w x = q2w y) : x = y := q49 q3c h
def q3v (x : List (List (Declaration))) : List Lv := [.l .l_Declaration x]
def q37 : List Lv → Option (List (List (Declaration)))
 | [x] => asL .l_Declaration x
 | _ => none
theorem qa7 : ∀ (cs : List Lv) (x : List (List (Declaration))), q37 cs = some x → q3v x = cs
 | [y], x, h => by rw [q8p (c := .l_Declaration) (x := y) (xs := x) h]; rfl
 | [], x, h => by
  have h' : (none : Option (List (List (Declaration)))) = some x := h;cases h'
 | _ :: _ :: _, x, h => by
  have h' : (none : Option (List (List (Declaration)))) = some x := h;cases h'
def q56 (x : Registry) : D := .agg [.list (((x.Entries)).map q1y)]
theorem qit : ∀ x y : Registry, q56 x = q56 y → x = y
 | ⟨a0⟩, ⟨b0⟩, h => by
  simp only [q56, D.agg.injEq, List.cons.injEq, and_true] at h;have h0 := h;have e0 : a0 = b0 := q49 q3c h0;rw [e0]
def q8l (x : Registry) : List Lv := [.l .l_Declaration x.Entries]
def q42 : List Lv → Option Registry
 | [l0] => match asL .l_Declaration l0 with
  | some m0 => some (Registry.mk m0)
  | _ => none
 | _ => none
theorem qkv (cs : List Lv) (x : Registry) (h : q42 cs = some x) : q8l x = cs := by
 unfold q42 at h;split at h
 ·split at h
  ·rename_i m0 h0;cases q8p h0;cases h; rfl
  ·cases h
 ·cases h
def encT : (c : TC) → Ty c → D
 | .i64 => q96
 | .l_i64 => qex
 | .u64 => ql7
 | .Trust => q2s
 | .l_Trust => q8v
 | .s => enc_s
 | .Tape => qcw
 | .Declaration => q08
 | .l_Declaration => q1y
 | .l_l_Declaration => q2w
 | .Registry => q56
def qyu : (c : TC) → Ty c → List Lv
 | .i64 => qjy
 | .l_i64 => qei
 | .u64 => qj1
 | .Trust => q8w
 | .l_Trust => q9n
 | .s => qr7
 | .Tape => qfj
 | .Declaration => q5n
 | .l_Declaration => q4s
 | .l_l_Declaration => q3v
 | .Registry => q8l
def qtb : (c : TC) → List Lv → Option (Ty c)
 | .i64 => q9b
 | .l_i64 => qa1
 | .u64 => q9e
 | .Trust => q66
 | .l_Trust => q72
 | .s => qe1
 | .Tape => q7g
 | .Declaration => q2v
 | .l_Declaration => q3s
 | .l_l_Declaration => q37
 | .Registry => q42
def aggF : TC → Bool
 | .i64 => false
 | .l_i64 => false
 | .u64 => false
 | .Trust => true
 | .l_Trust => false
 | .s => false
 | .Tape => true
 | .Declaration => true
 | .l_Declaration => false
 | .l_l_Declaration => false
 | .Registry => true
def sizeF : TC → Nat
 | .i64 => 1
 | .l_i64 => 1
 | .u64 => 1
 | .Trust => 3
 | .l_Trust => 1
 | .s => 1
 | .Tape => 2
 | .Declaration => 6
 | .l_Declaration => 1
 | .l_l_Declaration => 1
 | .Registry => 1
def qr8 : List (TypeId × TC × TypeId) := [(22, .i64,3),(25, .u64,45),(28, .l_Declaration, 39),(39, .Declaration, 47),(42, .Trust, 44),(51, .l_Trust, 42),(136, .s, 9)]
def qsd : List (TypeId × List (Option TC)) := [(22,[some .i64]),(25,[some .u64]),(28,[some .l_Declaration]),(29,[some .l_Declaration]),(30,[some .l_Declaration]),(39,[some .Declaration]),(42,[some .Trust]),(43,[none, some .i64, some .Trust]),(44,[none, some .i64, some .Trust]),(46,[none, none, none, some .i64, some .Trust, none]),(47,[none, none, none, some .i64, some .Trust, none]),(51,[some .l_Trust]),(53,[none]),(54,[none]),(55,[none]),(60,[none, none, some .i64, some .Trust]),(61,[none, none, some .i64, some .Trust]),(63,[none, none, none, some .i64, some .Trust, none, none, none, none, some .i64, some .Trust, none]),(64,[none, none, none, some .i64, some .Trust, none, none, none, none, some .i64, some .Trust, none]),(68,[some .i64, none]),(69,[some .i64, none]),(113,[none]),(136,[some .s]),(145,[none, none]),(146,[none, none])]
def elemF : List (TypeId × TC × TypeId) → TypeId → Option TC
 | [], _ => none
 | (u, c, _) :: r, t => if u = t then some c else elemF r t
def sig : Sig := { TC := TC, Ty := Ty, enc := encT, cells := qyu, ofCells := qtb, agg := aggF, size := sizeF, elem := elemF qr8, lists := look1 [] qsd }
theorem qml (P : Program) : ∀ (tab : List (TypeId × TC × TypeId)), (tab.all fun p => q1n P p.1 == some p.2.2 && tyAgg P p.2.2 == some (aggF p.2.1) && q0a P p.2.2 == some (sizeF p.2.1)) = true → ∀ t c, elemF tab t = some c → ∃ e, q1n P t = some e ∧ tyAgg P e = some (aggF c) ∧ q0a P e = some (sizeF c)
 | [], _, _, _, h => by cases h
 | (u, d, e) :: r, ha, t, c, h => by
  simp only [List.all_cons, aT', beq_iff_eq] at ha;simp only [elemF] at h;split at h
  ·rename_i hu; cases h; subst hu; exact ⟨e, ha.1.1.1, ha.1.1.2, ha.1.2⟩
  ·exact qml P r ha.2 t c h
theorem qkk (x : Trust) : sig.enc .Trust x = (packT (S := sig) true (q8w x)).toD := by
 cases x;show q2s _ = _;simp only [q2s, qab];rfl
theorem sigOk : sig.Ok Tryz.prog where
 enc_eq := fun c x => by cases c <;> first | rfl | exact qkk x
 of_eq := fun c cs x h => by
  have : sig.cells c x = cs := by
   cases c
   ·exact qyb cs x h
   ·exact qt4 cs x h
   ·exact qwm cs x h
   ·exact qt6 cs x h
   ·exact qoa cs x h
   ·exact of_s cs x h
   ·exact qve cs x h
   ·exact qfc cs x h
   ·exact qcp cs x h
   ·exact qa7 cs x h
   ·exact qkv cs x h
  rw [this]
 inj := fun c x y h => by
  cases c
  ·exact qe8 x y h
  ·exact qpo x y h
  ·exact qwd x y h
  ·exact qa3 x y h
  ·exact qld x y h
  ·exact inj_s x y h
  ·exact qt9 x y h
  ·exact q79 x y h
  ·exact q3c x y h
  ·exact q97 x y h
  ·exact qit x y h
 len := fun c x => by cases c <;> rfl
 pos := fun c => by cases c <;> decide
 one := fun c h => by cases c <;> first | rfl | cases h
 elem := qml Tryz.prog qr8 (by kernel_rfl)
def qx3 : List (Nat × List (OT sig)) := [(3,[.lf .b]),(4,[.lf .b]),(5,[.lf .b]),(7,[.ptr 0 0]),(9,[.lf (.i .i64)]),(8,[.lf (.l .u64)]),(10,[.ag .Registry]),(11,[.ag .Registry, .lf (.i .i64)]),(12,[.lf .b]),(13,[.lf (.i .i64)]),(14,[.lf (.i .i64)]),(15,[.lf .b]),(16,[.lf (.l .Declaration)]),(17,[.ref 0, .ref 0]),(20,[.lf (.l .Declaration)]),(24,[.lf (.i .i64)]),(29,[.ref 0, .ref 0]),(31,[.lf (.i .i64)]),(32,[.ag .Registry]),(18,[.ag .Registry, .lf (.i .i64)]),(41,[.lf (.i .i64)]),(59,[.lf (.i .i64)]),(68,[.lf .s]),(67,[.lf (.i .u64)]),(78,[.lf (.i .i64)]),(79,[.lf (.i .i64)]),(80,[.lf (.i .i64)]),(85,[.lf .s]),(89,[.lf .s]),(98,[.lf (.i .i64)]),(102,[.lf .s]),(104,[.lf .s]),(112,[.lf .b]),(114,[.lf (.i .i64), .lf (.i .i64)]),(115,[.lf .s]),(119,[.lf (.i .i64)]),(30,[.ag .Registry, .lf (.i .i64)]),(55,[.lf (.i .i64)]),(56,[.ref 0, .ref 0]),(57,[.lf (.l .Declaration)]),(35,[.lf (.i .i64)]),(62,[.lf .s]),(64,[.lf (.i .u64)]),(61,[.lf (.i .i64)]),(46,[.lf (.i .i64)]),(45,[.lf (.i .i64)]),(86,[.lf .s]),(84,[.lf (.i .i64)]),(103,[.lf .s]),(34,[.lf (.i .i64)]),(38,[.lf (.l .Declaration)]),(37,[.ag .Declaration, .lf (.i .i64)]),(39,[.lf (.i .i64)]),(40,[.ag .Declaration]),(66,[.ag .Trust]),(44,[.ag .Trust]),(71,[.ag .Trust]),(19,[.lf (.l .i64)]),(43,[.lf (.l .Declaration)]),(58,[.lf (.l .Declaration)]),(76,[.ref 0]),(77,[]),(97,[]),(120,[.lf .b]),(130,[.lf .b]),(138,[.lf .b]),(113,[.lf .b]),(74,[.lf .b]),(36,[.lf (.i .i64)]),(63,[.lf (.i .i64)]),(101,[.lf (.i .i64), .lf (.i .i64)]),(33,[.lf .b]),(28,[.lf .b]),(54,[.lf .b]),(60,[.lf (.i .i64)]),(82,[.lf (.i .i64)]),(83,[.lf (.i .i64)]),(81,[.lf (.i .i64)]),(99,[.lf .b]),(100,[.lf .b]),(65,[.lf (.i .i64), .lf .b]),(91,[.lf (.i .i64)]),(42,[.lf .b]),(69,[.lf .b]),(90,[.lf (.i .i64)]),(53,[.ag .Trust]),(75,[.ref 0]),(110,[]),(116,[.lf .s]),(51,[.lf .b]),(50,[.lf .b]),(70,[.lf .b])]
def qvj : List (Nat × List (List (OT sig))) := [(7,[[.lf (.l .i64), .lf (.i .i64)]]),(17,[[.own .l_Declaration false]]),(29,[[.own .l_Declaration false]]),(56,[[.own .l_Declaration false]]),(76,[[.own .Declaration false]]),(75,[[.own .i64 false]])]
noncomputable def tn : TEn := { E := env, S := sig, res := look1 [] qx3, news := look1 [] qvj, outs := fun f => if List.contains [] f then some [[.undef]] else none, cut := fun _ _ => false }
def qgk (fn : Func) : Code := match fn.body with | some c => c | none => .skip
def q0i (fn : Func) (p : List Nat) : Code := qdf p (qgk fn)
def qxc (fn : Func) (p ms : List Nat) : List Fr := qdq p (qgk fn) ms []
abbrev o0' : OSpec sig := ⟨[.lf (.i .i64)],[]⟩
abbrev o1' : OSpec sig := ⟨[.lf .b],[]⟩
abbrev o2' : OSpec sig := ⟨[.lf (.l .Declaration)],[]⟩
abbrev o3' : OSpec sig := ⟨[.lf .s],[]⟩
abbrev o4' : OSpec sig := ⟨[],[[.own .Declaration false]]⟩
abbrev o5' : OSpec sig := ⟨[.ag .Trust],[[.lf (.l .i64), .lf (.i .i64)]]⟩
abbrev o6' : OSpec sig := ⟨[.ref 0, .ref 0],[[.own .l_Declaration false]]⟩
abbrev o7' : OSpec sig := ⟨[.lf (.i .i64), .lf (.i .i64)],[]⟩
abbrev o8' : OSpec sig := ⟨[.lf (.i .i64)],[[.lf (.l .i64), .lf (.i .i64)]]⟩
abbrev o9' : OSpec sig := ⟨[.ag .Registry, .lf (.i .i64)],[]⟩
abbrev o10' : OSpec sig := ⟨[.lf (.l .i64)],[[.lf (.l .i64), .lf (.i .i64)]]⟩
abbrev o11' : OSpec sig := ⟨[.lf (.l .u64)],[[.lf (.l .i64), .lf (.i .i64)]]⟩
abbrev o12' : OSpec sig := ⟨[.ag .Registry],[[.lf (.l .i64), .lf (.i .i64)]]⟩
abbrev o13' : OSpec sig := ⟨[.lf (.l .Declaration)],[[.lf (.l .i64), .lf (.i .i64)]]⟩
abbrev o14' : OSpec sig := ⟨[.ag .Registry],[]⟩
abbrev o15' : OSpec sig := ⟨[.lf (.i .i64), .lf .b],[]⟩
abbrev o16' : OSpec sig := ⟨[.lf .b],[[.lf (.i .i64), .lf (.i .i64), .lf (.i .i64), .lf (.l .i64), .lf (.l .Trust), .lf (.i .u64)]]⟩
abbrev o17' : OSpec sig := ⟨[.lf (.i .i64)],[[.lf (.i .i64), .lf (.i .i64), .lf (.i .i64), .lf (.l .i64), .lf (.l .Trust), .lf (.i .u64)]]⟩
abbrev o18' : OSpec sig := ⟨[.ag .Trust],[]⟩
abbrev o19' : OSpec sig := ⟨[.ptr 0 0],[[.lf (.l .i64), .lf (.i .i64)]]⟩
abbrev o20' : OSpec sig := ⟨[.ag .Declaration, .lf (.i .i64)],[]⟩
abbrev o21' : OSpec sig := ⟨[.ag .Declaration],[[.lf (.l .i64), .lf (.i .i64)]]⟩
def eL {α : Type} (b a : Option α) : Prop := ∀ r, a = some r → b = some r
theorem cL {f : FuncId} {fn : Func} {vs : List (TL sig)} {hs : THeap sig} (o : OSpec sig) (hf : Tryz.prog.funcs[f]? = some fn) {p : Option o.Out} (hok : env.ok f = true := by kernel_rfl) (hb : fn.body = some (qgk fn) := by kernel_rfl) (hn0 : (decide (vs.length ≤ fn.ntmps) && (q59 Tryz.prog fn (qgk fn)).isNone && (env.seek f).isNone && (env.lib f).isNone) = true := by kernel_rfl) (h : te tn ⟨f, fn, hs.length⟩ o 100000 (qgk fn) [] ⟨bindT 0 vs, hs⟩ = p := by kernel_rfl) : eL (callC tn f vs hs o) p := qti (T := tn) sigOk 100000 hok hf hb hn0 h
theorem gL {F : Fx} (o : OSpec sig) (b : Code) {c : Code} {K : List Fr} {s : TSt sig} {p : Option o.Out} (hc : c = .loop b := by kernel_rfl) (h : te tn F o 100000 b (.loop b s.heap.length :: K) s = p := by kernel_rfl) : eL (goC tn F o c K s) p := qok (T := tn) sigOk 100000 hc h
end Go.Proofs.YtkeiaodiibageaaGreatDoor
