/- The seat's program for the machines. -/
import Derived.Test.YtfjcndlhpfbcgaaGreatZ16An
import Derived.Test.YtfjcndlhpfbcgaaGreatChecked
namespace Go.Proofs.YtfjcndlhpfbcgaaGreat
open Go Go.Ab
def look1 {α : Type} (d : α) : List (Nat × α) → Nat → α
  | [], _ => d
  | (k, v) :: r, t => if k = t then v else look1 d r t
def an : An := { flag := fun f t => if (look1 [] y61 f).contains t then .keep else .view, clear := fun f => look1 [] (look1 [] y0a f), mode := fun f => look1 0 (look1 [] y50 f), order := fun f => look1 [] (look1 [] y1i f), own := fun f => anOwn.contains f }
def lastF : Nat := 146
def badF : List Nat := []
def okF (h : Nat) : Bool := decide (2 ≤ h ∧ h ≤ lastF) && !badF.contains h
noncomputable def env : Env0 := { P := Tryz.prog, glob := fun _ => none, an := an, ok := okF }
structure Tape where
  l : List (Int)
  at_ : Int
structure Trust where
  Threshold : Int
  Nodes : List (Int)
  Inner : List (Trust)
structure Member where
  Declared : Bool
  Trust : Trust
structure Config where
  Members : List (Member)
inductive TC where
  | i64 | b | l_i64 | Tape | Trust | l_Trust | Member | l_Member | Config
  deriving DecidableEq
def Ty : TC → Type
  | .i64 => Int
  | .b => Bool
  | .l_i64 => List (Int)
  | .Tape => Tape
  | .Trust => Trust
  | .l_Trust => List (Trust)
  | .Member => Member
  | .l_Member => List (Member)
  | .Config => Config
abbrev Lv := Leaf TC Ty
def asL (c : TC) : Lv → Option (List (Ty c))
  | .l c' xs => if h : c' = c then some (h ▸ xs) else none
  | _ => none
theorem qbm {c : TC} {x : Lv} {xs : List (Ty c)} (h : asL c x = some xs) : x = .l c xs := by
  cases x with
  | l c' ys =>
    simp only [asL] at h
    split at h
    · rename_i hc
      subst hc
      cases h; rfl
    · cases h
  | _ => cases h
def q67 (x : Int) : D := .v (.int .i64 x)
theorem qfu (x y : Int) (h : q67 x = q67 y) : x = y := qiv h
def qky (x : Int) : List Lv := [.i .i64 x]
def qab : List Lv → Option (Int)
  | [.i .i64 x] => some x
  | _ => none
theorem y2z (cs : List Lv) (x : Int) (h : qab cs = some x) : qky x = cs := by
  unfold qab at h
  split at h
  · cases h; rfl
  · cases h
def enc_b (x : Bool) : D := .v (.bool x)
theorem inj_b (x y : Bool) (h : enc_b x = enc_b y) : x = y := qof h
def qsi (x : Bool) : List Lv := [.b x]
def qeq : List Lv → Option (Bool)
  | [.b x] => some x
  | _ => none
theorem of_b (cs : List Lv) (x : Bool) (h : qeq cs = some x) : qsi x = cs := by
  unfold qeq at h
  split at h
  · cases h; rfl
  · cases h
def qep (x : List (Int)) : D := .list (x.map q67)
theorem qv9 (x y : List (Int)) (h : qep x = qep y) : x = y := q62 qfu h
def qgm (x : List (Int)) : List Lv := [.l .i64 x]
def qc3 : List Lv → Option (List (Int))
  | [x] => asL .i64 x
  | _ => none
theorem qvm : ∀ (cs : List Lv) (x : List (Int)), qc3 cs = some x → qgm x = cs
  | [y], x, h => by rw [qbm (c := .i64) (x := y) (xs := x) h]; rfl
  | [], x, h => by
    have h' : (none : Option (List (Int))) = some x := h
    cases h'
  | _ :: _ :: _, x, h => by
    have h' : (none : Option (List (Int))) = some x := h
    cases h'
def qea (x : Tape) : D := .agg [.list (((x.l)).map q67), .v (.int .i64 (x.at_))]
theorem qvx : ∀ x y : Tape, qea x = qea y → x = y
  | ⟨a0, a1⟩, ⟨b0, b1⟩, h => by
    simp only [qea, D.agg.injEq, List.cons.injEq, and_true] at h
    obtain ⟨h0, h1⟩ := h
    have e0 : a0 = b0 := q62 qfu h0
    have e1 : a1 = b1 := qiv h1
    rw [e0, e1]
def qhh (x : Tape) : List Lv := [.l .i64 x.l, .i .i64 x.at_]
def q95 : List Lv → Option Tape
  | [l0, .i .i64 a1] => match asL .i64 l0 with
    | some m0 => some (Tape.mk m0 a1)
    | _ => none
  | _ => none
theorem y0k (cs : List Lv) (x : Tape) (h : q95 cs = some x) : qhh x = cs := by
  unfold q95 at h
  split at h
  · split at h
    · rename_i m0 h0
      cases qbm h0
      cases h; rfl
    · cases h
  · cases h
mutual
def q21 : Trust → D
  | ⟨a0, a1, a2⟩ => .agg [.v (.int .i64 a0), .list ((a1).map q67), .list (q2p a2)]
def q2p : List Trust → List D
  | [] => []
  | x :: r => q21 x :: q2p r
end
theorem q51 : ∀ l : List Trust, q2p l = l.map q21
  | [] => rfl
  | x :: r => by simp only [q2p, q51 r, List.map_cons]
mutual
theorem qcd : ∀ x y : Trust, q21 x = q21 y → x = y
  | ⟨a0, a1, a2⟩, ⟨b0, b1, b2⟩, h => by
    simp only [q21, D.agg.injEq, List.cons.injEq, and_true] at h
    obtain ⟨h0, h1, h2⟩ := h
    have e0 : a0 = b0 := qiv h0
    have e1 : a1 = b1 := q62 qfu h1
    have e2 : a2 = b2 := qhk _ _ (D.list.inj h2)
    rw [e0, e1, e2]
theorem qhk : ∀ x y : List Trust, q2p x = q2p y → x = y
  | [], [], _ => rfl
  | [], _ :: _, h => by simp [q2p] at h
  | _ :: _, [], h => by simp [q2p] at h
  | x :: r, y :: r', h => by
    simp only [q2p, List.cons.injEq] at h
    rw [qcd x y h.1, qhk r r' h.2]
end
def qb2 (x : Trust) : List Lv := [.i .i64 x.Threshold, .l .i64 x.Nodes, .l .Trust x.Inner]
def q76 : List Lv → Option Trust
  | [.i .i64 a0, l1, l2] => match asL .i64 l1, asL .Trust l2 with
    | some m1, some m2 => some (Trust.mk a0 m1 m2)
    | _, _ => none
  | _ => none
theorem qvj (cs : List Lv) (x : Trust) (h : q76 cs = some x) : qb2 x = cs := by
  unfold q76 at h
  split at h
  · split at h
    · rename_i m1 m2 h1 h2
      cases qbm h1
      cases qbm h2
      cases h; rfl
    · cases h
  · cases h
def qai (x : List (Trust)) : D := .list (x.map q21)
theorem qmo (x y : List (Trust)) (h : qai x = qai y) : x = y := q62 qcd h
def qbz (x : List (Trust)) : List Lv := [.l .Trust x]
def q88 : List Lv → Option (List (Trust))
  | [x] => asL .Trust x
  | _ => none
theorem qqn : ∀ (cs : List Lv) (x : List (Trust)), q88 cs = some x → qbz x = cs
  | [y], x, h => by rw [qbm (c := .Trust) (x := y) (xs := x) h]; rfl
  | [], x, h => by
    have h' : (none : Option (List (Trust))) = some x := h
    cases h'
  | _ :: _ :: _, x, h => by
    have h' : (none : Option (List (Trust))) = some x := h
    cases h'
def q3r (x : Member) : D := .agg [.v (.bool (x.Declared)), .v (.int .i64 (x.Trust.Threshold)), .list (((x.Trust.Nodes)).map q67), .list (((x.Trust.Inner)).map q21)]
theorem qcx : ∀ x y : Member, q3r x = q3r y → x = y
  | ⟨a0, ⟨a1, a2, a3⟩⟩, ⟨b0, ⟨b1, b2, b3⟩⟩, h => by
    simp only [q3r, D.agg.injEq, List.cons.injEq, and_true] at h
    obtain ⟨h0, h1, h2, h3⟩ := h
    have e0 : a0 = b0 := qof h0
    have e1 : a1 = b1 := qiv h1
    have e2 : a2 = b2 := q62 qfu h2
    have e3 : a3 = b3 := q62 qcd h3
    rw [e0, e1, e2, e3]
def qdd (x : Member) : List Lv := [.b x.Declared, .i .i64 x.Trust.Threshold, .l .i64 x.Trust.Nodes, .l .Trust x.Trust.Inner]
def q6a : List Lv → Option Member
  | [.b a0, .i .i64 a1, l2, l3] => match asL .i64 l2, asL .Trust l3 with
    | some m2, some m3 => some (Member.mk a0 (Trust.mk a1 m2 m3))
    | _, _ => none
  | _ => none
theorem qrh (cs : List Lv) (x : Member) (h : q6a cs = some x) : qdd x = cs := by
  unfold q6a at h
  split at h
  · split at h
    · rename_i m2 m3 h2 h3
      cases qbm h2
      cases qbm h3
      cases h; rfl
    · cases h
  · cases h
def q8p (x : List (Member)) : D := .list (x.map q3r)
theorem qkl (x y : List (Member)) (h : q8p x = q8p y) : x = y := q62 qcx h
def qa0 (x : List (Member)) : List Lv := [.l .Member x]
def q7v : List Lv → Option (List (Member))
  | [x] => asL .Member x
  | _ => none
theorem qms : ∀ (cs : List Lv) (x : List (Member)), q7v cs = some x → qa0 x = cs
  | [y], x, h => by rw [qbm (c := .Member) (x := y) (xs := x) h]; rfl
  | [], x, h => by
    have h' : (none : Option (List (Member))) = some x := h
    cases h'
  | _ :: _ :: _, x, h => by
    have h' : (none : Option (List (Member))) = some x := h
    cases h'
def q2o (x : Config) : D := .agg [.list (((x.Members)).map q3r)]
theorem qqt : ∀ x y : Config, q2o x = q2o y → x = y
  | ⟨a0⟩, ⟨b0⟩, h => by
    simp only [q2o, D.agg.injEq, List.cons.injEq, and_true] at h
    have h0 := h
    have e0 : a0 = b0 := q62 qcx h0
    rw [e0]
def q8w (x : Config) : List Lv := [.l .Member x.Members]
def q6b : List Lv → Option Config
  | [l0] => match asL .Member l0 with
    | some m0 => some (Config.mk m0)
    | _ => none
  | _ => none
theorem qsl (cs : List Lv) (x : Config) (h : q6b cs = some x) : q8w x = cs := by
  unfold q6b at h
  split at h
  · split at h
    · rename_i m0 h0
      cases qbm h0
      cases h; rfl
    · cases h
  · cases h
def encT : (c : TC) → Ty c → D
  | .i64 => q67
  | .b => enc_b
  | .l_i64 => qep
  | .Tape => qea
  | .Trust => q21
  | .l_Trust => qai
  | .Member => q3r
  | .l_Member => q8p
  | .Config => q2o
def y1p : (c : TC) → Ty c → List Lv
  | .i64 => qky
  | .b => qsi
  | .l_i64 => qgm
  | .Tape => qhh
  | .Trust => qb2
  | .l_Trust => qbz
  | .Member => qdd
  | .l_Member => qa0
  | .Config => q8w
def qwq : (c : TC) → List Lv → Option (Ty c)
  | .i64 => qab
  | .b => qeq
  | .l_i64 => qc3
  | .Tape => q95
  | .Trust => q76
  | .l_Trust => q88
  | .Member => q6a
  | .l_Member => q7v
  | .Config => q6b
def aggF : TC → Bool
  | .i64 => false
  | .b => false
  | .l_i64 => false
  | .Tape => true
  | .Trust => true
  | .l_Trust => false
  | .Member => true
  | .l_Member => false
  | .Config => true
def sizeF : TC → Nat
  | .i64 => 1
  | .b => 1
  | .l_i64 => 1
  | .Tape => 2
  | .Trust => 3
  | .l_Trust => 1
  | .Member => 4
  | .l_Member => 1
  | .Config => 1
def qs0 : List (TypeId × TC × TypeId) := [(22, .i64,3),(25, .Member, 59),(47, .Config, 27),(53, .Trust, 55)]
def qwb : List (TypeId × List (Option TC)) := [(22,[some .i64]),(25,[some .Member]),(26,[some .Member]),(27,[some .Member]),(47,[some .Config]),(50,[some .i64, none]),(51,[some .i64, none]),(53,[some .Trust]),(54,[none, some .i64, some .Trust]),(55,[none, some .i64, some .Trust]),(58,[none, none, some .i64, some .Trust]),(59,[none, none, some .i64, some .Trust])]
def elemF : List (TypeId × TC × TypeId) → TypeId → Option TC
  | [], _ => none
  | (u, c, _) :: r, t => if u = t then some c else elemF r t
def sig : Sig := { TC := TC, Ty := Ty, enc := encT, cells := y1p, ofCells := qwq, agg := aggF, size := sizeF, elem := elemF qs0, lists := look1 [] qwb }
theorem qon (P : Program) : ∀ (tab : List (TypeId × TC × TypeId)), (tab.all fun p => q1z P p.1 == some p.2.2 && tyAgg P p.2.2 == some (aggF p.2.1) && q0o P p.2.2 == some (sizeF p.2.1)) = true → ∀ t c, elemF tab t = some c → ∃ e, q1z P t = some e ∧ tyAgg P e = some (aggF c) ∧ q0o P e = some (sizeF c)
  | [], _, _, _, h => by cases h
  | (u, d, e) :: r, ha, t, c, h => by
    simp only [List.all_cons, Bool.and_eq_true, beq_iff_eq] at ha
    simp only [elemF] at h
    split at h
    · rename_i hu; cases h; subst hu; exact ⟨e, ha.1.1.1, ha.1.1.2, ha.1.2⟩
    · exact qon P r ha.2 t c h
theorem qnt (x : Trust) : sig.enc .Trust x = (packT (S := sig) true (qb2 x)).toD := by
  cases x
  show q21 _ = _
  simp only [q21, q51]
  rfl
theorem sigOk : sig.Ok Tryz.prog where
  enc_eq := fun c x => by cases c <;> first | rfl | exact qnt x 
  of_eq := fun c cs x h => by
    have : sig.cells c x = cs := by
      cases c
      · exact y2z cs x h
      · exact of_b cs x h
      · exact qvm cs x h
      · exact y0k cs x h
      · exact qvj cs x h
      · exact qqn cs x h
      · exact qrh cs x h
      · exact qms cs x h
      · exact qsl cs x h
    rw [this]
  inj := fun c x y h => by
    cases c
    · exact qfu x y h
    · exact inj_b x y h
    · exact qv9 x y h
    · exact qvx x y h
    · exact qcd x y h
    · exact qmo x y h
    · exact qcx x y h
    · exact qkl x y h
    · exact qqt x y h
  len := fun c x => by cases c <;> rfl
  pos := fun c => by cases c <;> decide
  one := fun c h => by cases c <;> first | rfl | cases h
  elem := qon Tryz.prog qs0 (by kernel_rfl)
def y24 : List (Nat × List (OT sig)) := [(5,[.lf .b]),(3,[.lf .b]),(4,[.lf .b]),(21,[.lf .b]),(14,[.lf .b]),(6,[.ptr 0 0]),(7,[.ag .Config]),(22,[.ag .Config]),(8,[.lf (.l .i64), .lf (.i .i64)]),(9,[.lf (.l .i64), .lf (.i .i64)]),(10,[.lf (.l .i64), .lf (.i .i64)]),(11,[.lf .b]),(15,[.lf (.i .i64)]),(16,[.lf .b, .lf (.i .i64)]),(17,[.lf (.i .i64), .lf (.i .i64), .lf (.i .i64)]),(18,[.ag .Config]),(42,[.ag .Config]),(26,[.lf (.l .i64), .lf (.i .i64)]),(29,[.lf (.i .i64), .lf (.i .i64), .lf (.i .i64)]),(31,[.lf (.i .i64)]),(12,[.lf (.i .i64)]),(43,[.lf (.i .i64)]),(55,[.ag .Trust]),(35,[.lf (.i .i64)]),(36,[.lf (.l .i64)]),(38,[.lf (.i .i64)]),(40,[.lf (.l .i64)]),(39,[.lf (.l .i64)]),(41,[.lf (.i .i64)]),(45,[.lf .b]),(47,[.ag .Config]),(46,[.lf (.i .i64), .lf (.i .i64), .lf (.i .i64)]),(48,[.lf .b]),(60,[.lf (.i .i64)]),(61,[.lf (.i .i64)]),(67,[.lf (.i .i64)]),(66,[.lf (.l .i64)]),(73,[.lf .b, .lf (.i .i64)]),(74,[.lf (.i .i64), .lf (.i .i64)]),(80,[.lf (.i .i64)]),(89,[.lf .b]),(106,[.lf (.i .i64)]),(112,[.lf .b]),(124,[.lf (.i .i64)]),(19,[.lf .b]),(20,[.lf (.i .i64)]),(44,[.lf (.i .i64)]),(51,[.lf (.l .i64)]),(53,[.lf (.l .i64)]),(54,[.lf (.i .i64)]),(32,[.ag .Trust]),(33,[.ag .Trust]),(34,[.ag .Trust]),(63,[.ag .Trust]),(64,[.lf (.i .i64)]),(82,[.lf (.l .i64)]),(83,[.lf (.i .i64)]),(84,[.lf (.i .i64)]),(85,[.lf (.i .i64)]),(49,[.lf .b]),(50,[.ag .Trust]),(78,[.ag .Trust]),(65,[.lf (.i .i64)]),(86,[.lf .b]),(87,[.lf (.i .i64)]),(88,[.lf (.i .i64)]),(108,[.lf (.i .i64)]),(109,[.lf (.i .i64)]),(110,[.lf (.i .i64)]),(95,[.lf .b]),(126,[.lf (.i .i64), .lf (.i .i64)]),(118,[.lf (.i .i64)]),(37,[.lf .b]),(68,[.lf (.l .i64)]),(69,[.lf (.i .i64)]),(93,[.ref 0]),(92,[.ref 0]),(90,[]),(97,[.lf (.i .i64), .lf (.l .i64)]),(114,[.lf (.i .i64)]),(113,[]),(119,[.lf (.i .i64)]),(136,[.lf (.i .i64)]),(70,[.lf .b]),(71,[.lf (.i .i64)]),(98,[.lf .b]),(75,[.lf .b]),(76,[.ag .Trust]),(77,[.ag .Trust]),(102,[.ag .Trust]),(100,[.lf .b]),(99,[.lf (.i .i64), .lf .b]),(101,[.lf (.i .i64)]),(121,[.lf .b]),(120,[.lf (.i .i64), .lf .b]),(138,[.lf (.l .i64)]),(23,[.lf .b, .lf (.i .i64)]),(13,[.lf .b, .lf (.i .i64)]),(24,[.lf .b, .lf (.i .i64)]),(25,[.lf (.i .i64), .lf (.i .i64), .lf (.i .i64)]),(27,[.lf (.l .i64), .lf (.i .i64)]),(28,[.lf (.l .i64), .lf (.i .i64)]),(30,[.lf (.i .i64), .lf (.i .i64), .lf (.i .i64)]),(56,[.lf (.i .i64)]),(57,[.lf .b, .lf (.i .i64)]),(58,[.lf (.i .i64)]),(59,[.lf (.i .i64), .lf (.i .i64), .lf (.i .i64)]),(62,[.lf (.i .i64)]),(79,[.lf (.i .i64), .lf (.i .i64)]),(105,[.lf (.i .i64)]),(104,[.lf (.l .i64)]),(52,[.lf .b]),(107,[.lf (.i .i64), .lf (.i .i64)]),(103,[.lf (.i .i64)]),(111,[.lf .b]),(125,[.lf .b]),(94,[.lf .b]),(127,[]),(128,[]),(129,[]),(130,[.lf (.i .i64), .lf (.i .i64)]),(131,[]),(132,[.lf .b]),(91,[.lf (.i .i64)]),(133,[.lf (.i .i64)]),(134,[.lf (.i .i64), .lf .b]),(141,[.lf (.i .u64)]),(143,[.lf (.i .i64)]),(144,[.lf (.i .i64)]),(117,[.lf (.i .i64)]),(116,[.lf (.i .i64)]),(115,[.lf (.i .i64)]),(146,[.lf (.i .i64), .lf (.i .i64)]),(137,[.lf .b]),(122,[.lf (.i .i64)]),(139,[.lf .b]),(145,[.lf .b]),(81,[.lf (.i .i64)]),(96,[.lf .b]),(140,[]),(142,[.lf (.i .u64)]),(72,[.lf (.i .i64)])]
def y0f : List (Nat × List (List (OT sig))) := [(6,[[.lf (.l .i64), .lf (.i .i64)]]),(93,[[.own .i64 false]])]
noncomputable def tn : TEn := { E := env, S := sig, res := look1 [] y24, news := look1 [] y0f, cut := fun _ _ => false }
def q06 (fn : Func) : Code := match fn.body with | some c => c | none => .skip
def q03 (fn : Func) (p : List Nat) : Code := qfm p (q06 fn)
def q0b (fn : Func) (p ms : List Nat) : List Fr := qev p (q06 fn) ms []
end Go.Proofs.YtfjcndlhpfbcgaaGreat
