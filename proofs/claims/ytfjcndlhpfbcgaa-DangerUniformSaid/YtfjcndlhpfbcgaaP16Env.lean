/- The seat's program for the machines. -/
import Derived.Test.YtfjcndlhpfbcgaaP16An
import Derived.Test.YtfjcndlhpfbcgaaChecked
namespace Go.Proofs.Ytfjcndlhpfbcgaa
open Go Go.Ab
def look1 {α : Type} (d : α) : List (Nat × α) → Nat → α
  | [], _ => d
  | (k, v) :: r, t => if k = t then v else look1 d r t
def an : An := { flag := fun f t => if (look1 [] anKeep f).contains t then .keep else .view, clear := fun f => look1 [] (look1 [] anClear f), mode := fun f => look1 0 (look1 [] anMode f), order := fun f => look1 [] (look1 [] anOrder f), own := fun f => anOwn.contains f }
def lastF : Nat := 105
def badF : List Nat := []
def okF (h : Nat) : Bool := decide (2 ≤ h ∧ h ≤ lastF) && !badF.contains h
noncomputable def env : Env0 := { P := Try.prog, glob := fun _ => none, an := an, ok := okF }
structure Trust where
  Threshold : Int
  Nodes : List (Int)
  Inner : List (Trust)
structure Tape where
  l : List (Int)
  at_ : Int
structure Member where
  Declared : Bool
  Trust : Trust
structure Config where
  Members : List (Member)
inductive TC where
  | i64 | l_i64 | b | Trust | l_Trust | Tape | Member | l_Member | Config
  deriving DecidableEq
def Ty : TC → Type
  | .i64 => Int
  | .l_i64 => List (Int)
  | .b => Bool
  | .Trust => Trust
  | .l_Trust => List (Trust)
  | .Tape => Tape
  | .Member => Member
  | .l_Member => List (Member)
  | .Config => Config
abbrev Lv := Leaf TC Ty
def asL (c : TC) : Lv → Option (List (Ty c))
  | .l c' xs => if h : c' = c then some (h ▸ xs) else none
  | _ => none
theorem asL_eq {c : TC} {x : Lv} {xs : List (Ty c)} (h : asL c x = some xs) : x = .l c xs := by
  cases x with
  | l c' ys =>
    simp only [asL] at h
    split at h
    · rename_i hc
      subst hc
      cases h; rfl
    · cases h
  | _ => cases h
def enc_i64 (x : Int) : D := .v (.int .i64 x)
theorem inj_i64 (x y : Int) (h : enc_i64 x = enc_i64 y) : x = y := inj_int h
def cells_i64 (x : Int) : List Lv := [.i .i64 x]
def ofCells_i64 : List Lv → Option (Int)
  | [.i .i64 x] => some x
  | _ => none
theorem of_i64 (cs : List Lv) (x : Int) (h : ofCells_i64 cs = some x) : cells_i64 x = cs := by
  unfold ofCells_i64 at h
  split at h
  · cases h; rfl
  · cases h
def enc_l_i64 (x : List (Int)) : D := .list (x.map enc_i64)
theorem inj_l_i64 (x y : List (Int)) (h : enc_l_i64 x = enc_l_i64 y) : x = y := inj_list inj_i64 h
def cells_l_i64 (x : List (Int)) : List Lv := [.l .i64 x]
def ofCells_l_i64 : List Lv → Option (List (Int))
  | [x] => asL .i64 x
  | _ => none
theorem of_l_i64 : ∀ (cs : List Lv) (x : List (Int)), ofCells_l_i64 cs = some x → cells_l_i64 x = cs
  | [y], x, h => by rw [asL_eq (c := .i64) (x := y) (xs := x) h]; rfl
  | [], x, h => by
    have h' : (none : Option (List (Int))) = some x := h
    cases h'
  | _ :: _ :: _, x, h => by
    have h' : (none : Option (List (Int))) = some x := h
    cases h'
def enc_b (x : Bool) : D := .v (.bool x)
theorem inj_b (x y : Bool) (h : enc_b x = enc_b y) : x = y := inj_bool h
def cells_b (x : Bool) : List Lv := [.b x]
def ofCells_b : List Lv → Option (Bool)
  | [.b x] => some x
  | _ => none
theorem of_b (cs : List Lv) (x : Bool) (h : ofCells_b cs = some x) : cells_b x = cs := by
  unfold ofCells_b at h
  split at h
  · cases h; rfl
  · cases h
mutual
def enc_Trust : Trust → D
  | ⟨a0, a1, a2⟩ => .agg [.v (.int .i64 a0), .list ((a1).map enc_i64), .list (encs_Trust a2)]
def encs_Trust : List Trust → List D
  | [] => []
  | x :: r => enc_Trust x :: encs_Trust r
end
theorem encs_Trust_eq : ∀ l : List Trust, encs_Trust l = l.map enc_Trust
  | [] => rfl
  | x :: r => by simp only [encs_Trust, encs_Trust_eq r, List.map_cons]
mutual
theorem inj_Trust : ∀ x y : Trust, enc_Trust x = enc_Trust y → x = y
  | ⟨a0, a1, a2⟩, ⟨b0, b1, b2⟩, h => by
    simp only [enc_Trust, D.agg.injEq, List.cons.injEq, and_true] at h
    obtain ⟨h0, h1, h2⟩ := h
    have e0 : a0 = b0 := inj_int h0
    have e1 : a1 = b1 := inj_list inj_i64 h1
    have e2 : a2 = b2 := injs_Trust _ _ (D.list.inj h2)
    rw [e0, e1, e2]
theorem injs_Trust : ∀ x y : List Trust, encs_Trust x = encs_Trust y → x = y
  | [], [], _ => rfl
  | [], _ :: _, h => by simp [encs_Trust] at h
  | _ :: _, [], h => by simp [encs_Trust] at h
  | x :: r, y :: r', h => by
    simp only [encs_Trust, List.cons.injEq] at h
    rw [inj_Trust x y h.1, injs_Trust r r' h.2]
end
def cells_Trust (x : Trust) : List Lv := [.i .i64 x.Threshold, .l .i64 x.Nodes, .l .Trust x.Inner]
def ofCells_Trust : List Lv → Option Trust
  | [.i .i64 a0, l1, l2] => match asL .i64 l1, asL .Trust l2 with
    | some m1, some m2 => some (Trust.mk a0 m1 m2)
    | _, _ => none
  | _ => none
theorem of_Trust (cs : List Lv) (x : Trust) (h : ofCells_Trust cs = some x) : cells_Trust x = cs := by
  unfold ofCells_Trust at h
  split at h
  · split at h
    · rename_i m1 m2 h1 h2
      cases asL_eq h1
      cases asL_eq h2
      cases h; rfl
    · cases h
  · cases h
def enc_l_Trust (x : List (Trust)) : D := .list (x.map enc_Trust)
theorem inj_l_Trust (x y : List (Trust)) (h : enc_l_Trust x = enc_l_Trust y) : x = y := inj_list inj_Trust h
def cells_l_Trust (x : List (Trust)) : List Lv := [.l .Trust x]
def ofCells_l_Trust : List Lv → Option (List (Trust))
  | [x] => asL .Trust x
  | _ => none
theorem of_l_Trust : ∀ (cs : List Lv) (x : List (Trust)), ofCells_l_Trust cs = some x → cells_l_Trust x = cs
  | [y], x, h => by rw [asL_eq (c := .Trust) (x := y) (xs := x) h]; rfl
  | [], x, h => by
    have h' : (none : Option (List (Trust))) = some x := h
    cases h'
  | _ :: _ :: _, x, h => by
    have h' : (none : Option (List (Trust))) = some x := h
    cases h'
def enc_Tape (x : Tape) : D := .agg [.list (((x.l)).map enc_i64), .v (.int .i64 (x.at_))]
theorem inj_Tape : ∀ x y : Tape, enc_Tape x = enc_Tape y → x = y
  | ⟨a0, a1⟩, ⟨b0, b1⟩, h => by
    simp only [enc_Tape, D.agg.injEq, List.cons.injEq, and_true] at h
    obtain ⟨h0, h1⟩ := h
    have e0 : a0 = b0 := inj_list inj_i64 h0
    have e1 : a1 = b1 := inj_int h1
    rw [e0, e1]
def cells_Tape (x : Tape) : List Lv := [.l .i64 x.l, .i .i64 x.at_]
def ofCells_Tape : List Lv → Option Tape
  | [l0, .i .i64 a1] => match asL .i64 l0 with
    | some m0 => some (Tape.mk m0 a1)
    | _ => none
  | _ => none
theorem of_Tape (cs : List Lv) (x : Tape) (h : ofCells_Tape cs = some x) : cells_Tape x = cs := by
  unfold ofCells_Tape at h
  split at h
  · split at h
    · rename_i m0 h0
      cases asL_eq h0
      cases h; rfl
    · cases h
  · cases h
def enc_Member (x : Member) : D := .agg [.v (.bool (x.Declared)), .v (.int .i64 (x.Trust.Threshold)), .list (((x.Trust.Nodes)).map enc_i64), .list (((x.Trust.Inner)).map enc_Trust)]
theorem inj_Member : ∀ x y : Member, enc_Member x = enc_Member y → x = y
  | ⟨a0, ⟨a1, a2, a3⟩⟩, ⟨b0, ⟨b1, b2, b3⟩⟩, h => by
    simp only [enc_Member, D.agg.injEq, List.cons.injEq, and_true] at h
    obtain ⟨h0, h1, h2, h3⟩ := h
    have e0 : a0 = b0 := inj_bool h0
    have e1 : a1 = b1 := inj_int h1
    have e2 : a2 = b2 := inj_list inj_i64 h2
    have e3 : a3 = b3 := inj_list inj_Trust h3
    rw [e0, e1, e2, e3]
def cells_Member (x : Member) : List Lv := [.b x.Declared, .i .i64 x.Trust.Threshold, .l .i64 x.Trust.Nodes, .l .Trust x.Trust.Inner]
def ofCells_Member : List Lv → Option Member
  | [.b a0, .i .i64 a1, l2, l3] => match asL .i64 l2, asL .Trust l3 with
    | some m2, some m3 => some (Member.mk a0 (Trust.mk a1 m2 m3))
    | _, _ => none
  | _ => none
theorem of_Member (cs : List Lv) (x : Member) (h : ofCells_Member cs = some x) : cells_Member x = cs := by
  unfold ofCells_Member at h
  split at h
  · split at h
    · rename_i m2 m3 h2 h3
      cases asL_eq h2
      cases asL_eq h3
      cases h; rfl
    · cases h
  · cases h
def enc_l_Member (x : List (Member)) : D := .list (x.map enc_Member)
theorem inj_l_Member (x y : List (Member)) (h : enc_l_Member x = enc_l_Member y) : x = y := inj_list inj_Member h
def cells_l_Member (x : List (Member)) : List Lv := [.l .Member x]
def ofCells_l_Member : List Lv → Option (List (Member))
  | [x] => asL .Member x
  | _ => none
theorem of_l_Member : ∀ (cs : List Lv) (x : List (Member)), ofCells_l_Member cs = some x → cells_l_Member x = cs
  | [y], x, h => by rw [asL_eq (c := .Member) (x := y) (xs := x) h]; rfl
  | [], x, h => by
    have h' : (none : Option (List (Member))) = some x := h
    cases h'
  | _ :: _ :: _, x, h => by
    have h' : (none : Option (List (Member))) = some x := h
    cases h'
def enc_Config (x : Config) : D := .agg [.list (((x.Members)).map enc_Member)]
theorem inj_Config : ∀ x y : Config, enc_Config x = enc_Config y → x = y
  | ⟨a0⟩, ⟨b0⟩, h => by
    simp only [enc_Config, D.agg.injEq, List.cons.injEq, and_true] at h
    have h0 := h
    have e0 : a0 = b0 := inj_list inj_Member h0
    rw [e0]
def cells_Config (x : Config) : List Lv := [.l .Member x.Members]
def ofCells_Config : List Lv → Option Config
  | [l0] => match asL .Member l0 with
    | some m0 => some (Config.mk m0)
    | _ => none
  | _ => none
theorem of_Config (cs : List Lv) (x : Config) (h : ofCells_Config cs = some x) : cells_Config x = cs := by
  unfold ofCells_Config at h
  split at h
  · split at h
    · rename_i m0 h0
      cases asL_eq h0
      cases h; rfl
    · cases h
  · cases h
def encT : (c : TC) → Ty c → D
  | .i64 => enc_i64
  | .l_i64 => enc_l_i64
  | .b => enc_b
  | .Trust => enc_Trust
  | .l_Trust => enc_l_Trust
  | .Tape => enc_Tape
  | .Member => enc_Member
  | .l_Member => enc_l_Member
  | .Config => enc_Config
def cellsF : (c : TC) → Ty c → List Lv
  | .i64 => cells_i64
  | .l_i64 => cells_l_i64
  | .b => cells_b
  | .Trust => cells_Trust
  | .l_Trust => cells_l_Trust
  | .Tape => cells_Tape
  | .Member => cells_Member
  | .l_Member => cells_l_Member
  | .Config => cells_Config
def ofCellsF : (c : TC) → List Lv → Option (Ty c)
  | .i64 => ofCells_i64
  | .l_i64 => ofCells_l_i64
  | .b => ofCells_b
  | .Trust => ofCells_Trust
  | .l_Trust => ofCells_l_Trust
  | .Tape => ofCells_Tape
  | .Member => ofCells_Member
  | .l_Member => ofCells_l_Member
  | .Config => ofCells_Config
def aggF : TC → Bool
  | .i64 => false
  | .l_i64 => false
  | .b => false
  | .Trust => true
  | .l_Trust => false
  | .Tape => true
  | .Member => true
  | .l_Member => false
  | .Config => true
def sizeF : TC → Nat
  | .i64 => 1
  | .l_i64 => 1
  | .b => 1
  | .Trust => 3
  | .l_Trust => 1
  | .Tape => 2
  | .Member => 4
  | .l_Member => 1
  | .Config => 1
def elemTab : List (TypeId × TC × TypeId) := [(22, .Member, 46),(26, .i64,3),(42, .Trust, 44)]
def listsTab : List (TypeId × List (Option TC)) := [(22,[some .Member]),(23,[some .Member]),(24,[some .Member]),(26,[some .i64]),(42,[some .Trust]),(43,[none, some .i64, some .Trust]),(44,[none, some .i64, some .Trust]),(45,[none, none, some .i64, some .Trust]),(46,[none, none, some .i64, some .Trust]),(53,[some .i64, none]),(54,[some .i64, none])]
def elemF : List (TypeId × TC × TypeId) → TypeId → Option TC
  | [], _ => none
  | (u, c, _) :: r, t => if u = t then some c else elemF r t
def sig : Sig := { TC := TC, Ty := Ty, enc := encT, cells := cellsF, ofCells := ofCellsF, agg := aggF, size := sizeF, elem := elemF elemTab, lists := look1 [] listsTab }
theorem elem_law (P : Program) : ∀ (tab : List (TypeId × TC × TypeId)), (tab.all fun p => tyElem P p.1 == some p.2.2 && tyAgg P p.2.2 == some (aggF p.2.1) && tySize P p.2.2 == some (sizeF p.2.1)) = true → ∀ t c, elemF tab t = some c → ∃ e, tyElem P t = some e ∧ tyAgg P e = some (aggF c) ∧ tySize P e = some (sizeF c)
  | [], _, _, _, h => by cases h
  | (u, d, e) :: r, ha, t, c, h => by
    simp only [List.all_cons, Bool.and_eq_true, beq_iff_eq] at ha
    simp only [elemF] at h
    split at h
    · rename_i hu; cases h; subst hu; exact ⟨e, ha.1.1.1, ha.1.1.2, ha.1.2⟩
    · exact elem_law P r ha.2 t c h
theorem enceq_Trust (x : Trust) : sig.enc .Trust x = (packT (S := sig) true (cells_Trust x)).toD := by
  cases x
  show enc_Trust _ = _
  simp only [enc_Trust, encs_Trust_eq]
  rfl
theorem sigOk : sig.Ok Try.prog where
  enc_eq := fun c x => by cases c <;> first | rfl | exact enceq_Trust x 
  of_eq := fun c cs x h => by
    have : sig.cells c x = cs := by
      cases c
      · exact of_i64 cs x h
      · exact of_l_i64 cs x h
      · exact of_b cs x h
      · exact of_Trust cs x h
      · exact of_l_Trust cs x h
      · exact of_Tape cs x h
      · exact of_Member cs x h
      · exact of_l_Member cs x h
      · exact of_Config cs x h
    rw [this]
  inj := fun c x y h => by
    cases c
    · exact inj_i64 x y h
    · exact inj_l_i64 x y h
    · exact inj_b x y h
    · exact inj_Trust x y h
    · exact inj_l_Trust x y h
    · exact inj_Tape x y h
    · exact inj_Member x y h
    · exact inj_l_Member x y h
    · exact inj_Config x y h
  len := fun c x => by cases c <;> rfl
  pos := fun c => by cases c <;> decide
  one := fun c h => by cases c <;> first | rfl | cases h
  elem := elem_law Try.prog elemTab (by kernel_rfl)
def resTab : List (Nat × List (OT sig)) := [(4,[.lf .b]),(3,[.lf .b]),(11,[.ptr 0 0]),(12,[.ag .Config]),(6,[.lf (.l .i64), .lf (.i .i64)]),(5,[.ag .Config]),(7,[.lf (.l .i64), .lf (.i .i64)]),(8,[.lf (.i .i64), .lf (.i .i64), .lf (.i .i64)]),(23,[.lf (.i .i64)]),(24,[.lf (.i .i64)]),(15,[.lf (.i .i64)]),(16,[.lf (.l .i64)]),(18,[.lf (.i .i64)]),(20,[.lf (.i .i64)]),(30,[.lf (.i .i64)]),(29,[.lf (.l .i64)]),(36,[.lf (.i .i64)]),(40,[.lf .b]),(56,[.lf (.i .i64)]),(61,[.lf .b]),(79,[.lf (.i .i64)]),(13,[.lf .b, .lf (.i .i64)]),(10,[.lf .b]),(28,[.lf (.i .i64)]),(17,[.lf .b]),(22,[.lf .b]),(33,[.ag .Config]),(32,[.lf .b, .lf (.i .i64)]),(48,[.lf (.i .i64), .lf (.i .i64)]),(9,[.lf (.i .i64)]),(25,[.ag .Trust]),(26,[.ag .Trust]),(27,[.ag .Trust]),(37,[.ag .Trust]),(38,[.lf (.i .i64)]),(57,[.lf (.l .i64)]),(58,[.lf (.i .i64)]),(59,[.lf (.i .i64)]),(60,[.lf (.i .i64)]),(31,[.lf (.l .i64)]),(44,[.ref 0]),(43,[.ref 0]),(41,[]),(67,[.lf (.i .i64)]),(63,[.lf (.i .i64)]),(62,[]),(90,[.lf (.i .i64)]),(34,[.lf (.i .i64)]),(52,[.lf .b]),(53,[.lf (.i .i64)]),(54,[.lf (.i .i64)]),(72,[.lf (.i .i64)]),(73,[.lf (.i .i64)]),(74,[.lf (.i .i64)]),(46,[.lf .b]),(95,[.lf (.i .i64), .lf (.i .i64)]),(19,[.lf .b]),(35,[.lf (.i .i64)]),(55,[.lf (.i .i64), .lf (.l .i64)]),(76,[.lf (.i .i64)]),(14,[.lf .b]),(49,[.lf .b]),(50,[.ag .Trust]),(51,[.ag .Trust]),(71,[.ag .Trust]),(69,[.lf .b]),(68,[.lf (.i .i64), .lf .b]),(70,[.lf (.i .i64)]),(92,[.lf .b]),(77,[.lf (.i .i64), .lf .b]),(96,[.lf (.l .i64)]),(21,[.lf .b]),(39,[.lf (.i .i64)]),(80,[.lf (.i .i64), .lf (.i .i64)]),(45,[.lf .b]),(81,[]),(82,[]),(83,[]),(84,[.lf (.i .i64), .lf (.i .i64)]),(85,[]),(86,[.lf .b]),(42,[.lf (.i .i64)]),(87,[.lf (.i .i64)]),(88,[.lf (.i .i64), .lf .b]),(100,[.lf (.i .u64)]),(102,[.lf (.i .i64)]),(103,[.lf (.i .i64)]),(66,[.lf (.i .i64)]),(65,[.lf (.i .i64)]),(64,[.lf (.i .i64)]),(105,[.lf (.i .i64), .lf (.i .i64)]),(91,[.lf .b]),(75,[.lf .b]),(94,[.lf .b]),(93,[.lf (.i .i64)]),(97,[.lf .b]),(104,[.lf .b]),(98,[.lf .b]),(47,[.lf .b]),(99,[]),(101,[.lf (.i .u64)])]
def newsTab : List (Nat × List (List (OT sig))) := [(11,[[.lf (.l .i64), .lf (.i .i64)]]),(44,[[.own .i64 false]])]
noncomputable def tn : TEn := { E := env, S := sig, res := look1 [] resTab, news := look1 [] newsTab, cut := fun _ _ => false }
def bodyOf (fn : Func) : Code := match fn.body with | some c => c | none => .skip
def codeAt (fn : Func) (p : List Nat) : Code := codeIn p (bodyOf fn)
def kontAt (fn : Func) (p ms : List Nat) : List Fr := kontIn p (bodyOf fn) ms []
end Go.Proofs.Ytfjcndlhpfbcgaa
