/- The seat's program for the machines. -/
import Derived.Test.YtkeiaodiibageaaDoorE08An
import Derived.Test.YtkeiaodiibageaaDoorMachT
import Derived.Test.YtkeiaodiibageaaDoorChecked
namespace Go.Proofs.YtkeiaodiibageaaDoor
open Go Go.Ab
def look1 {α : Type} (d : α) : List (Nat × α) → Nat → α
 | [], _ => d
 | (k, v) :: r, t => if k = t then v else look1 d r t
def an : An := { flag := fun f t => if (look1 [] qvk f).contains t then .keep else .view, clear := fun f => look1 [] (look1 [] qug f), mode := fun f => look1 0 (look1 [] quy f), order := fun f => look1 [] (look1 [] quw f), own := fun f => anOwn.contains f }
def lastF : Nat := 124
def badF : List Nat := [2,48,53,62,67,68,69,70,79,81,82,83,84,85,88,89,90,91,93,94,96,97,98,100,101,102,103,104,105,106,107,108,109,110,111,112,113,114,115,116,117,118,119,120,121,122,123,124]
def okF (h : Nat) : Bool := decide (2 ≤ h ∧ h ≤ lastF) && !badF.contains h
noncomputable def qr1 : List (Nat × Option (List AV → Heap → Option (AV × Heap))) := [(33, some q6n),(37, some q6n),(50, some (q5s 6)),(56, some qb9),(77, some qbg)]
noncomputable def env : Env0 := { P := Tryd.prog, glob := fun _ => none, an := an, ok := okF, lib := look1 none qr1 }
structure Trust where
 Threshold : Int
 Nodes : List (Int)
 Inner : List (Trust)
structure Tape where
 l : List (Int)
 at_ : Int
structure Declaration where
 Node : Int
 Seq : Int
 Trust : Trust
 Tag : Int
structure Evidence where
 A : Declaration
 B : Declaration
structure Registry where
 Entries : List (List (Declaration))
inductive TC where
 | i64 | l_i64 | u64 | Trust | l_Trust | s | Tape | Declaration | l_Declaration | l_l_Declaration | Evidence | Registry
 deriving DecidableEq
def Ty : TC → Type
 | .i64 => Int
 | .l_i64 => List (Int)
 | .u64 => Int
 | .Trust => Trust
 | .l_Trust => List (Trust)
 | .s => List UInt8
 | .Tape => Tape
 | .Declaration => Declaration
 | .l_Declaration => List (Declaration)
 | .l_l_Declaration => List (List (Declaration))
 | .Evidence => Evidence
 | .Registry => Registry
abbrev Lv := Leaf TC Ty
def asL (c : TC) : Lv → Option (List (Ty c))
 | .l c' xs => if h : c' = c then some (h ▸ xs) else none
 | _ => none
theorem q51 {c : TC} {x : Lv} {xs : List (Ty c)} (h : asL c x = some xs) : x = .l c xs := by
 cases x with
 | l c' ys =>
  simp only [asL] at h;split at h
  ·rename_i hc;subst hc;cases h; rfl
  ·cases h
 | _ => cases h
def q6i (x : Int) : D := .v (.int .i64 x)
theorem q98 (x y : Int) (h : q6i x = q6i y) : x = y := q2q h
def qiy (x : Int) : List Lv := [.i .i64 x]
def q92 : List Lv → Option (Int)
 | [.i .i64 x] => some x
 | _ => none
theorem qwx (cs : List Lv) (x : Int) (h : q92 cs = some x) : qiy x = cs := by
 unfold q92 at h;split at h
 ·cases h; rfl
 ·cases h
def qef (x : List (Int)) : D := .list (x.map q6i)
theorem qpk (x y : List (Int)) (h : qef x = qef y) : x = y := q2j q98 h
def qeb (x : List (Int)) : List Lv := [.l .i64 x]
def q9h : List Lv → Option (List (Int))
 | [x] => asL .i64 x
 | _ => none
theorem qrw : ∀ (cs : List Lv) (x : List (Int)), q9h cs = some x → qeb x = cs
 | [y], x, h => by rw [q51 (c := .i64) (x := y) (xs := x) h]; rfl
 | [], x, h => by
  have h' : (none : Option (List (Int))) = some x := h;cases h'
 | _ :: _ :: _, x, h => by
  have h' : (none : Option (List (Int))) = some x := h;cases h'
def qkt (x : Int) : D := .v (.int .u64 x)
theorem qud (x y : Int) (h : qkt x = qkt y) : x = y := q2q h
def qjq (x : Int) : List Lv := [.i .u64 x]
def q9b : List Lv → Option (Int)
 | [.i .u64 x] => some x
 | _ => none
theorem qwh (cs : List Lv) (x : Int) (h : q9b cs = some x) : qjq x = cs := by
 unfold q9b at h;split at h
 ·cases h; rfl
 ·cases h
mutual
def q24 : Trust → D
 | ⟨a0, a1, a2⟩ => .agg [.v (.int .i64 a0), .list ((a1).map q6i), .list (q2h a2)]
def q2h : List Trust → List D
 | [] => []
 | x :: r => q24 x :: q2h r
end
theorem q9j : ∀ l : List Trust, q2h l = l.map q24
 | [] => rfl
 | x :: r => by simp only [q2h, q9j r, List.map_cons]
mutual
theorem q5o : ∀ x y : Trust, q24 x = q24 y → x = y
 | ⟨a0, a1, a2⟩, ⟨b0, b1, b2⟩, h => by
  simp only [q24, D.agg.injEq, List.cons.injEq, and_true] at h;obtain ⟨h0, h1, h2⟩ := h;have e0 : a0 = b0 := q2q h0;have e1 : a1 = b1 := q2j q98 h1;have e2 : a2 = b2 := qgg _ _ (D.list.inj h2);rw [e0, e1, e2]
theorem qgg : ∀ x y : List Trust, q2h x = q2h y → x = y
 | [], [], _ => rfl
 | [], _ :: _, h => by simp [q2h] at h
 | _ :: _, [], h => by simp [q2h] at h
 | x :: r, y :: r', h => by
  simp only [q2h, List.cons.injEq] at h;rw [q5o x y h.1, qgg r r' h.2]
end
def q94 (x : Trust) : List Lv := [.i .i64 x.Threshold, .l .i64 x.Nodes, .l .Trust x.Inner]
def q6k : List Lv → Option Trust
 | [.i .i64 a0, l1, l2] => match asL .i64 l1, asL .Trust l2 with
  | some m1, some m2 => some (Trust.mk a0 m1 m2)
  | _, _ => none
 | _ => none
theorem qr4 (cs : List Lv) (x : Trust) (h : q6k cs = some x) : q94 x = cs := by
 unfold q6k at h;split at h
 ·split at h
  ·rename_i m1 m2 h1 h2;cases q51 h1;cases q51 h2;cases h; rfl
  ·cases h
 ·cases h
def q8w (x : List (Trust)) : D := .list (x.map q24)
theorem ql1 (x y : List (Trust)) (h : q8w x = q8w y) : x = y := q2j q5o h
def qaf (x : List (Trust)) : List Lv := [.l .Trust x]
def q77 : List Lv → Option (List (Trust))
 | [x] => asL .Trust x
 | _ => none
theorem qno : ∀ (cs : List Lv) (x : List (Trust)), q77 cs = some x → qaf x = cs
 | [y], x, h => by rw [q51 (c := .Trust) (x := y) (xs := x) h]; rfl
 | [], x, h => by
  have h' : (none : Option (List (Trust))) = some x := h;cases h'
 | _ :: _ :: _, x, h => by
  have h' : (none : Option (List (Trust))) = some x := h;cases h'
def enc_s (x : List UInt8) : D := .v (.string ⟨⟨x⟩⟩)
theorem inj_s (x y : List UInt8) (h : enc_s x = enc_s y) : x = y := qus h
def qou (x : List UInt8) : List Lv := [.s x]
def qdt : List Lv → Option (List UInt8)
 | [.s x] => some x
 | _ => none
theorem of_s (cs : List Lv) (x : List UInt8) (h : qdt cs = some x) : qou x = cs := by
 unfold qdt at h;split at h
 ·cases h; rfl
 ·cases h
def qd0 (x : Tape) : D := .agg [.list (((x.l)).map q6i), .v (.int .i64 (x.at_))]
theorem qsf : ∀ x y : Tape, qd0 x = qd0 y → x = y
 | ⟨a0, a1⟩, ⟨b0, b1⟩, h => by
  simp only [qd0, D.agg.injEq, List.cons.injEq, and_true] at h;obtain ⟨h0, h1⟩ := h;have e0 : a0 = b0 := q2j q98 h0;have e1 : a1 = b1 := q2q h1;rw [e0, e1]
def qgf (x : Tape) : List Lv := [.l .i64 x.l, .i .i64 x.at_]
def q7g : List Lv → Option Tape
 | [l0, .i .i64 a1] => match asL .i64 l0 with
  | some m0 => some (Tape.mk m0 a1)
  | _ => none
 | _ => none
theorem qui (cs : List Lv) (x : Tape) (h : q7g cs = some x) : qgf x = cs := by
 unfold q7g at h;split at h
 ·split at h
  ·rename_i m0 h0;cases q51 h0;cases h; rfl
  ·cases h
 ·cases h
def q06 (x : Declaration) : D := .agg [.v (.int .i64 (x.Node)), .v (.int .i64 (x.Seq)), .v (.int .i64 (x.Trust.Threshold)), .list (((x.Trust.Nodes)).map q6i), .list (((x.Trust.Inner)).map q24), .v (.int .u64 (x.Tag))]
theorem q7a : ∀ x y : Declaration, q06 x = q06 y → x = y
 | ⟨a0, a1, ⟨a2, a3, a4⟩, a5⟩, ⟨b0, b1, ⟨b2, b3, b4⟩, b5⟩, h => by
  simp only [q06, D.agg.injEq, List.cons.injEq, and_true] at h;obtain ⟨h0, h1, h2, h3, h4, h5⟩ := h;have e0 : a0 = b0 := q2q h0;have e1 : a1 = b1 := q2q h1;have e2 : a2 = b2 := q2q h2;have e3 : a3 = b3 := q2j q98 h3;have e4 : a4 = b4 := q2j q5o h4;have e5 : a5 = b5 := q2q h5;rw [e0, e1, e2, e3, e4, e5]
def q5h (x : Declaration) : List Lv := [.i .i64 x.Node, .i .i64 x.Seq, .i .i64 x.Trust.Threshold, .l .i64 x.Trust.Nodes, .l .Trust x.Trust.Inner, .i .u64 x.Tag]
def q2w : List Lv → Option Declaration
 | [.i .i64 a0, .i .i64 a1, .i .i64 a2, l3, l4, .i .u64 a5] => match asL .i64 l3, asL .Trust l4 with
  | some m3, some m4 => some (Declaration.mk a0 a1 (Trust.mk a2 m3 m4) a5)
  | _, _ => none
 | _ => none
theorem qf4 (cs : List Lv) (x : Declaration) (h : q2w cs = some x) : q5h x = cs := by
 unfold q2w at h;split at h
 ·split at h
  ·rename_i m3 m4 h3 h4;cases q51 h3;cases q51 h4;cases h; rfl
  ·cases h
 ·cases h
def q1u (x : List (Declaration)) : D := .list (x.map q06)
theorem q3f (x y : List (Declaration)) (h : q1u x = q1u y) : x = y := q2j q7a h
def q4k (x : List (Declaration)) : List Lv := [.l .Declaration x]
def q3r : List Lv → Option (List (Declaration))
 | [x] => asL .Declaration x
 | _ => none
theorem qce : ∀ (cs : List Lv) (x : List (Declaration)), q3r cs = some x → q4k x = cs
 | [y], x, h => by rw [q51 (c := .Declaration) (x := y) (xs := x) h]; rfl
 | [], x, h => by
  have h' : (none : Option (List (Declaration))) = some x := h;cases h'
 | _ :: _ :: _, x, h => by
  have h' : (none : Option (List (Declaration))) = some x := h;cases h'
def q2v (x : List (List (Declaration))) : D := .list (x.map q1u)
theorem q9f (x y : List (List (Declaration))) (h : q2v x = q2v y) : x = y := q2j q3f h
def q3o (x : List (List (Declaration))) : List Lv := [.l .l_Declaration x]
def q31 : List Lv → Option (List (List (Declaration)))
 | [x] => asL .l_Declaration x
 | _ => none
theorem q9n : ∀ (cs : List Lv) (x : List (List (Declaration))), q31 cs = some x → q3o x = cs
 | [y], x, h => by rw [q51 (c := .l_Declaration) (x := y) (xs := x) h]; rfl
 | [], x, h => by
  have h' : (none : Option (List (List (Declaration)))) = some x := h;cases h'
 | _ :: _ :: _, x, h => by
  have h' : (none : Option (List (List (Declaration)))) = some x := h;cases h'
def q4y (x : Evidence) : D := .agg [.v (.int .i64 (x.A.Node)), .v (.int .i64 (x.A.Seq)), .v (.int .i64 (x.A.Trust.Threshold)), .list (((x.A.Trust.Nodes)).map q6i), .list (((x.A.Trust.Inner)).map q24), .v (.int .u64 (x.A.Tag)), .v (.int .i64 (x.B.Node)), .v (.int .i64 (x.B.Seq)), .v (.int .i64 (x.B.Trust.Threshold)), .list (((x.B.Trust.Nodes)).map q6i), .list (((x.B.Trust.Inner)).map q24), .v (.int .u64 (x.B.Tag))]
theorem qjt : ∀ x y : Evidence, q4y x = q4y y → x = y
 | ⟨⟨a0, a1, ⟨a2, a3, a4⟩, a5⟩, ⟨a6, a7, ⟨a8, a9, a10⟩, a11⟩⟩, ⟨⟨b0, b1, ⟨b2, b3, b4⟩, b5⟩, ⟨b6, b7, ⟨b8, b9, b10⟩, b11⟩⟩, h => by
  simp only [q4y, D.agg.injEq, List.cons.injEq, and_true] at h;obtain ⟨h0, h1, h2, h3, h4, h5, h6, h7, h8, h9, h10, h11⟩ := h;have e0 : a0 = b0 := q2q h0;have e1 : a1 = b1 := q2q h1;have e2 : a2 = b2 := q2q h2;have e3 : a3 = b3 := q2j q98 h3;have e4 : a4 = b4 := q2j q5o h4;have e5 : a5 = b5 := q2q h5;have e6 : a6 = b6 := q2q h6;have e7 : a7 = b7 := q2q h7;have e8 : a8 = b8 := q2q h8;have e9 : a9 = b9 := q2j q98 h9;have e10 : a10 = b10 := q2j q5o h10;have e11 : a11 = b11 := q2q h11;rw [e0, e1, e2, e3, e4, e5, e6, e7, e8, e9, e10, e11]
def q8e (x : Evidence) : List Lv := [.i .i64 x.A.Node, .i .i64 x.A.Seq, .i .i64 x.A.Trust.Threshold, .l .i64 x.A.Trust.Nodes, .l .Trust x.A.Trust.Inner, .i .u64 x.A.Tag, .i .i64 x.B.Node, .i .i64 x.B.Seq, .i .i64 x.B.Trust.Threshold, .l .i64 x.B.Trust.Nodes, .l .Trust x.B.Trust.Inner, .i .u64 x.B.Tag]
def q3u : List Lv → Option Evidence
 | [.i .i64 a0, .i .i64 a1, .i .i64 a2, l3, l4, .i .u64 a5, .i .i64 a6, .i .i64 a7, .i .i64 a8, l9, l10, .i .u64 a11] => match asL .i64 l3, asL .Trust l4, asL .i64 l9, asL .Trust l10 with
  | some m3, some m4, some m9, some m10 => some (Evidence.mk (Declaration.mk a0 a1 (Trust.mk a2 m3 m4) a5) (Declaration.mk a6 a7 (Trust.mk a8 m9 m10) a11))
  | _, _, _, _ => none
 | _ => none
theorem qky (cs : List Lv) (x : Evidence) (h : q3u cs = some x) : q8e x = cs := by
 unfold q3u at h;split at h
 ·split at h
  ·rename_i m3 m4 m9 m10 h3 h4 h9 h10;cases q51 h3;cases q51 h4;cases q51 h9;cases q51 h10;cases h; rfl
  ·cases h
 ·cases h
def q52 (x : Registry) : D := .agg [.list (((x.Entries)).map q1u)]
theorem qje : ∀ x y : Registry, q52 x = q52 y → x = y
 | ⟨a0⟩, ⟨b0⟩, h => by
  simp only [q52, D.agg.injEq, List.cons.injEq, and_true] at h;have h0 := h;have e0 : a0 = b0 := q2j q3f h0;rw [e0]
def q8h (x : Registry) : List Lv := [.l .l_Declaration x.Entries]
def q40 : List Lv → Option Registry
 | [l0] => match asL .l_Declaration l0 with
  | some m0 => some (Registry.mk m0)
  | _ => none
 | _ => none
theorem qld (cs : List Lv) (x : Registry) (h : q40 cs = some x) : q8h x = cs := by
 unfold q40 at h;split at h
 ·split at h
  ·rename_i m0 h0;cases q51 h0;cases h; rfl
  ·cases h
 ·cases h
def encT : (c : TC) → Ty c → D
 | .i64 => q6i
 | .l_i64 => qef
 | .u64 => qkt
 | .Trust => q24
 | .l_Trust => q8w
 | .s => enc_s
 | .Tape => qd0
 | .Declaration => q06
 | .l_Declaration => q1u
 | .l_l_Declaration => q2v
 | .Evidence => q4y
 | .Registry => q52
def qvj : (c : TC) → Ty c → List Lv
 | .i64 => qiy
 | .l_i64 => qeb
 | .u64 => qjq
 | .Trust => q94
 | .l_Trust => qaf
 | .s => qou
 | .Tape => qgf
 | .Declaration => q5h
 | .l_Declaration => q4k
 | .l_l_Declaration => q3o
 | .Evidence => q8e
 | .Registry => q8h
def qrj : (c : TC) → List Lv → Option (Ty c)
 | .i64 => q92
 | .l_i64 => q9h
 | .u64 => q9b
 | .Trust => q6k
 | .l_Trust => q77
 | .s => qdt
 | .Tape => q7g
 | .Declaration => q2w
 | .l_Declaration => q3r
 | .l_l_Declaration => q31
 | .Evidence => q3u
 | .Registry => q40
def aggF : TC → Bool
 | .i64 => false
 | .l_i64 => false
 | .u64 => false
 | .Trust => true
 | .l_Trust => false
 | .s => false
 | .Tape => true
 | .Declaration => true
 | .l_Declaration => false
 | .l_l_Declaration => false
 | .Evidence => true
 | .Registry => true
def sizeF : TC → Nat
 | .i64 => 1
 | .l_i64 => 1
 | .u64 => 1
 | .Trust => 3
 | .l_Trust => 1
 | .s => 1
 | .Tape => 2
 | .Declaration => 6
 | .l_Declaration => 1
 | .l_l_Declaration => 1
 | .Evidence => 12
 | .Registry => 1
def qoa : List (TypeId × TC × TypeId) := [(22, .i64,3),(25, .u64,37),(28, .Declaration, 39),(30, .l_Declaration, 28),(34, .Trust, 36),(100, .s, 9)]
def qsb : List (TypeId × List (Option TC)) := [(22,[some .i64]),(25,[some .u64]),(28,[some .Declaration]),(30,[some .l_Declaration]),(31,[some .l_Declaration]),(32,[some .l_Declaration]),(34,[some .Trust]),(35,[none, some .i64, some .Trust]),(36,[none, some .i64, some .Trust]),(38,[none, none, none, some .i64, some .Trust, none]),(39,[none, none, none, some .i64, some .Trust, none]),(44,[none, none, none, some .i64, some .Trust, none, none, none, none, some .i64, some .Trust, none]),(45,[none, none, none, some .i64, some .Trust, none, none, none, none, some .i64, some .Trust, none]),(52,[some .i64, none]),(53,[some .i64, none]),(80,[none]),(100,[some .s]),(112,[none, none]),(113,[none, none])]
def elemF : List (TypeId × TC × TypeId) → TypeId → Option TC
 | [], _ => none
 | (u, c, _) :: r, t => if u = t then some c else elemF r t
def sig : Sig := { TC := TC, Ty := Ty, enc := encT, cells := qvj, ofCells := qrj, agg := aggF, size := sizeF, elem := elemF qoa, lists := look1 [] qsb }
theorem qm9 (P : Program) : ∀ (tab : List (TypeId × TC × TypeId)), (tab.all fun p => q1h P p.1 == some p.2.2 && tyAgg P p.2.2 == some (aggF p.2.1) && q07 P p.2.2 == some (sizeF p.2.1)) = true → ∀ t c, elemF tab t = some c → ∃ e, q1h P t = some e ∧ tyAgg P e = some (aggF c) ∧ q07 P e = some (sizeF c)
 | [], _, _, _, h => by cases h
 | (u, d, e) :: r, ha, t, c, h => by
  simp only [List.all_cons, aT, beq_iff_eq] at ha;simp only [elemF] at h;split at h
  ·rename_i hu; cases h; subst hu; exact ⟨e, ha.1.1.1, ha.1.1.2, ha.1.2⟩
  ·exact qm9 P r ha.2 t c h
theorem qkb (x : Trust) : sig.enc .Trust x = (packT (S := sig) true (q94 x)).toD := by
 cases x;show q24 _ = _;simp only [q24, q9j];rfl
theorem sigOk : sig.Ok Tryd.prog where
 enc_eq := fun c x => by cases c <;> first | rfl | exact qkb x
 of_eq := fun c cs x h => by
  have : sig.cells c x = cs := by
   cases c
   ·exact qwx cs x h
   ·exact qrw cs x h
   ·exact qwh cs x h
   ·exact qr4 cs x h
   ·exact qno cs x h
   ·exact of_s cs x h
   ·exact qui cs x h
   ·exact qf4 cs x h
   ·exact qce cs x h
   ·exact q9n cs x h
   ·exact qky cs x h
   ·exact qld cs x h
  rw [this]
 inj := fun c x y h => by
  cases c
  ·exact q98 x y h
  ·exact qpk x y h
  ·exact qud x y h
  ·exact q5o x y h
  ·exact ql1 x y h
  ·exact inj_s x y h
  ·exact qsf x y h
  ·exact q7a x y h
  ·exact q3f x y h
  ·exact q9f x y h
  ·exact qjt x y h
  ·exact qje x y h
 len := fun c x => by cases c <;> rfl
 pos := fun c => by cases c <;> decide
 one := fun c h => by cases c <;> first | rfl | cases h
 elem := qm9 Tryd.prog qoa (by kernel_rfl)
def qwz : List (Nat × List (OT sig)) := [(3,[.lf .b]),(4,[.ptr 0 0]),(6,[.lf (.i .i64)]),(5,[.lf (.l .u64)]),(7,[.lf (.l .Declaration)]),(8,[.ref 0, .ref 0]),(15,[.lf (.i .i64)]),(16,[.ag .Declaration]),(27,[.ag .Trust]),(25,[.ag .Declaration, .lf (.i .i64)]),(38,[.ag .Trust]),(39,[.lf (.i .i64)]),(40,[.lf (.i .i64)]),(28,[.lf (.i .i64)]),(17,[.lf .s]),(37,[.lf (.i .u64)]),(54,[.ag .Trust]),(41,[.lf (.i .i64)]),(29,[.lf .s]),(30,[.lf .s]),(64,[.lf (.l .i64)]),(55,[.lf (.i .i64)]),(42,[.lf .s]),(43,[.lf .s]),(56,[.lf .s]),(9,[.lf (.i .i64)]),(10,[.ag .Registry, .lf (.i .i64)]),(18,[.lf (.i .i64)]),(19,[.lf (.i .i64)]),(20,[.lf (.i .i64)]),(21,[.ag .Registry]),(32,[.lf (.i .i64)]),(34,[.lf .s]),(33,[.lf (.i .u64)]),(45,[.lf (.i .i64)]),(46,[.lf (.i .i64)]),(47,[.lf (.i .i64)]),(49,[.lf .s]),(60,[.lf (.i .i64)]),(61,[.lf .s]),(73,[.lf .b]),(76,[.lf (.i .i64), .lf (.i .i64)]),(86,[.lf (.i .i64)]),(11,[.ag .Evidence, .lf .b]),(12,[.lf (.i .i64)]),(13,[.lf (.i .i64)]),(14,[.lf .b]),(22,[.lf (.i .i64), .lf .b]),(23,[.lf (.l .Declaration)]),(24,[.lf (.i .i64)]),(65,[.lf (.i .i64)]),(66,[.lf (.i .i64), .lf (.i .i64)]),(31,[.lf (.i .i64)]),(35,[.lf (.l .Declaration)]),(50,[.ref 0]),(51,[]),(63,[]),(87,[.lf .b]),(95,[.lf .b]),(99,[.lf .b]),(74,[.lf .b]),(75,[.lf .b]),(26,[.lf (.l .Declaration)]),(36,[.ag .Trust]),(52,[.ref 0]),(80,[.lf .b]),(92,[.lf .b]),(44,[.lf (.i .i64)]),(58,[.lf (.i .i64)]),(59,[.lf (.i .i64)]),(57,[.lf (.i .i64)]),(71,[.lf .b]),(72,[.lf .b]),(78,[]),(77,[.lf .s])]
def qu5 : List (Nat × List (List (OT sig))) := [(4,[[.lf (.l .i64), .lf (.i .i64)]]),(8,[[.own .l_Declaration false]]),(50,[[.own .Declaration false]]),(52,[[.own .i64 false]])]
noncomputable def tn : TEn := { E := env, S := sig, res := look1 [] qwz, news := look1 [] qu5, outs := fun f => if List.contains [] f then some [[.undef]] else none, cut := fun _ _ => false }
def qfw (fn : Func) : Code := match fn.body with | some c => c | none => .skip
def q0v (fn : Func) (p : List Nat) : Code := qe9 p (qfw fn)
def qw2 (fn : Func) (p ms : List Nat) : List Fr := qe3 p (qfw fn) ms []
abbrev o0' : OSpec sig := ⟨[.lf (.i .i64)],[]⟩
abbrev o1' : OSpec sig := ⟨[.lf .b],[]⟩
abbrev o2' : OSpec sig := ⟨[.lf .s],[]⟩
abbrev o3' : OSpec sig := ⟨[],[[.own .Declaration false]]⟩
abbrev o4' : OSpec sig := ⟨[.lf (.l .Declaration)],[]⟩
abbrev o5' : OSpec sig := ⟨[.ag .Trust],[[.lf (.l .i64), .lf (.i .i64)]]⟩
abbrev o6' : OSpec sig := ⟨[.lf (.i .i64), .lf (.i .i64)],[]⟩
abbrev o7' : OSpec sig := ⟨[.lf (.i .i64)],[[.lf (.l .i64), .lf (.i .i64)]]⟩
abbrev o8' : OSpec sig := ⟨[.lf (.l .i64)],[[.lf (.l .i64), .lf (.i .i64)]]⟩
abbrev o9' : OSpec sig := ⟨[.lf (.l .u64)],[[.lf (.l .i64), .lf (.i .i64)]]⟩
abbrev o10' : OSpec sig := ⟨[.lf (.l .Declaration)],[[.lf (.l .i64), .lf (.i .i64)]]⟩
abbrev o11' : OSpec sig := ⟨[.ag .Registry],[]⟩
abbrev o12' : OSpec sig := ⟨[.lf (.i .i64), .lf .b],[]⟩
abbrev o13' : OSpec sig := ⟨[.ag .Trust],[]⟩
abbrev o14' : OSpec sig := ⟨[.ptr 0 0],[[.lf (.l .i64), .lf (.i .i64)]]⟩
abbrev o15' : OSpec sig := ⟨[.ref 0, .ref 0],[[.own .l_Declaration false]]⟩
abbrev o16' : OSpec sig := ⟨[.ag .Declaration],[[.lf (.l .i64), .lf (.i .i64)]]⟩
abbrev o17' : OSpec sig := ⟨[.ag .Declaration, .lf (.i .i64)],[]⟩
abbrev o18' : OSpec sig := ⟨[.ag .Registry, .lf (.i .i64)],[]⟩
def eL {α : Type} (b a : Option α) : Prop := ∀ r, a = some r → b = some r
theorem cL {f : FuncId} {fn : Func} {vs : List (TL sig)} {hs : THeap sig} (o : OSpec sig) (hf : Tryd.prog.funcs[f]? = some fn) {p : Option o.Out} (hok : env.ok f = true := by kernel_rfl) (hb : fn.body = some (qfw fn) := by kernel_rfl) (hn0 : (decide (vs.length ≤ fn.ntmps) && (q53 Tryd.prog fn (qfw fn)).isNone && (env.seek f).isNone && (env.lib f).isNone) = true := by kernel_rfl) (h : te tn ⟨f, fn, hs.length⟩ o 100000 (qfw fn) [] ⟨bindT 0 vs, hs⟩ = p := by kernel_rfl) : eL (callC tn f vs hs o) p := qrv (T := tn) sigOk 100000 hok hf hb hn0 h
theorem gL {F : Fx} (o : OSpec sig) (b : Code) {c : Code} {K : List Fr} {s : TSt sig} {p : Option o.Out} (hc : c = .loop b := by kernel_rfl) (h : te tn F o 100000 b (.loop b s.heap.length :: K) s = p := by kernel_rfl) : eL (goC tn F o c K s) p := qnc (T := tn) sigOk 100000 hc h
end Go.Proofs.YtkeiaodiibageaaDoor
