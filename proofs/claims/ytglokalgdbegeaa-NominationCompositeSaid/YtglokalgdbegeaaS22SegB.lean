/- Laws of the printed functions. -/
import Derived.Test.YtglokalgdbegeaaS22SegA
import Derived.Test.YtglokalgdbegeaaRows
import Derived.ProofKit
import Derived.LaidMore
import Derived.OpenShut
import Derived.Stop.Joined
namespace Go.Proofs.Ytglokalgdbegeaa
open Go Go.Ab
theorem qen (l : List Val) (hl : l.length < 1152921504606846976) : ∀ (suf : List Val) (i : Nat) (o : Val), l.drop i = suf → z1d o l ((l.length : Nat) : Int) (i : Int) = some (compV o suf, !decide (compV o suf = []))
 | [], i, o, h => by
  apply qxd;rw [q0z h]; rfl
 | y :: suf, i, o, h => by
  have hlt := q0x h;have hd : compV o (y :: suf) = compV (if vvl y = true ∧ ltv o y then y else o) suf := rfl;apply qxd;rw [q0h h, cT, q0i h, qrj, bS, qed, bS, qz3, q01 (by omega), qen l hl suf (i + 1) y (q07 h), qen l hl suf (i + 1) o (q07 h), hd];cases hv : vvl y <;> by_cases hc : ltv o y <;> simp [hc]
theorem q5y (l : List Val) (hl : l.length < 1152921504606846976) : z1a l = some (compV [] l, !decide (compV [] l = [])) := qzx _ _ (qen l hl l 0 [] rfl)
structure TopV (l : List Val) (r : Val) : Prop where
 of : r = [] ∨ r ∈ l ∧ vvl r = true
 most : ∀ x ∈ l, vvl x = true → ¬ ltv r x
theorem q2z (l : List Val) : TopV l (compV [] l) := by
 obtain ⟨a, _, c⟩ := qbw l [];exact ⟨a, c⟩
theorem TopV.uniq {l m : List Val} {r s : Val} (hr : TopV l r) (hs : TopV m s) (h : ∀ x, vvl x = true → (x ∈ l ↔ x ∈ m)) : r = s := by
 rcases hr.of with e1 | ⟨e1, v1⟩ <;> rcases hs.of with e2 | ⟨e2, v2⟩
 ·rw [e1, e2]
 ·exact absurd (by rw [e1]; exact q9s v2) (hr.most s ((h s v2).2 e2) v2)
 ·exact absurd (by rw [e2]; exact q9s v1) (hs.most r ((h r v1).1 e1) v1)
 ·apply Classical.byContradiction;intro hne;exact hr.most s ((h s v2).2 e2) v2 (q5n hne (hs.most r ((h r v1).1 e1) v1))
theorem qs5 (a b : List Val) : compV [] (a ++ b) = compV [] [compV [] a, compV [] b] := by
 have ha := q2z a;have hb := q2z b;refine (q2z (a ++ b)).uniq (m := a ++ b) ?_ fun x _ => Iff.rfl
 have ht := q2z [compV [] a, compV [] b];refine ⟨?_, fun x hx hv => ?_⟩
 ·rcases ht.of with e | ⟨e, v⟩
  ·exact .inl e
  ·simp only [List.mem_cons, List.not_mem_nil, or_false] at e;rcases e with e | e
   ·rcases ha.of with g | g
    ·exact .inl (e.trans g)
    ·rw [e]; exact .inr ⟨by simp [g.1], g.2⟩
   ·rcases hb.of with g | g
    ·exact .inl (e.trans g)
    ·rw [e]; exact .inr ⟨by simp [g.1], g.2⟩
 ·have key : ∀ c : Val, c ∈ [compV [] a, compV [] b] → ¬ ltv c x → (c = [] ∨ vvl c = true) → ¬ ltv (compV [] [compV [] a, compV [] b]) x := fun c hc h1 h2 g => by
   rcases h2 with h2 | h2
   ·rw [h2] at h1; exact h1 (q9s hv)
   ·by_cases e : x = c
    ·subst e; exact ht.most x hc hv g
    ·exact ht.most c hc h2 (q2x g (q5n e h1))
  rcases List.mem_append.1 hx with hx | hx
  ·exact key _ (by simp) (ha.most x hx hv) (ha.of.imp id fun g => g.2)
  ·exact key _ (by simp) (hb.most x hx hv) (hb.of.imp id fun g => g.2)
theorem qt5 (a b : List Val) : compV [] (a ++ b) = [] ↔ compV [] a = [] ∧ compV [] b = [] := by
 have ha := q2z a;have hb := q2z b;have hab := q2z (a ++ b);constructor
 ·intro h;constructor
  ·rcases ha.of with e | ⟨e, v⟩
   ·exact e
   ·exact absurd (by rw [h]; exact q9s v) (hab.most _ (by simp [e]) v)
  ·rcases hb.of with e | ⟨e, v⟩
   ·exact e
   ·exact absurd (by rw [h]; exact q9s v) (hab.most _ (by simp [e]) v)
 ·rintro ⟨h1, h2⟩;rcases hab.of with e | ⟨e, v⟩
  ·exact e
  ·rcases List.mem_append.1 e with e | e
   ·exact absurd (by rw [h1]; exact q9s v) (ha.most _ e v)
   ·exact absurd (by rw [h2]; exact q9s v) (hb.most _ e v)
theorem qj6 (b a : List Val) (i : Nat) (x : Val) (hb : b.length < 1152921504606846976) (hi : i < 1152921504606846976) (r : Bool) (hr : z2t b a ((a.length : Nat) : Int) ((i + 1 : Nat) : Int) = some r) : ∀ (suf : List Val) (k : Nat) (c : Bool), b.drop k = suf →
  z2u b x c a ((a.length : Nat) : Int) (i : Int) b ((b.length : Nat) : Int) (k : Int) = some ((c || decide (x ∈ suf)) && r)
 | [], k, c, h => by
  apply qxf;rw [q0z h, cF, q01 (by omega), hr];cases c <;> simp
 | y :: suf, k, c, h => by
  have hlt := q0x h;apply qxf;rw [q0h h, cT, q0i h, q01 (by omega), qj6 b a i x hb hi r hr suf (k + 1) _ (q07 h), qj6 b a i x hb hi r hr suf (k + 1) _ (q07 h)];unfold eqS;cases c
  ·by_cases e : x = y <;> simp [e]
  ·simp
theorem qpm (b a : List Val) (hb : b.length < 1152921504606846976) (ha : a.length < 1152921504606846976) : ∀ (suf : List Val) (i : Nat), a.drop i = suf → z2t b a ((a.length : Nat) : Int) (i : Int) = some (suf.all fun x => decide (x ∈ b))
 | [], i, h => by
  apply qx6;rw [q0z h]; rfl
 | y :: suf, i, h => by
  have hlt := q0x h;apply qx6;rw [q0h h, cT, q0i h, show (0 : Int) = ((0 : Nat) : Int) from rfl, qj6 b a i y hb (by omega) _ (qpm b a hb ha suf (i + 1) (q07 h)) b 0 false rfl];simp
theorem qvl (a b : List Val) (ha : a.length < 1152921504606846976) (hb : b.length < 1152921504606846976) : law22_kept a b = some (a.all fun x => decide (x ∈ b)) := law22_kept_le _ _ _ (qpm b a hb ha a 0 rfl)
def alone3 : Trust := ⟨1, [3], []⟩
theorem qq6 {slot round : Int} : leadR alone3 3 slot round = 3 := by
 have h := (qc9 (t := alone3) (v := 3) (by decide +kernel) slot round (by decide)).2;have hn := h.ngh;unfold nghB at hn;by_cases e : leadR alone3 3 slot round = 3
 ·exact e
 ·rw [decide_eq_false e, Bool.false_or] at hn;have : wgt (leadR alone3 3 slot round) alone3 = none := by
   rw [qs2];have : ([3] : List Int).contains (leadR alone3 3 slot round) = false := by simp [e]
   rw [show alone3.Nodes = [3] from rfl, this, show alone3.Inner = [] from rfl, wgts]; rfl
  rw [this] at hn; cases hn
def ownMe : Val := [109, 101]
theorem qnm : ∃ n, qol 3 0 alone3 ownMe = (n, 0) ∧ n.Candidates = [ownMe] := by
 have h1 : leadN (newN 3 0 alone3 ownMe) = [3] := by
  show (nodes (0 ||| bit (leadR alone3 3 0 1))).map Int.ofNat = _;rw [qq6]; decide +kernel
 refine ⟨q6z (leadN (newN 3 0 alone3 ownMe)) (newN 3 0 alone3 ownMe), ?_, ?_⟩
 ·have hv : verr alone3 = 0 := (q8j _).2 (by decide +kernel);rw [qol, if_neg (by decide), if_neg (by decide), if_neg (by rw [hv]; simp), if_neg (by decide)]
 ·rw [h1]; decide +kernel
theorem qyl : law22_awake = some true := by
 apply law22_awake_le;obtain ⟨n, h1, h2⟩ := qnm;have hs : z2w 3 0 ⟨1, [3], []⟩ [109, 101] = some (n, 0) := by
  rw [qq4 3 0 (q32 (t := ⟨1, [3], []⟩) (by decide +kernel)) [109, 101] (by decide), ← h1]; rfl
 have hc : z1a [[98], [97, 97], [97, 98]] = some ([97, 98], true) := by
  rw [q5y _ (by decide)];rw [show compV [] [[98], [97, 97], [97, 98]] = [97, 98] by decide +kernel]; rfl
 rw [hc, hs];simp only [bS, cT, h2];rw [show eqS [97, 98] [97, 98] = true from by decide];rfl
theorem qio (a b : List Val) : law22_NominationComposite a b = some true := by
 apply law22_NominationComposite_le;rw [qyl];simp only [bS];by_cases h1 : 40 < a.length
 ·rw [q08 (by omega)]; rfl
 ·by_cases h2 : 40 < b.length
  ·rw [q03 (by omega), q08 (by omega)]; rfl
  ·rw [q03 (by omega), q03 (by omega)];simp only [cF, List.nil_append, List.length_nil, Nat.zero_add];rw [q0n (by simp [q0e]; omega), q0n (by simp [q0e]; omega), q5y (a ++ b) (by simp; omega), bS, q0n (by simp [q0e]; omega), q0n (by simp [q0e]; omega), q5y (b ++ a) (by simp; omega), bS, q5y a (by omega), bS, q5y b (by omega), bS, q5y _ (by simp), bS];have e1 : compV [] (b ++ a) = compV [] (a ++ b) := (q2z _).uniq (q2z _) fun x _ => by simp [or_comm]
   have e2 := qs5 a b;have e3 := qt5 a b;have hk : law22_kept [compV [] (a ++ b)] (a ++ b) = some (decide (compV [] (a ++ b) ∈ a ++ b)) := by
    rw [qvl _ _ (by simp) (by simp; omega)]; simp
   simp only [e1, ← e2];rw [show eqS (compV [] (a ++ b)) (compV [] (a ++ b)) = true by simp [eqS], q0n (by simp [q0e]; omega), q0n (by simp [q0e]; omega), hk];have hm := (q2z (a ++ b)).of;by_cases ea : compV [] a = [] <;> by_cases eb : compV [] b = []
   ·have := e3.2 ⟨ea, eb⟩; simp [this, ea, eb]
   ·have : compV [] (a ++ b) ≠ [] := fun e => eb (e3.1 e).2
    have hm := (hm.resolve_left this).1;simp [this, ea, eb, hm]
   ·have : compV [] (a ++ b) ≠ [] := fun e => ea (e3.1 e).1
    have hm := (hm.resolve_left this).1;simp [this, ea, eb, hm]
   ·have : compV [] (a ++ b) ≠ [] := fun e => ea (e3.1 e).1
    have hm := (hm.resolve_left this).1;simp [this, ea, eb, hm]
end Go.Proofs.Ytglokalgdbegeaa
namespace Go.Ab
open Go Go.ChangeShapes Go.WideShapes Go.RowKit
def Shows (w : World) (ds : List D) (cs : List Value) : Prop := cs.length = ds.length ∧ ∀ (j : Nat) c, ds[j]? = some c → Rep w q91 c (cs.getD j undef)
section
variable {H : Type} {enc : TypeId × Value → H} {P : Program} {w : World} {spare : Nat → Bool} {held : Bool}
def Opens (enc : TypeId × Value → H) (P : Program) (w : World) (spare : Nat → Bool) (held : Bool) (n : Nat) (t : TypeId) {Y : Type} (f : Y → D) (good : Y → Prop) : Prop :=
 ∀ cs d p, DataW.trod enc P w 0 spare held n t cs = some (d, p) → (d.weights P t).all (· ≤ reachBytes) = true → ∃ y, good y ∧ Shows w (f y).cells cs
theorem qgc {v : Value} {d : D} (h : Rep w q91 d v) : Shows w [d] [v] :=
 ⟨rfl, fun j c hj => by
  cases j with
  | zero => simp at hj; subst hj; exact h
  | succ j => simp at hj⟩
theorem qk7 {n : Nat} {t : TypeId} (ht : P.underlying t = some .string) : Opens enc P w spare held n t (fun x : List UInt8 => D.v (.string ⟨⟨x⟩⟩)) (fun _ => True) := by
 intro cs d p h _;obtain ⟨s, rfl, _, _⟩ := DataW.trod_string ht h;obtain ⟨⟨x⟩⟩ := s;exact ⟨x, trivial, qgc (.v _ rfl)⟩
theorem q9d {e : TypeId} : ∀ {l : List (DataW H)}, (DataW.weightsAll P e l).all (· ≤ reachBytes) = true → ∀ d ∈ l, (d.weights P e).all (· ≤ reachBytes) = true
 | [], _, d, hd => by cases hd
 | x :: r, h, d, hd => by
  simp only [DataW.weightsAll, List.all_append, aT] at h;rcases List.mem_cons.1 hd with rfl | hd
  ·exact h.1
  ·exact q9d h.2 d hd
theorem q4z : ∀ {ts : List TypeId} {l : List (DataW H)}, (DataW.weightsEach P ts l).all (· ≤ reachBytes) = true → ∀ (i : Nat) t d, ts[i]? = some t → l[i]? = some d → (d.weights P t).all (· ≤ reachBytes) = true
 | [], _, _, i, t, d, h1, _ => by simp at h1
 | _ :: _, [], _, i, t, d, _, h2 => by simp at h2
 | t0 :: ts, d0 :: l, h, i, t, d, h1, h2 => by
  simp only [DataW.weightsEach, List.all_append, aT] at h;cases i with
  | zero => simp at h1 h2; subst h1; subst h2; exact h.1
  | succ i => exact q4z h.2 i t d (by simpa using h1) (by simpa using h2)
theorem qwq {Y : Type} {Q : Nat → Y → Prop} : ∀ (n : Nat), (∀ i, i < n → ∃ y, Q i y) → ∃ ys : List Y, ys.length = n ∧ ∀ (i : Nat) y, ys[i]? = some y → Q i y
 | 0, _ => ⟨[], rfl, fun i y h => by simp at h⟩
 | n + 1, h => by
  obtain ⟨ys, h1, h2⟩ := qwq n (fun i hi => h i (by omega));obtain ⟨y, hy⟩ := h n (by omega);refine ⟨ys ++ [y], by simp [h1], fun i z hz => ?_⟩;rw [List.getElem?_append] at hz;split at hz
  ·exact h2 i z hz
  ·rename_i hi;have : i = n := by have := (List.getElem?_eq_some_iff.1 hz).1; simp at this; omega
   subst this;simp [h1] at hz;subst hz; exact hy
theorem qf8 {a : Addr} {n : Nat} {cs : List Value} (h : w.cells? 0 a n = some cs) : cs.length = n ∧ ∀ i, i < n → w.cell? (a.add i) = cs[i]? := by
 unfold World.cells? at h;rw [if_pos (Nat.zero_le _)] at h;exact ⟨by simpa using mapM_some_length h, fun i hi => mapM_some_get h i i (by simp [hi])⟩
theorem qua {a : Addr} {u : Value} (h : w.cell? (a.add 0) = some u) : a.spot = none := by
 simp only [Addr.add, if_true, World.cell?] at h;split at h
 ·split at h
  ·cases h
  ·rename_i hs; simpa using hs
 ·cases h
theorem qgp {n sz : Nat} {t e : TypeId} {Y : Type} {f : Y → D} {good : Y → Prop} (ht : P.underlying t = some (.slice e)) (hsz : P.cellsOf e = sz) (hpos : 0 < sz) (hb : 8 ≤ P.bytesOf e) (hf : ∀ y, (f y).cells.length = sz)
  (he : ∀ m, m < n → Opens enc P w spare held m e f good) : Opens enc P w spare held n t (fun ys : List Y => D.list (ys.map f)) (fun ys => ys.length < 1152921504606846976 ∧ ∀ y ∈ ys, good y) := by
 intro cs d p h hw;rcases DataW.trod_slice ht h with ⟨rfl, hx⟩ | ⟨a, len, cap, elems, rest, n', rfl, rfl, hx, _, hlc, _, hlen, hel, _, _⟩
 ·exact ⟨[], ⟨by simp, by simp⟩, qgc (.empty _ _)⟩
 ·simp only [pI] at hx;obtain ⟨rfl, _⟩ := hx;simp only [DataW.weights, ht, List.all_cons, List.all_append, aT, dT', List.length_map] at hw;obtain ⟨hw1, hw2, _⟩ := hw;have each : ∀ i, i < len → ∃ y, good y ∧ ∃ cs', w.cells? 0 (a.add (i * sz)) sz = some cs' ∧ Shows w (f y).cells cs' := by
   intro i hi;have h1 := hel i hi;have hie : i < elems.length := by omega
   rw [List.getElem?_eq_getElem hie, Option.bind_eq_some_iff, hsz] at h1;obtain ⟨cs', h2, h3⟩ := h1;obtain ⟨y, g1, g2⟩ := he n' (by omega) cs' elems[i].1 elems[i].2 h3 (q9d hw2 _ (List.mem_map.2 ⟨_, List.getElem_mem hie, rfl⟩));exact ⟨y, g1, cs', h2, g2⟩
  obtain ⟨ys, y1, y2⟩ := qwq len each;have hlenb : ys.length < 1152921504606846976 := by
   have h8 : len * 8 ≤ (elems.length + rest.length) * P.bytesOf e := Nat.mul_le_mul (by omega) hb;have : reachBytes = 140737488351232 := rfl;omega
  refine ⟨ys, ⟨hlenb, fun y hy => ?_⟩, qgc ?_⟩
  ·obtain ⟨i, hi⟩ := List.getElem?_of_mem hy;exact (y2 i y hi).1
  ·by_cases h0 : len = 0
   ·have : ys = [] := List.length_eq_zero_iff.1 (by omega);subst this;subst h0;exact .empty _ _
   ·have hsp : a.spot = none := by
     obtain ⟨y, _, cs', h2, _⟩ := each 0 (by omega);obtain ⟨h3, h4⟩ := qf8 h2;have h5 := h4 0 hpos;have hlt : 0 < cs'.length := by omega
     rw [List.getElem?_eq_getElem hlt, Nat.zero_mul] at h5;have := qua h5;simpa [Addr.add] using this
    obtain ⟨b, off, sp⟩ := a;simp only at hsp;subst hsp;have hml : (ys.map f).length = len := by simp [y1]
    have key := Rep.list (w := w) (I := q91) (ys.map f) b off cap sz (fun i j => (w.cell? ⟨b, off + i * sz + j, none⟩).getD undef) (fun x hx => by
      obtain ⟨y, _, rfl⟩ := List.mem_map.1 hx; exact hf y) (by rw [hml]; exact hlc)
     (fun i x hx j c hj => by
      rw [List.getElem?_map] at hx;cases hy : ys[i]? with
      | none => rw [hy] at hx; cases hx
      | some y =>
       rw [hy] at hx; simp only [mS, sI] at hx; subst hx;obtain ⟨_, cs', h2, h3, h4⟩ := y2 i y hy;obtain ⟨h5, h6⟩ := qf8 h2;have hj' : j < sz := by rw [← hf y]; exact (List.getElem?_eq_some_iff.1 hj).1
       have h7 := h6 j hj';have hlt : j < cs'.length := by omega
       rw [add_plain, add_plain, List.getElem?_eq_getElem hlt] at h7;exact ⟨by rw [h7]; rfl, trivial⟩)
     (fun i x hx j c hj => by
      rw [List.getElem?_map] at hx;cases hy : ys[i]? with
      | none => rw [hy] at hx; cases hx
      | some y =>
       rw [hy] at hx; simp only [mS, sI] at hx; subst hx;obtain ⟨_, cs', h2, h3, h4⟩ := y2 i y hy;obtain ⟨h5, h6⟩ := qf8 h2;have hj' : j < sz := by rw [← hf y]; exact (List.getElem?_eq_some_iff.1 hj).1
       have h7 := h6 j hj';have hlt : j < cs'.length := by omega
       rw [add_plain, add_plain, List.getElem?_eq_getElem hlt] at h7;have h8 := h4 j c hj;rw [List.getD_eq_getElem?_getD, List.getElem?_eq_getElem hlt] at h8;rw [h7];exact h8)
    rw [hml] at key;exact key
end
end Go.Ab
namespace Go.Proofs.Ytglokalgdbegeaa
open Go Go.Ab Go.ChangeShapes Go.WideShapes Go.ChangeAt Go.WideMaps Go.WideElems Go.RowKit
theorem Try.own : ownKnob Try.prog.godebug = none := by kernel_rfl
theorem Try.laidOut : laidOutB Try.prog = true := by kernel_rfl
end Go.Proofs.Ytglokalgdbegeaa
