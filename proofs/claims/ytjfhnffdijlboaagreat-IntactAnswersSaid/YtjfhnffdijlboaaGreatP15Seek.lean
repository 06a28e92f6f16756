/- The function that seeks the first set of which another function says true keeps its word: the walk of it and of the iterator. -/
import Derived.Test.YtjfhnffdijlboaaGreatMachC
import Derived.RangeFuncBox
import Derived.RangeFuncCalls
import Derived.RangeFuncLeaves
import Derived.Shelf.Abstract
import Derived.WalkKit
import Derived.OwnWalkIn
import Derived.TacticsInMore
import Derived.LoopNIn
import Derived.LoopIn
import Derived.Test.YtjfhnffdijlboaaGreatChecked
namespace Go.Proofs.YtjfhnffdijlboaaGreat
open Go Go.Ab Go.RowKit Go.Shelf
attribute [local go_sem] Oper.semAt_some
theorem Chain.tail {P : Program} {nx : Nat} : ∀ {pre : List Int} {x : Int} {suf : List Int}, Ab.Chain P nx (pre ++ x :: suf) -> Ab.Chain P nx (x :: suf)
 | [], _, _, h => h
 | [_], _, _, h => h.2
 | _ :: b :: pre, _x, _suf, h => Chain.tail (pre := b :: pre) h.2
theorem qp4 {suf : List Int} {x : Int} : ∀ {pre : List Int}, (pre ++ x :: suf).Nodup -> (pre ++ x :: suf).idxOf x = pre.length
 | [], _ => by simp
 | y :: pre, h => by
  have h1 := List.nodup_cons.1 h;have hne : y ≠ x := fun e => h1.1 (by rw [e]; simp)
  rw [List.cons_append, List.idxOf_cons, show (y == x) = false by simpa using hne, qp4 h1.2];rfl
theorem q6y {W : World} {B B' : Nat} {t : TypeId} {v : Value} (h : Boxed W B t v) (hne : B ≠ B') (u : Value) : Boxed (W.setCell ⟨B', 0, none⟩ u) B t v := h.kept (grownBy_setCell' W B' u) (fun e => hne (by cases e; rfl))
def qzd (I Ix : List Int -> World -> Prop) (x : Int) (suf : List Int) (W : World) : Exit -> Act -> World -> Prop
 | .normal, _, W' => KeepsOthers W W' /\ I suf W'
 | .ret, _, W' => KeepsOthers W W' /\ Ix (x :: suf) W'
 | _, _, _ => False
theorem qt4 {P : Program} {g : Operand} {ps : Array Tmp} {assign body : Code} {Q : Exit -> Act -> World -> Prop} {a : Act} {w : World} {n : Nat} (h1 : 1 <= n) {gf : Nat} (hg : a.eval g = .func (.func gf) #[] #[])
  (eg : ∀ args w, (callFunc gf args).run P w = .ok (.enter gf args) w) (xs : List Int) (hps : ps.size = 1) (I Ix : List Int -> World -> Prop)
  (hI : ∀ s W W' row, I s W -> W.grownBy W' row -> (∀ b, row = some b -> w.heap.size <= b /\ ∃ o : Obj, W.heap[b]? = some o /\ o.isCells = false) -> I s W')
  (hIx : ∀ s W W' row, Ix s W -> W.grownBy W' row -> (∀ b, row = some b -> w.heap.size <= b /\ ∃ o : Obj, W.heap[b]? = some o /\ o.isCells = false) -> Ix s W')
  (h0 : I xs w) (a₁ : Int -> Act)
  (hassign : ∀ (l : Nat) (x : Int) (W : World) (K : Act -> World -> Prop), K (a₁ x) W ->
   assign.wpIn (Fence.wide.inRound l) (n - 1 - 1) P (Exit.then K (fun _ _ _ => False)) { tmps := (ps.zip #[.int .i64 x]).foldl (fun t (p, v) => t.setIfInBounds p v) a.tmps, defers := [] } W)
  (hbody : ∀ (l : Nat) (x : Int) (suf : List Int) (W : World), I (x :: suf) W -> body.wpIn (Fence.wide.inRound l) (n - 1 - 1) P (qzd I Ix x suf W) (a₁ x) W)
  (hiter : ∀ (l : Nat) (J Jx : List Int -> World -> Prop) (W : World), (∀ s W W', J s W -> W.grownBy W' none -> J s W') ->
   (∀ x suf W1, J (x :: suf) W1 -> YieldAt Fence.wide (n - 1 - 1) P l #[.int .i64 x] W1 fun e W' => (e = .returned (.bool true) /\ J suf W') \/ (e = .returned (.bool false) /\ Jx (x :: suf) W')) -> J xs W ->
   CallsIn Fence.wide (n - 1) P gf #[.func (.yield l) #[] #[]] W fun e W' => (∃ v, e = .returned v) /\ (J [] W' \/ ∃ x suf, Jx (x :: suf) W'))
  (hdone : ∀ (D : Nat) (W : World), w.heap.size <= D -> I [] W -> W.heap[D]? = some (.deferred (some [])) -> Q .normal { a with defers := { target := .collected D, args := #[] } :: a.defers } W)
  (hstop : ∀ (D : Nat) (x : Int) (suf : List Int) (W : World), w.heap.size <= D -> Ix (x :: suf) W -> W.heap[D]? = some (.deferred (some [])) -> Code.ret.wpIn Fence.wide n P Q { a with defers := { target := .collected D, args := #[] } :: a.defers } W) :
  (Code.rangeFunc g ps assign body).wpIn Fence.wide n P Q a w := by
 refine wpIn_rangeFunc fun fn hfn => ?_
 generalize hD : w.heap.size = D at *;obtain ⟨rec, hrec⟩ : ∃ rec : LoopState -> Option Code -> Loop, rec = fun st pe => { state := st, pending := pe, fn, tmps := a.tmps, params := ps, assign, body, defers := D } := ⟨_, rfl⟩
 have hr1 : ∀ st pe, rec st pe = { state := st, pending := pe, fn, tmps := a.tmps, params := ps, assign, body, defers := D } := fun st pe => by rw [hrec]
 obtain ⟨W1, hW1⟩ : ∃ W1, (w.alloc (.deferred (some []))).alloc (.loop (rec .ready none)) = W1 := ⟨_, rfl⟩;have hL1 : W1.heap[D + 1]? = some (.loop (rec .ready none)) := by
  rw [<- hW1, <- hD]; have := World.alloc_heap_new (w.alloc (.deferred (some []))) (.loop (rec .ready none)); rwa [World.size_alloc] at this
 have hK1 : W1.heap[D]? = some (.deferred (some [])) := by
  rw [<- hW1, <- hD]; exact (Below.heap_alloc _ _ _ (by simp)).trans (World.alloc_heap_new w _)
 have hgn : ∀ {A B : World}, ∀ b, (none : Option Nat) = some b -> D <= b /\ ∃ o : Obj, A.heap[b]? = some o /\ o.isCells = false := fun b e => by cases e
 have hI1 : I xs W1 := by
  rw [<- hW1];exact hI _ _ _ none (hI _ _ _ none h0 (World.grownBy_alloc _ _ none) (hgn (B := w))) (World.grownBy_alloc _ _ none) (hgn (B := w))
 have put : ∀ {K : List Int -> World -> Prop}, (∀ s W W' row, K s W -> W.grownBy W' row -> (∀ b, row = some b -> D <= b /\ ∃ o : Obj, W.heap[b]? = some o /\ o.isCells = false) -> K s W') ->
   ∀ {s : List Int} {W : World} {o o' : Obj}, K s W -> W.heap[D + 1]? = some o -> o.isCells = false -> K s (W.putObj (D + 1) o') :=
  fun {K} hK {s W o o'} hs ho hc => hK s W _ (some (D + 1)) hs (grownBy_putObj' W _ _) (fun b e => by cases e; exact ⟨by omega, o, ho, hc⟩)
 refine ⟨D + 1, [{ target := .collected D, args := #[] }], W1, { target := .fn (.func gf) #[], args := #[.func (.yield (D + 1)) #[] #[]] }, W1, gf, #[.func (.yield (D + 1)) #[] #[]], W1, ?_, ?_, ?_, ?_, fun _ => h1, ?_⟩
 ·have := run_enterLoop_outer (P := P) (w := w) fn a.tmps ps assign body;rw [hD] at this;rw [<- hW1, hr1]; exact this
 ·simp only [resolve, hg];simp [go_sem]
 ·intro f' _; exact trivial
 ·have := eg (#[.func (.yield (D + 1)) #[] #[]] ++ #[]) W1;simpa [invoke, go_sem] using this
 ·refine (hiter (D + 1) (fun s W => I s W /\ W.heap[D + 1]? = some (.loop (rec .ready none)) /\ W.heap[D]? = some (.deferred (some [])))
   (fun s W => Ix s W /\ W.heap[D + 1]? = some (.loop (rec .done (some .ret))) /\ W.heap[D]? = some (.deferred (some []))) W1 ?_ ?_ ⟨hI1, hL1, hK1⟩).mono ?_
  ·rintro s W W' ⟨q1, q2, q3⟩ hg';refine ⟨hI s W W' none q1 hg' (hgn (B := w)), ?_, ?_⟩
   ·rw [hg'.block _ (Array.getElem?_eq_some_iff.1 q2).1 (by simp)]; exact q2
   ·rw [hg'.block _ (Array.getElem?_eq_some_iff.1 q3).1 (by simp)]; exact q3
  ·rintro x suf W ⟨hi, hl, hk⟩;have hlt : D + 1 < W.heap.size := (Array.getElem?_eq_some_iff.1 hl).1;have hy := run_yield (P := P) (args := #[.int .i64 x]) hl (by rw [hr1]; simpa using hps.symm);rw [hr1] at hy;refine ⟨fn, _, assign, body, hy, roundIn_of_wpIn hfn (hassign _ x W _ ⟨_, run_beginRound hl (by rw [hr1]), ?_⟩)⟩;have hl2 : (W.putObj (D + 1) (.loop { rec .ready none with state := .busy })).heap[D + 1]? = some (.loop { rec .ready none with state := .busy }) := World.putObj_heap_same hlt;have hk2 : (W.putObj (D + 1) (.loop { rec .ready none with state := .busy })).heap[D]? = some (.deferred (some [])) := (World.putObj_heap_other (by omega)).trans hk;refine wpIn_mono (hbody _ x suf _ (put hI hi hl rfl)) ?_
   have fin : ∀ (jump : Option Code) (W3 : World), KeepsOthers (W.putObj (D + 1) (.loop { rec .ready none with state := .busy })) W3 ->
     (Instr.endRound (D + 1) jump).run P W3 = .ok (.bool jump.isNone) (W3.putObj (D + 1) (.loop (rec (if jump.isNone then .ready else .done) jump))) /\ W3.heap[D + 1]? = some (.loop { rec .ready none with state := .busy }) /\
     (W3.putObj (D + 1) (.loop (rec (if jump.isNone then .ready else .done) jump))).heap[D + 1]? = some (.loop (rec (if jump.isNone then .ready else .done) jump)) /\
     (W3.putObj (D + 1) (.loop (rec (if jump.isNone then .ready else .done) jump))).heap[D]? = some (.deferred (some [])) := fun jump W3 hk3 => by
    have hl3 := hk3.same _ _ hl2 rfl;have he := run_endRound (P := P) jump hl3;simp only [hr1] at he hl3 ⊢;exact ⟨he, hl3, World.putObj_heap_same (Array.getElem?_eq_some_iff.1 hl3).1, (World.putObj_heap_other (by omega)).trans (hk3.same _ _ hk2 rfl)⟩
   rintro e a3 W3 hp;cases e with
   | normal =>
    obtain ⟨q1, q2, q3, q4⟩ := fin none W3 hp.1;exact ⟨_, _, q1, .inl ⟨rfl, put hI hp.2 q2 rfl, q3, q4⟩⟩
   | ret =>
    obtain ⟨q1, q2, q3, q4⟩ := fin (some .ret) W3 hp.1;exact ⟨_, _, q1, .inr ⟨rfl, put hIx hp.2 q2 rfl, q3, q4⟩⟩
   | _ => exact hp.elim
  ·rintro e W2 ⟨⟨v, rfl⟩, ⟨hi, hl, hk⟩ | ⟨x, suf, hi, hl, hk⟩⟩
   ·have he := run_endLoop (P := P) hl (by rw [hr1]; simp);simp only [hr1] at he;exact ⟨none, _, he, hdone D _ (Nat.le_refl _) (put hI hi hl rfl) ((World.putObj_heap_other (by omega)).trans hk)⟩
   ·have he := run_endLoop (P := P) hl (by rw [hr1]; simp);simp only [hr1] at he;exact ⟨some .ret, _, he, hstop D x suf _ (Nat.le_refl _) (put hIx hi hl rfl) ((World.putObj_heap_other (by omega)).trans hk)⟩
set_option maxRecDepth 100000 in
set_option maxHeartbeats 2000000 in
theorem qtt (n : Nat) (hn : 1 <= n) (r : List Int) (hch : Ab.Chain Tryz.prog 120 (0 :: r)) (hnd : (0 :: r).Nodup) (l : Nat) (J Jx : List Int -> World -> Prop) (W : World) (hJ : ∀ s W W', J s W -> W.grownBy W' none -> J s W')
  (hY : ∀ x suf W1, J (x :: suf) W1 -> YieldAt Fence.wide (n - 1) Tryz.prog l #[.int .i64 x] W1 fun e W' => (e = .returned (.bool true) /\ J suf W') \/ (e = .returned (.bool false) /\ Jx (x :: suf) W')) (h0 : J (0 :: r) W) :
  CallsIn Fence.wide n Tryz.prog 146 #[.func (.yield l) #[] #[]] W fun e W' => (∃ v, e = .returned v) /\ (J [] W' \/ ∃ x suf, Jx (x :: suf) W') := by
 refine callsIn_of_wp Tryz.func146 rfl trivial ?_ rfl;have hnt : Tryz.f146.ntmps = 14 := rfl;simp only [hnt, List.size_toArray, List.length_cons, List.length_nil, Nat.reduceAdd, Nat.reduceSub, Array.replicate_succ, Array.replicate_zero, List.push_toArray, List.append_toArray, List.nil_append, List.cons_append];have hfN : Fence.wide.fn 120 := trivial;gi_wp2
 gi_loopw [2, 3] (fun s ok wr => (∃ pre x suf, 0 :: r = pre ++ x :: suf /\ s = .int .i64 x /\ ok = .bool true /\ J (x :: suf) wr) \/ (ok = .bool false /\ J [] wr))
  (fun s ok _ => match ok with | .bool true => r.length + 2 - (0 :: r).idxOf (intOf s) | _ => 0)
 case atStart => exact .inl ⟨[], 0, r, rfl, rfl, rfl, h0⟩
 case round =>
  rcases hrel with ⟨pre, x, suf, he, rfl, rfl, hJs⟩ | ⟨rfl, hJs⟩
  ·have hlen : pre.length < r.length + 1 := by
    have := congrArg List.length he;simp at this; omega
   obtain ⟨fn, tmps, assign, body, hy, hR⟩ := hY x suf wr hJs;have hc1 : Ab.Chain Tryz.prog 120 (x :: suf) := Chain.tail (pre := pre) (by rw [<- he]; exact hch);have hix : (0 :: r).idxOf x = pre.length := by rw [he]; exact qp4 (by rw [<- he]; exact hnd)
   gi_wp2
   refine hR.mono ?_;rintro e W3 (⟨rfl, hJ3⟩ | ⟨rfl, hJx3⟩)
   ·cases suf with
    | nil =>
     have hN : CallsIn Fence.wide (n - 1) Tryz.prog 120 #[.int .i64 x, .int .i64 10] W3 _ := callsIn_wide.2 (hc1 W3)
     gi_wp2_with (gi_at_call 120; refine hN.mono ?_; rintro e W4 ⟨⟨c, rfl⟩, hg⟩)
     go_roundw
     case rel => exact .inr ⟨rfl, hJ _ W3 W4 hJ3 hg⟩
     case measure => show 0 < r.length + 2 - (0 :: r).idxOf x; rw [hix]; omega
    | cons y suf =>
     have hN : CallsIn Fence.wide (n - 1) Tryz.prog 120 #[.int .i64 x, .int .i64 10] W3 _ := callsIn_wide.2 (hc1.1 W3)
     gi_wp2_with (gi_at_call 120; refine hN.mono ?_; rintro e W4 ⟨rfl, hg⟩)
     have he2 : 0 :: r = (pre ++ [x]) ++ y :: suf := by rw [he]; simp
     have hiy : (0 :: r).idxOf y = pre.length + 1 := by rw [he2, qp4 (by rw [<- he2]; exact hnd)]; simp
     go_roundw
     case rel => exact .inl ⟨pre ++ [x], y, suf, he2, rfl, rfl, hJ _ W3 W4 hJ3 hg⟩
     case measure => show r.length + 2 - (0 :: r).idxOf y < r.length + 2 - (0 :: r).idxOf x; rw [hix, hiy]; omega
   ·gi_wp2
    refine bodyPost_ret (results_none rfl _ _ _) rfl ?_;exact ⟨⟨_, rfl⟩, .inr ⟨x, suf, hJx3⟩⟩
  ·gi_wp2
   go_end0
   exact ⟨⟨_, rfl⟩, .inl hJs⟩
set_option maxRecDepth 100000 in
set_option maxHeartbeats 2000000 in
theorem qsx {r : List Int} (hnd : (0 :: r).Nodup) : qx3 Tryz.prog 127 120 (0 :: r) := by
 intro hch g caps w J Jx hstart hJ hJx hround;refine (callsIn_wide (n := 3)).1 ?_;refine callsIn_of_wp_marks Tryz.func127 rfl trivial ?_ rfl;have hnt : Tryz.f127.ntmps = 10 := rfl;simp only [hnt, List.size_toArray, List.length_cons, List.length_nil, Nat.reduceAdd, Nat.reduceSub, Array.replicate_succ, Array.replicate_zero, List.push_toArray, List.append_toArray, List.nil_append, List.cons_append];gi_wp2
 obtain ⟨W0, hW0⟩ : ∃ W0, ((w.alloc (.cells #[.func (.func g) #[] caps] 78)).alloc (.cells #[.int .i64 0] 3)).alloc (.cells #[.bool false] 4) = W0 := ⟨_, rfl⟩;have hs0 : W0.heap.size = w.heap.size + 3 := by rw [<- hW0]; simp
 have hB0 : W0.heap[w.heap.size]? = some (.cells #[.func (.func g) #[] caps] 78 (0, 0)) := by
  rw [<- hW0]; exact ((Below.heap_alloc _ _ _ (by simp; omega)).trans (Below.heap_alloc _ _ _ (by simp))).trans (World.alloc_heap_new w _)
 have hB1 : W0.heap[w.heap.size + 1]? = some (.cells #[.int .i64 0] 3 (0, 0)) := by
  rw [<- hW0]; refine (Below.heap_alloc _ _ _ (by simp)).trans ?_;have := World.alloc_heap_new (w.alloc (.cells #[.func (.func g) #[] caps] 78)) (.cells #[.int .i64 0] 3); rwa [World.size_alloc] at this
 have hB2 : W0.heap[w.heap.size + 1 + 1]? = some (.cells #[.bool false] 4 (0, 0)) := by
  rw [<- hW0]; have := World.alloc_heap_new ((w.alloc (.cells #[.func (.func g) #[] caps] 78)).alloc (.cells #[.int .i64 0] 3)) (.cells #[.bool false] 4); rwa [World.size_alloc, World.size_alloc] at this
 have hg0 : w.grownBy W0 none := by
  rw [<- hW0];exact ⟨rfl, rfl, rfl, by simp; omega, fun k hk _ => ((Below.heap_alloc _ _ k (by simp; omega)).trans (Below.heap_alloc _ _ k (by simp; omega))).trans (Below.heap_alloc _ _ k hk)⟩
 have hJ0 : J (0 :: r) W0 := hstart W0 hg0 (by omega);rw [hW0];have aside : ∀ {W W' : World} {row : Option Nat}, W.grownBy W' row -> (∀ b, row = some b -> W0.heap.size <= b /\ ∃ o : Obj, W.heap[b]? = some o /\ o.isCells = false) -> Aside w W W' := fun hg hr => ⟨_, hg, fun b e => ⟨by have := (hr b e).1; omega, .inr (hr b e).2⟩⟩
 have box : ∀ {W W' : World} {row : Option Nat} {B : Nat} {t : TypeId} {v : Value}, Boxed W B t v -> B < W0.heap.size -> W.grownBy W' row -> (∀ b, row = some b -> W0.heap.size <= b /\ ∃ o : Obj, W.heap[b]? = some o /\ o.isCells = false) -> Boxed W' B t v :=
  fun hb hlt hg hr => hb.kept hg (fun e => by have := (hr _ e.symm).1; omega)
 refine qt4 (by omega) (gf := 146) rfl (enters_of Tryz.func146 (by kernel_rfl) rfl) (0 :: r) rfl
  (fun s W => J s W /\ Boxed W w.heap.size 78 (.func (.func g) #[] caps) /\ Boxed W (w.heap.size + 1) 3 (.int .i64 0) /\ Boxed W (w.heap.size + 1 + 1) 4 (.bool false))
  (fun s W => Jx s W /\ ∃ x suf, s = x :: suf /\ Boxed W (w.heap.size + 1) 3 (.int .i64 x) /\ Boxed W (w.heap.size + 1 + 1) 4 (.bool true))
  (fun s W W' row hs hg hr => ⟨hJ s W W' hs.1 (aside hg hr), box hs.2.1 (by omega) hg hr, box hs.2.2.1 (by omega) hg hr, box hs.2.2.2 (by omega) hg hr⟩)
  (fun s W W' row hs hg hr => by
   obtain ⟨q1, x, suf, q2, q3, q4⟩ := hs;exact ⟨hJx s W W' q1 (aside hg hr), x, suf, q2, box q3 (by omega) hg hr, box q4 (by omega) hg hr⟩)
  ⟨hJ0, hB0, hB1, hB2⟩
  (fun x => { tmps := #[.func (.func g) #[] caps, .pointer (some ⟨w.heap.size, 0, none⟩), .pointer (some ⟨w.heap.size + 1, 0, none⟩), .pointer (some ⟨w.heap.size + 1 + 1, 0, none⟩), .int .i64 x, .int .i64 x, undef, undef, undef, undef], defers := [] })
  ?assign ?body (fun l J Jx W hJ hY h0 => qtt 2 (by omega) r hch hnd l J Jx W hJ hY h0) ?done ?stop
 case assign =>
  intro l x W K hK;gi_wp2
  exact hK
 case body =>
  rintro l x suf W ⟨hJs, hb0, hb1, hb2⟩;obtain ⟨hen, hcall⟩ := hround x suf W hJs;have hfg : Fence.wide.fn g := trivial;have hcw := hb0.cell;have hN := CallsIn.inRound l ((callsIn_wide (n := 0)).2 hcall);unfold Ab.Enters at hen;gi_wp2
  refine hN.mono ?_;rintro e W1 ⟨⟨hk, hbx⟩, (⟨rfl, hJ1⟩ | ⟨rfl, hJx1⟩)⟩
  ·have h0' : Boxed W1 w.heap.size 78 (.func (.func g) #[] caps) := (hbx _ (by omega) (by omega)).trans hb0;have h1' : Boxed W1 (w.heap.size + 1) 3 (.int .i64 0) := (hbx _ (by omega) (by omega)).trans hb1;have h2' : Boxed W1 (w.heap.size + 1 + 1) 4 (.bool false) := (hbx _ (by omega) (by omega)).trans hb2;gi_wp2
   exact ⟨hk, hJ1, h0', h1', h2'⟩
  ·have h1' : Boxed W1 (w.heap.size + 1) 3 (.int .i64 0) := (hbx _ (by omega) (by omega)).trans hb1;have h2' : Boxed W1 (w.heap.size + 1 + 1) 4 (.bool false) := (hbx _ (by omega) (by omega)).trans hb2;have hc1 := h1'.cell;have hf1 := h1'.frozen;have hc2 := (q6y h2' (B' := w.heap.size + 1) (by omega) (.int .i64 x)).cell;have hf2 := (q6y h2' (B' := w.heap.size + 1) (by omega) (.int .i64 x)).frozen;gi_wp2
   refine ⟨(hk.trans (KeepsOthers.setCell _ _ _)).trans (KeepsOthers.setCell _ _ _), hJx _ _ _ (hJx _ _ _ hJx1 ⟨_, grownBy_setCell' W1 _ _, fun b e => ?_⟩) ⟨_, grownBy_setCell' _ _ _, fun b e => ?_⟩, x, suf, rfl, ?_, ?_⟩
   ·cases e; exact ⟨by omega, .inl (by omega)⟩
   ·cases e; exact ⟨by omega, .inl (by omega)⟩
   ·exact q6y (h1'.set (.int .i64 x)) (by omega) _
   ·exact (q6y h2' (by omega) _).set _
 case done =>
  rintro D W hD ⟨hJs, hb0, hb1, hb2⟩ hK;have hc1 := hb1.cell;have hf1 := hb1.frozen;have hb1' := hb1.set (.int .i64 0);have hb2' := q6y hb2 (B' := w.heap.size + 1) (by omega) (.int .i64 0);have hc2 := hb2'.cell;have hf2 := hb2'.frozen;gi_wp2
  have hK' := ((KeepsOthers.setCell W ⟨w.heap.size + 1, 0, none⟩ (.int .i64 0)).trans (KeepsOthers.setCell _ ⟨w.heap.size + 1 + 1, 0, none⟩ (.bool false))).same D _ hK rfl;have g1 := q6y hb1' (B' := w.heap.size + 1 + 1) (by omega) (.bool false);have g2 := hb2'.set (.bool false);have gp := grownBy_putObj' ((W.setCell ⟨w.heap.size + 1, 0, none⟩ (.int .i64 0)).setCell ⟨w.heap.size + 1 + 1, 0, none⟩ (.bool false)) D (.deferred none);have hc5 := (g1.kept gp (fun e => by cases e; omega)).cell;have hc6 := (g2.kept gp (fun e => by cases e; omega)).cell;refine ⟨by simp, .inl ⟨_, _, rfl, run_takeDeferred hK', ?_⟩⟩
  refine ⟨.tuple #[.int .i64 0, .bool false], ?_, .inl ⟨rfl, hJ _ _ _ (hJ _ _ _ (hJ _ _ _ hJs ⟨_, grownBy_setCell' W _ _, fun b e => ?_⟩) ⟨_, grownBy_setCell' _ _ _, fun b e => ?_⟩) ⟨_, gp, fun b e => ?_⟩⟩⟩
  ·simp [results, Tryz.f127, go_sem, hc5, hc6]
  ·cases e; exact ⟨by omega, .inl (by omega)⟩
  ·cases e; exact ⟨by omega, .inl (by omega)⟩
  ·cases e; exact ⟨by omega, .inr ⟨_, hK', rfl⟩⟩
 case stop =>
  rintro D x suf W hD ⟨hJs, x', suf', hxs, hb1, hb2⟩ hK;cases hxs;gi_wp2
  have gp := grownBy_putObj' W D (.deferred none);have hc5 := (hb1.kept gp (fun e => by cases e; omega)).cell;have hc6 := (hb2.kept gp (fun e => by cases e; omega)).cell;refine ⟨by simp, .inl ⟨_, _, rfl, run_takeDeferred hK, ?_⟩⟩;refine ⟨.tuple #[.int .i64 x, .bool true], ?_, .inr ⟨x, suf, rfl, hJx _ _ _ hJs ⟨_, gp, fun b e => ?_⟩⟩⟩
  ·simp [results, Tryz.f127, go_sem, hc5, hc6]
  ·cases e; exact ⟨by omega, .inr ⟨_, hK, rfl⟩⟩
end Go.Proofs.YtjfhnffdijlboaaGreat
