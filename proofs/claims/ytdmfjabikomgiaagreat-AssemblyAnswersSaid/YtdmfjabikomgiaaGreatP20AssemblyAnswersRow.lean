/- The row of AssemblyAnswers, from its answer on the machine: several arguments. -/
import Derived.Test.YtdmfjabikomgiaaGreatP20SegH
import Derived.Test.YtdmfjabikomgiaaGreatP20SegG
import Derived.SizedLaws
namespace Go.Proofs.YtdmfjabikomgiaaGreat
open Go Go.Ab Go.ChangeShapes Go.WideShapes Go.ChangeAt Go.WideMaps Go.WideElems Go.RowKit
def LawA:Prop:=∀(x0:LI)(x1:Config)(x2:Int)(x3:LP)(x4:Meeting)(x5:Play),(∀m∈x1.Members,raw m.Trust=true)->(∀p∈x3,RawP p)->(∀v∈x4.Voters,RawV v)->RawP x5->∃n h',call env n 9 [.d (ints .i64 x0),.d (q3q x1),.d (.v (.int .i64 x2)),.d (.list (x3.map q1l)),.d (q2y x4),.d (q1l x5)] []=some (.d (.v (.bool true)),h')
theorem lawA_of(h:∀(x0:LI)(x1:Config)(x2:Int)(x3:LP)(x4:Meeting)(x5:Play),(∀m∈x1.Members,raw m.Trust=true)->(∀p∈x3,RawP p)->(∀v∈x4.Voters,RawV v)->RawP x5->law20_AssemblyAnswers x0 x1 x2 x3 x4 x5=some true):LawA:=by intro x0 x1 x2 x3 x4 x5 g1 g3 g4 g5;have hh:=h x0 x1 x2 x3 x4 x5 g1 g3 g4 g5;unfold law20_AssemblyAnswers at hh;obtain⟨m,hm⟩:=qbf hh;refine⟨m,[],?_⟩;rw[show q3q x1=(packT (S:=sig) true (qa4 x1)).toD from sigOk.enc_eq .Config x1,show q2y x4=(packT (S:=sig) true (q91 x4)).toD from sigOk.enc_eq .Meeting x4,show q1l x5=(packT (S:=sig) true (qge x5)).toD from sigOk.enc_eq .Play x5];exact hm
theorem qpl(hlaw:LawA){W:World}{v0 v1 v3 v4 v5:Value}{x0:LI}{x1:Config}{x2:Int}{x3:LP}{x4:Meeting}{x5:Play}(g1:(∀m∈x1.Members,raw m.Trust=true))(g3:(∀p∈x3,RawP p))(g4:(∀v∈x4.Voters,RawV v))(g5:RawP x5)(h0:Rep W q4o (ints .i64 x0) v0)(h1:Rep W q4o (q3q x1) v1)(h3:Rep W q4o (.list (x3.map q1l)) v3)(h4:Rep W q4o (q2y x4) v4)(h5:Rep W q4o (q1l x5) v5):Calls Tryz.prog 9 #[v0,v1,.int .i64 x2,v3,v4,v5] W fun e W'=>e=.returned (.bool true)/\Below W.heap.size W W':=by obtain⟨n,h',hcall⟩:=hlaw x0 x1 x2 x3 x4 x5 g1 g3 g4 g5;exact top (E:=env) (yef n) (fun g cs hg=>by cases hg) (ds:=[ints .i64 x0,q3q x1,.v (.int .i64 x2),.list (x3.map q1l),q2y x4,q1l x5]) hcall rfl (fun i d hd=>by match i,hd with|0,hd=>simp at hd;subst hd;exact h0|1,hd=>simp at hd;subst hd;exact h1|2,hd=>simp at hd;subst hd;exact .v _ rfl|3,hd=>simp at hd;subst hd;exact h3|4,hd=>simp at hd;subst hd;exact h4|5,hd=>simp at hd;subst hd;exact h5|n+6,hd=>simp at hd)
set_option maxRecDepth 100000 in
theorem answers_lifted (hlaw : LawA) (os : Os) (started : os.Started) (H : Type) (enc : TypeId × Value -> H) :
  ReturnsInHanded {} Tryz.checked os 9 .any (Rows.assemblyAnswersSpec.pre6 enc Tryz.prog Tryz.f9 [] false) (Rows.assemblyAnswersSpec.post enc Tryz.prog Tryz.f9 false true false false) := by
 refine returnsInHanded_of_change_sized (C := Tryz.checked) Tryz.own started (by kernel_rfl) Tryz.func9
  (ChangeSpec.witness6 (enc := enc) (C := Tryz.checked) false ⟨#[], #[.slice none 0 0, .agg #[.slice none 0 0], .int .i64 0, .slice none 0 0, .agg #[.slice none 0 0, .int .i64 0, .int .i64 0], .agg #[.int .i64 0, .int .i64 0, .int .i64 0, .int .i64 0, .int .i64 0, .int .i64 0, .slice none 0 0, .slice none 0 0, .int .i64 0, .int .i64 0, .int .i64 0, .slice none 0 0, .slice none 0 0, .slice none 0 0, .slice none 0 0]], []⟩ 8 (by kernel_rfl) (by kernel_rfl) (by kernel_rfl) (by kernel_rfl)) ?_
 intro W base args ds gs before hval0 hW _ hS _;have hval : ∀ (j : Nat) t v, Tryz.f9.params[j]? = some t -> args[j]? = some v -> Value.okWide Tryz.prog W .any base t v := hval0;have hS' : (DataW.weightsEach Tryz.prog (Tryz.f9.params.toList ++ []) (ds ++ gs)).all (· <= reachBytes) = true := hS;have hW' := hW;obtain ⟨p, q, hA0, hV, rfl, hfz, hnd⟩ := hW;have hA : DataW.TrodAll enc Tryz.prog W 0 (fun _ => true) true Tryz.f9.params.toList args.toList ds p := hA0;rw [Tryz.params9] at hA hval hS';obtain ⟨v0, vs0, d0, ds0, p0, q0, e0, rfl, rfl, h0, hA1⟩ := trodAll_cons hA;obtain ⟨v1, vs1, d1, ds1, p1, q1, rfl, rfl, rfl, h1, hA2⟩ := trodAll_cons hA1;obtain ⟨v2, vs2, d2, ds2, p2, q2, rfl, rfl, rfl, h2, hA3⟩ := trodAll_cons hA2;obtain ⟨v3, vs3, d3, ds3, p3, q3, rfl, rfl, rfl, h3, hA4⟩ := trodAll_cons hA3
 obtain ⟨v4, vs4, d4, ds4, p4, q4, rfl, rfl, rfl, h4, hA5⟩ := trodAll_cons hA4;obtain ⟨v5, vs5, d5, ds5, p5, q5, rfl, rfl, rfl, h5, hA6⟩ := trodAll_cons hA5;obtain ⟨rfl, rfl, rfl⟩ := trodAll_nil hA6;have hargs : args = #[v0, v1, v2, v3, v4, v5] := by cases args; simp at e0; simp [e0]
 subst hargs;obtain ⟨rfl, rfl⟩ := trodVars_none hV;clear hA0 hval0 hA hA1 hA2 hA3 hA4 hA5 hA6;simp only [List.append_nil] at hW' hS';have hlt : ∀ x ∈ p0 ++ (p1 ++ (p2 ++ (p3 ++ (p4 ++ p5)))), x.block < W.heap.size := fun x hx => by
  have := hW'.lt x (by simpa using hx);simpa using this
 obtain ⟨zs0, hv0⟩ : ∃ zs : LI, Rep W q4o (ints .i64 zs) v0 := by
  obtain ⟨a0, len, cap, rfl⟩ := okWide_slice Tryz.underlying22 (hval 0 22 v0 rfl rfl);obtain ⟨fuel, hf⟩ := h0;rcases open_ints Tryz.underlying22 Tryz.underlying3 (by kernel_rfl) hf with ⟨e, _⟩ | ⟨a, len', cap', zs, e, _, hlc, _, hzl, _, hcell, hw⟩
  .have e' : Value.slice a0 len cap = .slice Option.none 0 0 := by simpa [Value.cells] using e
   rw [e'];exact ⟨[], qsw _ _ _⟩
  .have e' : Value.slice a0 len cap = .slice (some a) len' cap' := by simpa [Value.cells] using e
   rw [e'];exact ⟨zs.take len', y7z (by rw [hzl]; split <;> omega) hlc hcell⟩
 obtain ⟨c1, hc1, hv1⟩ : ∃ c : Config, (∀ m ∈ c.Members, raw m.Trust = true) /\ Rep W q4o (q3q c) v1 := by
  have hk := hval 1 27 v1 rfl rfl;simp only [Value.okWide, Tryz.underlying27] at hk;obtain ⟨cs, rfl, _⟩ := hk;obtain ⟨fuel, hf⟩ := h1;obtain ⟨c, hc, hs⟩ := qru fuel _ _ _ hf (q36 hS' 1 27 d1 rfl rfl);exact ⟨c, hc, by exact qk6 hs⟩
 obtain ⟨n2, rfl⟩ := okWide_int Tryz.underlying3 (hval 2 3 v2 rfl rfl);obtain ⟨c3, hc3, hv3⟩ : ∃ c : LP, (∀ p ∈ c, RawP p) /\ Rep W q4o (.list (c.map q1l)) v3 := by
  obtain ⟨a0, len, cap, rfl⟩ := okWide_slice Tryz.underlying28 (hval 3 28 v3 rfl rfl);obtain ⟨fuel, hf⟩ := h3;obtain ⟨c, hc, hs⟩ := q2i (f := q1l) (good := fun x => RawP x) Tryz.underlying28 (show Tryz.prog.cellsOf 70 = 15 by kernel_rfl) (by decide) (of_decide_eq_true (by kernel_rfl)) (fun _ => rfl) (fun k _ => qm9 k) _ _ _ hf (q36 hS' 3 28 d3 rfl rfl);exact ⟨c, hc.2, hs.2 0 _ rfl⟩
 obtain ⟨c4, hc4, hv4⟩ : ∃ c : Meeting, (∀ v ∈ c.Voters, RawV v) /\ Rep W q4o (q2y c) v4 := by
  have hk := hval 4 33 v4 rfl rfl;simp only [Value.okWide, Tryz.underlying33] at hk;obtain ⟨cs, rfl, _⟩ := hk;obtain ⟨fuel, hf⟩ := h4;obtain ⟨c, hc, hs⟩ := qo6 fuel _ _ _ hf (q36 hS' 4 33 d4 rfl rfl);exact ⟨c, hc, by exact qk6 hs⟩
 obtain ⟨c5, hc5, hv5⟩ : ∃ c : Play, RawP c /\ Rep W q4o (q1l c) v5 := by
  have hk := hval 5 70 v5 rfl rfl;simp only [Value.okWide, Tryz.underlying70] at hk;obtain ⟨cs, rfl, _⟩ := hk;obtain ⟨fuel, hf⟩ := h5;obtain ⟨c, hc, hs⟩ := qm9 fuel _ _ _ hf (q36 hS' 5 70 d5 rfl rfl);exact ⟨c, hc, by exact qk6 hs⟩
 refine (qpl hlaw hc1 hc3 hc4 hc5 hv0 hv1 hv3 hv4 hv5).mono fun e W' ⟨he, hb⟩ => ?_
 subst he;have back : DataW.TrodAll enc Tryz.prog W' 0 (fun b => decide (b < W.heap.size)) true [22, 27, 3, 28, 33, 70] [v0, v1, .int .i64 n2, v3, v4, v5] [d0, d1, d2, d3, d4, d5] (p0 ++ (p1 ++ (p2 ++ (p3 ++ (p4 ++ p5))))) :=
  ⟨p0, _, Below.trod Tryz.laidOut (by kernel_rfl) (of_decide_eq_true (by kernel_rfl)) h0 hb (fun x hx => hlt x (by simp [hx])), ⟨p1, _, Below.trod Tryz.laidOut (by kernel_rfl) (of_decide_eq_true (by kernel_rfl)) h1 hb (fun x hx => hlt x (by simp [hx])), ⟨p2, _, Below.trod Tryz.laidOut (by kernel_rfl) (of_decide_eq_true (by kernel_rfl)) h2 hb (fun x hx => hlt x (by simp [hx])), ⟨p3, _, Below.trod Tryz.laidOut (by kernel_rfl) (of_decide_eq_true (by kernel_rfl)) h3 hb (fun x hx => hlt x (by simp [hx])), ⟨p4, _, Below.trod Tryz.laidOut (by kernel_rfl) (of_decide_eq_true (by kernel_rfl)) h4 hb (fun x hx => hlt x (by simp [hx])), trodAll_mk1 (Below.trod Tryz.laidOut (by kernel_rfl) (of_decide_eq_true (by kernel_rfl)) h5 hb (fun x hx => hlt x (by simp [hx]))), rfl⟩, rfl⟩, rfl⟩, rfl⟩, rfl⟩
 exact ⟨_, rfl, ⟨_, _, _, [], _, [], hW', trodAll_mk1 (shut_bool Tryz.underlying4 _), back, rfl, hb.frame _, fun h => by cases h⟩⟩
set_option maxRecDepth 100000
theorem ydf:(Rows.assemblyAnswersRow.inPlace==Tryz.prog.inPlace 9)=true:=by kernel_rfl
theorem yh9:(Rows.assemblyAnswersRow.unfollowed==Tryz.prog.unfollowed 9)=true:=by kernel_rfl
theorem yh3:(Rows.assemblyAnswersRow.recurses==Tryz.prog.recurses 9)=true:=by kernel_rfl
theorem ygi:(Rows.assemblyAnswersRow.named==Tryz.prog.varsNamed 9)=true:=by kernel_rfl
theorem ygt:joinedFacts Tryz.prog 9 Tryz.f9 Rows.assemblyAnswersSpec Rows.assemblyAnswersRow=true:=by unfold joinedFacts;rw[ydf,yh9,yh3,ygi,Tryz.laidOut];kernel_rfl
theorem ydb:Tryz.f9.isWrapper Tryz.prog Rows.assemblyAnswersRow.wrapper Rows.assemblyAnswersRow.mainSum:=by unfold Func.isWrapper;first|(rw[if_pos (by decide+kernel)];kernel_rfl)|(rw[if_neg (by decide+kernel)];exact⟨rfl,rfl⟩)
theorem qqr(hlaw:LawA):Rows.AssemblyAnswersSaid:=OpenClaim.holds_of_wide 9 Tryz.f9 rfl rfl rfl rfl rfl rfl rfl ⟨rfl,rfl,rfl,rfl,rfl⟩ rfl rfl rfl rfl rfl (by kernel_rfl) Tryz.func9 ygt (of_decide_eq_true (by kernel_rfl)) ydb (fun os started H enc _=>answers_lifted hlaw os started H enc)
theorem answers_proved:Rows.AssemblyAnswersSaid:=qqr (lawA_of (y5p))
end Go.Proofs.YtdmfjabikomgiaaGreat
