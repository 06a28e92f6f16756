/- The row of AssemblyCascade, from its answer on the machine. -/
import Derived.Test.YtdmfjabikomgiaaGreatP20SegC
import Derived.SizedLaws
namespace Go.Proofs.YtdmfjabikomgiaaGreat
open Go Go.Ab Go.ChangeShapes Go.WideShapes Go.ChangeAt Go.WideMaps Go.WideElems Go.RowKit
set_option maxRecDepth 100000 in
theorem cascade_lifted (hlaw : Law 5) (os : Os) (started : os.Started) (H : Type) (enc : TypeId × Value -> H) :
  ReturnsInHanded {} Tryz.checked os 5 .any (Rows.assemblyCascadeSpec.pre6 enc Tryz.prog Tryz.f5 [] false) (Rows.assemblyCascadeSpec.post enc Tryz.prog Tryz.f5 false true false false) := by
 refine returnsInHanded_of_change_sized (C := Tryz.checked) Tryz.own started (by kernel_rfl) Tryz.func5
  (ChangeSpec.witness6 (enc := enc) (C := Tryz.checked) false ⟨#[], #[.slice none 0 0], []⟩ 8 (by kernel_rfl) (by kernel_rfl) (by kernel_rfl) (by kernel_rfl)) ?_
 intro W base args ds gs before hval0 hW _ _ _;have hval : ∀ (j : Nat) t v, Tryz.f5.params[j]? = some t -> args[j]? = some v -> Value.okWide Tryz.prog W .any base t v := hval0;have hW' := hW;obtain ⟨p, q, hA0, hV, rfl, hfz, hnd⟩ := hW;have hA : DataW.TrodAll enc Tryz.prog W 0 (fun _ => true) true Tryz.f5.params.toList args.toList ds p := hA0;rw [Tryz.params5] at hA hval;obtain ⟨v0, d0, rfl, rfl, h0⟩ := trodAll_one hA;obtain ⟨rfl, rfl⟩ := trodVars_none hV;clear hA0 hval0;simp only [List.append_nil] at hW';have h0k := h0;have hlt : ∀ x ∈ p, x.block < W.heap.size := fun x hx => by simpa using hW'.lt x hx
 obtain ⟨zs, hz, hv⟩ : ∃ zs : List Int, (∀ z ∈ zs, (Lit.int .i64 z).wf = true) /\ Rep W qeq (ints .i64 zs) v0 := by
  obtain ⟨a0, len, cap, rfl⟩ := okWide_slice Tryz.underlying22 (hval 0 22 v0 rfl rfl);obtain ⟨fuel, hf⟩ := h0;rcases open_ints Tryz.underlying22 Tryz.underlying3 (by kernel_rfl) hf with ⟨e, _⟩ | ⟨a, len', cap', zs, e, _, hlc, _, hzl, _, hcell, hw⟩
  .have e' : Value.slice a0 len cap = .slice Option.none 0 0 := by simpa [Value.cells] using e
   rw [e'];exact ⟨[], by simp, qqr _ _ _⟩
  .have e' : Value.slice a0 len cap = .slice (some a) len' cap' := by simpa [Value.cells] using e
   rw [e'];exact ⟨zs.take len', fun z hz => hw z (List.mem_of_mem_take hz), y91 (by rw [hzl]; split <;> omega) hlc hcell⟩
 refine (y3l hlaw hz hv).mono fun e W' ⟨he, hb⟩ => ?_
 subst he;exact ⟨_, rfl, ⟨_, _, _, [], p, [], hW', trodAll_mk1 (shut_bool Tryz.underlying4 _), trodAll_mk1 (Below.trod Tryz.laidOut (by kernel_rfl) (of_decide_eq_true (by kernel_rfl)) h0k hb hlt), rfl, hb.frame _, fun h => by cases h⟩⟩
set_option maxRecDepth 100000
theorem yhk:(Rows.assemblyCascadeRow.inPlace==Tryz.prog.inPlace 5)=true:=by kernel_rfl
theorem yl1:(Rows.assemblyCascadeRow.unfollowed==Tryz.prog.unfollowed 5)=true:=by kernel_rfl
theorem yhm:(Rows.assemblyCascadeRow.recurses==Tryz.prog.recurses 5)=true:=by kernel_rfl
theorem ykz:(Rows.assemblyCascadeRow.named==Tryz.prog.varsNamed 5)=true:=by kernel_rfl
theorem yjl:joinedFacts Tryz.prog 5 Tryz.f5 Rows.assemblyCascadeSpec Rows.assemblyCascadeRow=true:=by unfold joinedFacts;rw[yhk,yl1,yhm,ykz,Tryz.laidOut];kernel_rfl
theorem yhb:Tryz.f5.isWrapper Tryz.prog Rows.assemblyCascadeRow.wrapper Rows.assemblyCascadeRow.mainSum:=by unfold Func.isWrapper;first|(rw[if_pos (by decide+kernel)];kernel_rfl)|(rw[if_neg (by decide+kernel)];exact⟨rfl,rfl⟩)
theorem qr0(hlaw:Law 5):Rows.AssemblyCascadeSaid:=OpenClaim.holds_of_wide 5 Tryz.f5 rfl rfl rfl rfl rfl rfl rfl ⟨rfl,rfl,rfl,rfl,rfl⟩ rfl rfl rfl rfl rfl (by kernel_rfl) Tryz.func5 yjl (of_decide_eq_true (by kernel_rfl)) yhb (fun os started H enc _=>cascade_lifted hlaw os started H enc)
theorem cascade_proved:Rows.AssemblyCascadeSaid:=qr0 (law_of qpl)
end Go.Proofs.YtdmfjabikomgiaaGreat
