/- ApplyAll: what any step that is next makes of any right tree and any work is what the document says; what was handed in stays. -/
import Derived.Test.YtahidkjncljkaaaRows
import Derived.WalkKit
import Derived.ProofKit
import Derived.OpenShut
import Derived.ShutString
import Derived.ChangeOld
import Derived.Below
import Derived.SizedLaws
import Derived.Test.YtahidkjncljkaaaBApplyAll0
import Derived.Test.YtahidkjncljkaaaBApplyAll5
namespace Go.Proofs.Ytahidkjncljkaaa.applyAll
open Go.ChangeShapes Go.WideShapes Go.ChangeAt Go.RowKit
open Go.ChangeMaps (open_string shut_string)
set_option linter.unusedVariables false
theorem own:ownKnob Try.prog.godebug=none:=by kernel_rfl
theorem laidOut:laidOutB Try.prog=true:=Head.laidOut
set_option maxRecDepth 100000 in
theorem lifted (os:Os) (started:os.Started) (H:Type) (enc:TypeId×Value→H):
  ReturnsInHanded {} Try.checked os 18 .any (Rows.applyAllSpec.pre6 enc Try.prog Try.f18 Rows.applyAllRow.domain false) (Rows.applyAllSpec.post enc Try.prog Try.f18 false true false false):=by
 refine returnsInHanded_of_change_sized (C:=Try.checked) own started (by kernel_rfl) Try.func18
  (ChangeSpec.witness6 (enc:=enc) (C:=Try.checked) false ⟨#[],#[.slice none 0 0, .agg #[.slice none 0 0, .slice none 0 0, .int .i64 0]],[]⟩ 8 (by kernel_rfl) (by kernel_rfl) (by kernel_rfl) (by kernel_rfl)) ?_
 intro W base args ds gs before hval0 hW hcnd hsz0 _;have hsz:(DataW.weightsEach Try.prog (Try.f18.params.toList++Rows.applyAllSpec.plain.varTypes Try.prog) (ds++gs)).all (· ≤reachBytes)=true:=hsz0;have hval: ∀(j:Nat) t v,Try.f18.params[j]?=some t→args[j]?=some v→Value.okWide Try.prog W .any base t v:=hval0;have hW':=hW;obtain ⟨p,q,hA0,hV,rfl,hfz,hnd⟩:=hW;have hA:DataW.TrodAll enc Try.prog W 0 (fun _=>true) true Try.f18.params.toList args.toList ds p:=hA0;rw [Try.params18] at hA hval hsz;obtain ⟨v0,vs0,d0,ds0,p0,q0,hargs,rfl,rfl,h0,r0⟩:=trodAll_cons hA;obtain ⟨v1,vs1,d1,ds1,p1,q1,rfl,rfl,rfl,h1,r1⟩:=trodAll_cons r0;obtain ⟨rfl,rfl,rfl⟩:=trodAll_nil r1;obtain rfl:args=#[v0,v1]:=by cases args;simp_all
 obtain ⟨rfl,rfl⟩:=trodVars_none hV;obtain ⟨a0,len0,cap0,rfl⟩:=okWide_slice Try.underlying46 (hval 0 46 v0 rfl rfl);have k0:=h0;have lt0: ∀x∈p0,x.block<W.heap.size:=by obtain ⟨m,hm⟩:=k0;exact DataW.trod_lt m _ _ _ hm
 obtain ⟨z0,rfl,w0,y0⟩:=Print.open_items Try.underlying46 rfl h0;have k1:=h1;have lt1: ∀x∈p1,x.block<W.heap.size:=by obtain ⟨m,hm⟩:=k1;exact DataW.trod_lt m _ _ _ hm
 obtain ⟨c1,rfl,_⟩:=okWide_struct Try.underlying63 (hval 1 63 v1 rfl rfl);obtain ⟨a1m,c1m,z1m,a1s,c1s,z1s,i1,rfl,y1m,w1m,y1s,w1s⟩:=Print.open_work_arg h1;clear hA0 hval0 hsz0 hsz;obtain ⟨kk,hkk⟩:=Pure.ApplyAll z0 z1m z1s i1;refine (Print.law23_ApplyAll.calls kk a0 cap0 z0 a1m c1m z1m a1s c1s z1s i1 true W y0 w0 y1m w1m y1s w1s hkk).mono fun e W' ⟨he,bel⟩=> ?_
 subst he;exact ⟨_,rfl,_,_,_,[],_,[],hW',trodAll_mk1 (shut_bool Try.underlying4 _),(trodAll_cons_mk (Below.trod laidOut (by kernel_rfl) (of_decide_eq_true (by kernel_rfl)) k0 bel lt0) (trodAll_cons_mk (Below.trod laidOut (by kernel_rfl) (of_decide_eq_true (by kernel_rfl)) k1 bel lt1) trodAll_mk0)),rfl,bel.frame _,fun h=>by cases h⟩
set_option maxHeartbeats 4000000 in
theorem closedAll:joinedFacts Try.prog 18 Try.f18 Rows.applyAllSpec Rows.applyAllRow=true:=by
 simp only [joinedFacts,Bool.and_eq_true]
 repeat' apply And.intro
 all_goals (first|(with_reducible exact Head.mayEnter)|(with_reducible exact Head.stopsHeard)|(with_reducible exact Head.laidOut)|(with_reducible exact Head.mapsRowed)|(with_reducible exact Head.stops)|(with_reducible exact Head.stopKnobs)|(rw [Head.lifts];as_aux_lemma=>kernel_rfl)|(rw [Head.make];as_aux_lemma=>kernel_rfl)|(as_aux_lemma=>kernel_rfl))
theorem named:Try.prog.funcNamed Rows.applyAllRow.func=some 18:=by kernel_rfl
set_option maxRecDepth 100000 in
theorem over:Rows.applyAllRow.holds Try.pinned (OpenSpec.ofChange Rows.applyAllSpec):=
 OpenClaim.holds_of_wide 18 Try.f18 rfl rfl rfl rfl rfl rfl rfl ⟨rfl,rfl,rfl,rfl,rfl⟩ rfl rfl rfl rfl rfl named Try.func18 closedAll
  (of_decide_eq_true (by kernel_rfl)) (by unfold Func.isWrapper;first|(rw [if_pos (by decide+kernel)];kernel_rfl)|(rw [if_neg (by decide+kernel)];exact ⟨rfl,rfl⟩))
  (fun os started H enc _=>lifted os started H enc)
theorem proved:Rows.ApplyAllSaid:=over
#print axioms proved
end Go.Proofs.Ytahidkjncljkaaa.applyAll
namespace Go.Proofs.Ytahidkjncljkaaa
theorem applyAll_holds:Rows.ApplyAllSaid:=applyAll.proved
end Go.Proofs.Ytahidkjncljkaaa
