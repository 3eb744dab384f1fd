/- x -/
import Derived.Test.YtahidkjncljkaaaRows
import Derived.WalkKit
import Derived.ProofKit
import Derived.OpenShut
import Derived.ShutString
import Derived.ChangeOld
import Derived.Below
import Derived.SizedLaws
import Derived.Test.YtahidkjncljkaaaBPlanAll0
import Derived.Test.YtahidkjncljkaaaBPlanAll5
namespace Go.Proofs.Ytahidkjncljkaaa.planAll
open Go.ChangeShapes Go.WideShapes Go.ChangeAt Go.RowKit
open Go.ChangeMaps (open_string shut_string)
set_option linter.unusedVariables false
theorem own:ownKnob Try.prog.godebug=none:=by kernel_rfl
theorem laidOut:laidOutB Try.prog=true:=Head.laidOut
set_option maxRecDepth 100000 in
theorem lifted (os:Os) (started:os.Started) (H:Type) (enc:TypeId×Value→H):
  ReturnsInHanded {} Try.checked os 9 .any (Rows.planAllSpec.pre6 enc Try.prog Try.f9 Rows.planAllRow.domain false) (Rows.planAllSpec.post enc Try.prog Try.f9 false true false false):=by
 refine returnsInHanded_of_change_sized (C:=Try.checked) own started (by kernel_rfl) Try.func9
  (ChangeSpec.witness6 (enc:=enc) (C:=Try.checked) false ⟨#[],#[.slice none 0 0, .slice none 0 0, .slice none 0 0],[]⟩ 8 (by kernel_rfl) (by kernel_rfl) (by kernel_rfl) (by kernel_rfl)) ?_
 intro W base args ds gs before hval0 hW hcnd hsz0 _;have hsz:(DataW.weightsEach Try.prog (Try.f9.params.toList++Rows.planAllSpec.plain.varTypes Try.prog) (ds++gs)).all (· ≤reachBytes)=true:=hsz0;have hval: ∀(j:Nat) t v,Try.f9.params[j]?=some t→args[j]?=some v→Value.okWide Try.prog W .any base t v:=hval0;have hW':=hW;obtain ⟨p,q,hA0,hV,rfl,hfz,hnd⟩:=hW;have hA:DataW.TrodAll enc Try.prog W 0 (fun _=>true) true Try.f9.params.toList args.toList ds p:=hA0;rw [Try.params9] at hA hval hsz;obtain ⟨v0,vs0,d0,ds0,p0,q0,hargs,rfl,rfl,h0,r0⟩:=trodAll_cons hA;obtain ⟨v1,vs1,d1,ds1,p1,q1,rfl,rfl,rfl,h1,r1⟩:=trodAll_cons r0;obtain ⟨v2,vs2,d2,ds2,p2,q2,rfl,rfl,rfl,h2,r2⟩:=trodAll_cons r1;obtain ⟨rfl,rfl,rfl⟩:=trodAll_nil r2;obtain rfl:args=#[v0,v1,v2]:=by cases args;simp_all
 obtain ⟨rfl,rfl⟩:=trodVars_none hV;obtain ⟨a0,len0,cap0,rfl⟩:=okWide_slice Try.underlying22 (hval 0 22 v0 rfl rfl);have k0:=h0;have lt0: ∀x∈p0,x.block<W.heap.size:=by obtain ⟨m,hm⟩:=k0;exact DataW.trod_lt m _ _ _ hm
 obtain ⟨z0,rfl,w0,y0⟩:=Print.open_wants Try.underlying22 rfl h0;obtain ⟨a1,len1,cap1,rfl⟩:=okWide_slice Try.underlying53 (hval 1 53 v1 rfl rfl);have k1:=h1;have lt1: ∀x∈p1,x.block<W.heap.size:=by obtain ⟨m,hm⟩:=k1;exact DataW.trod_lt m _ _ _ hm
 obtain ⟨z1,rfl,w1,y1⟩:=Print.open_marks Try.underlying53 rfl h1;obtain ⟨a2,len2,cap2,rfl⟩:=okWide_slice Try.underlying46 (hval 2 46 v2 rfl rfl);have k2:=h2;have lt2: ∀x∈p2,x.block<W.heap.size:=by obtain ⟨m,hm⟩:=k2;exact DataW.trod_lt m _ _ _ hm
 obtain ⟨z2,rfl,w2,y2⟩:=Print.open_items Try.underlying46 rfl h2;clear hA0 hval0 hsz0 hsz;obtain ⟨kk,hkk⟩:=Pure.PlanAll z0 z1 z2;refine (Print.law18_PlanAll.calls kk a0 cap0 z0 a1 cap1 z1 a2 cap2 z2 true W y0 w0 y1 w1 y2 w2 hkk).mono fun e W' ⟨he,bel⟩=> ?_
 subst he;exact ⟨_,rfl,_,_,_,[],_,[],hW',trodAll_mk1 (shut_bool Try.underlying4 _),(trodAll_cons_mk (Below.trod laidOut (by kernel_rfl) (of_decide_eq_true (by kernel_rfl)) k0 bel lt0) (trodAll_cons_mk (Below.trod laidOut (by kernel_rfl) (of_decide_eq_true (by kernel_rfl)) k1 bel lt1) (trodAll_cons_mk (Below.trod laidOut (by kernel_rfl) (of_decide_eq_true (by kernel_rfl)) k2 bel lt2) trodAll_mk0))),rfl,bel.frame _,fun h=>by cases h⟩
set_option maxHeartbeats 4000000 in
theorem closedAll:joinedFacts Try.prog 9 Try.f9 Rows.planAllSpec Rows.planAllRow=true:=by
 simp only [joinedFacts,Bool.and_eq_true]
 repeat' apply And.intro
 all_goals (first|(with_reducible exact Head.mayEnter)|(with_reducible exact Head.stopsHeard)|(with_reducible exact Head.laidOut)|(with_reducible exact Head.mapsRowed)|(with_reducible exact Head.stops)|(with_reducible exact Head.stopKnobs)|(rw [Head.lifts];as_aux_lemma=>kernel_rfl)|(rw [Head.make];as_aux_lemma=>kernel_rfl)|(as_aux_lemma=>kernel_rfl))
theorem named:Try.prog.funcNamed Rows.planAllRow.func=some 9:=by kernel_rfl
set_option maxRecDepth 100000 in
theorem over:Rows.planAllRow.holds Try.pinned (OpenSpec.ofChange Rows.planAllSpec):=
 OpenClaim.holds_of_wide 9 Try.f9 rfl rfl rfl rfl rfl rfl rfl ⟨rfl,rfl,rfl,rfl,rfl⟩ rfl rfl rfl rfl rfl named Try.func9 closedAll
  (of_decide_eq_true (by kernel_rfl)) (by unfold Func.isWrapper;first|(rw [if_pos (by decide+kernel)];kernel_rfl)|(rw [if_neg (by decide+kernel)];exact ⟨rfl,rfl⟩))
  (fun os started H enc _=>lifted os started H enc)
theorem proved:Rows.PlanAllSaid:=over
#print axioms proved
end Go.Proofs.Ytahidkjncljkaaa.planAll
namespace Go.Proofs.Ytahidkjncljkaaa
theorem planAll_holds:Rows.PlanAllSaid:=planAll.proved
end Go.Proofs.Ytahidkjncljkaaa
