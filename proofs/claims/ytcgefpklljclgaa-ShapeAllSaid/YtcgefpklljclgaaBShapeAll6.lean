/- What any change makes of any right tree, or its error, is what the document says, and the rows handed in stay as they were. -/
import Derived.Test.YtcgefpklljclgaaRows
import Derived.WalkKit
import Derived.ProofKit
import Derived.OpenShut
import Derived.ShutString
import Derived.ChangeOld
import Derived.Below
import Derived.SizedLaws
import Derived.Test.YtcgefpklljclgaaBShapeAll0
import Derived.Test.YtcgefpklljclgaaBShapeAll4
import Derived.Test.YtcgefpklljclgaaBShapeAll5
namespace Go.Proofs.Ytcgefpklljclgaa.shapeAll
open Go.ChangeShapes Go.WideShapes Go.ChangeAt Go.RowKit
open Go.ChangeMaps (open_string shut_string)
set_option linter.unusedVariables false
theorem own:ownKnob Try.prog.godebug=none:=by kernel_rfl
theorem laidOut:laidOutB Try.prog=true:=Head.laidOut
set_option maxRecDepth 100000 in
theorem lifted (os:Os) (started:os.Started) (H:Type) (enc:TypeId×Value→H):
  ReturnsInHanded {} Try.checked os 25 .any (Rows.shapeAllSpec.pre6 enc Try.prog Try.f25 Rows.shapeAllRow.domain false) (Rows.shapeAllSpec.post enc Try.prog Try.f25 false true false false):=by
 refine returnsInHanded_of_change_sized (C:=Try.checked) own started (by kernel_rfl) Try.func25
  (ChangeSpec.witness6 (enc:=enc) (C:=Try.checked) false ⟨#[],#[.slice none 0 0, .agg #[.int .i64 0, .string ByteArray.empty, .string ByteArray.empty, .int .i64 0, .int .i64 0, .int .i64 0], .int .i64 0],[]⟩ 8 (by kernel_rfl) (by kernel_rfl) (by kernel_rfl) (by kernel_rfl)) ?_
 intro W base args ds gs before hval0 hW hcnd hsz0 _
 have hsz:(DataW.weightsEach Try.prog (Try.f25.params.toList++Rows.shapeAllSpec.plain.varTypes Try.prog) (ds++gs)).all (· ≤reachBytes)=true:=hsz0
 have hval: ∀(j:Nat) t v,Try.f25.params[j]?=some t→args[j]?=some v→Value.okWide Try.prog W .any base t v:=hval0
 have hW':=hW
 obtain ⟨p,q,hA0,hV,rfl,hfz,hnd⟩:=hW
 have hA:DataW.TrodAll enc Try.prog W 0 (fun _=>true) true Try.f25.params.toList args.toList ds p:=hA0
 rw [Try.params25] at hA hval hsz
 obtain ⟨v0,vs0,d0,ds0,p0,q0,hargs,rfl,rfl,h0,r0⟩:=trodAll_cons hA
 obtain ⟨v1,vs1,d1,ds1,p1,q1,rfl,rfl,rfl,h1,r1⟩:=trodAll_cons r0
 obtain ⟨v2,vs2,d2,ds2,p2,q2,rfl,rfl,rfl,h2,r2⟩:=trodAll_cons r1
 obtain ⟨rfl,rfl,rfl⟩:=trodAll_nil r2
 obtain rfl:args=#[v0,v1,v2]:=by cases args;simp_all
 obtain ⟨rfl,rfl⟩:=trodVars_none hV
 obtain ⟨a0,len0,cap0,rfl⟩:=okWide_slice Try.underlying24 (hval 0 24 v0 rfl rfl)
 have k0:=h0
 have lt0: ∀x∈p0,x.block<W.heap.size:=by obtain ⟨m,hm⟩:=k0;exact DataW.trod_lt m _ _ _ hm
 obtain ⟨z0,rfl,w0,y0⟩:=Print.open_items Try.underlying24 rfl h0
 have k1:=h1
 have lt1: ∀x∈p1,x.block<W.heap.size:=by obtain ⟨m,hm⟩:=k1;exact DataW.trod_lt m _ _ _ hm
 obtain ⟨c1,rfl,_⟩:=okWide_struct Try.underlying58 (hval 1 58 v1 rfl rfl)
 obtain ⟨z1,rfl⟩:=Print.open_step_arg h1
 obtain ⟨a2,rfl,rfl,rfl,w2⟩:=open_int Try.underlying3 (hval 2 3 v2 rfl rfl) h2
 clear hA0 hval0 hsz0 hsz
 obtain ⟨kk,hkk⟩:=Pure.ShapeAll z0 z1 a2
 refine (Print.law15_ShapeAll.calls kk a0 cap0 z0 z1.f0 z1.f1 z1.f2 z1.f3.f0 z1.f3.f1 z1.f3.f2 a2 true W y0 w0 hkk).mono fun e W' ⟨he,bel⟩=> ?_
 subst he
 exact ⟨_,rfl,_,_,_,[],_,[],hW',trodAll_mk1 (shut_bool Try.underlying4 _),(trodAll_cons_mk (Below.trod laidOut (by kernel_rfl) (of_decide_eq_true (by kernel_rfl)) k0 bel lt0) (trodAll_cons_mk (Below.trod laidOut (by kernel_rfl) (of_decide_eq_true (by kernel_rfl)) k1 bel lt1) (trodAll_cons_mk (shut_int Try.underlying3 w2) trodAll_mk0))),rfl,bel.frame _,fun h=>by cases h⟩
set_option maxHeartbeats 4000000 in
theorem closedAll:joinedFacts Try.prog 25 Try.f25 Rows.shapeAllSpec Rows.shapeAllRow=true:=by
 simp only [joinedFacts,Bool.and_eq_true]
 repeat' apply And.intro
 all_goals (first|(with_reducible exact Head.mayEnter)|(with_reducible exact Head.stopsHeard)|(with_reducible exact Head.laidOut)|(with_reducible exact Head.mapsRowed)|(with_reducible exact Head.stops)|(with_reducible exact Head.stopKnobs)|(rw [Head.lifts];as_aux_lemma=>kernel_rfl)|(rw [Head.make];as_aux_lemma=>kernel_rfl)|(as_aux_lemma=>kernel_rfl))
theorem named:Try.prog.funcNamed Rows.shapeAllRow.func=some 25:=by kernel_rfl
set_option maxRecDepth 100000 in
theorem over:Rows.shapeAllRow.holds Try.pinned (OpenSpec.ofChange Rows.shapeAllSpec):=
 OpenClaim.holds_of_wide 25 Try.f25 rfl rfl rfl rfl rfl rfl rfl ⟨rfl,rfl,rfl,rfl,rfl⟩ rfl rfl rfl rfl rfl named Try.func25 closedAll
  (of_decide_eq_true (by kernel_rfl)) (by unfold Func.isWrapper;first|(rw [if_pos (by decide+kernel)];kernel_rfl)|(rw [if_neg (by decide+kernel)];exact ⟨rfl,rfl⟩))
  (fun os started H enc _=>lifted os started H enc)
theorem proved:Rows.ShapeAllSaid:=over
#print axioms proved
end Go.Proofs.Ytcgefpklljclgaa.shapeAll
namespace Go.Proofs.Ytcgefpklljclgaa
/-- The row, under a short name, for the claim. -/
theorem shapeAll_holds:Rows.ShapeAllSaid:=shapeAll.proved
end Go.Proofs.Ytcgefpklljclgaa
