/- What is said of any declared tree is the document's. -/
import Derived.Test.YtahidkjncljkaaaRows
import Derived.WalkKit
import Derived.ProofKit
import Derived.OpenShut
import Derived.ShutString
import Derived.ChangeOld
import Derived.Below
import Derived.SizedLaws
import Derived.Test.YtahidkjncljkaaaBWantAll0
import Derived.Test.YtahidkjncljkaaaBWantAll3
namespace Go.Proofs.Ytahidkjncljkaaa.wantAll
open Go.ChangeShapes Go.WideShapes Go.ChangeAt Go.RowKit
open Go.ChangeMaps (open_string shut_string)
set_option linter.unusedVariables false
theorem own:ownKnob Try.prog.godebug=none:=by kernel_rfl
theorem laidOut:laidOutB Try.prog=true:=Head.laidOut
set_option maxRecDepth 100000 in
theorem lifted (os:Os) (started:os.Started) (H:Type) (enc:TypeId×Value→H):
  ReturnsInHanded {} Try.checked os 3 .any (Rows.wantAllSpec.pre6 enc Try.prog Try.f3 Rows.wantAllRow.domain false) (Rows.wantAllSpec.post enc Try.prog Try.f3 false true false false):=by
 refine returnsInHanded_of_change_sized (C:=Try.checked) own started (by kernel_rfl) Try.func3
  (ChangeSpec.witness6 (enc:=enc) (C:=Try.checked) false ⟨#[],#[.slice none 0 0, .string ByteArray.empty],[]⟩ 8 (by kernel_rfl) (by kernel_rfl) (by kernel_rfl) (by kernel_rfl)) ?_
 intro W base args ds gs before hval0 hW hcnd hsz0 _
 have hsz:(DataW.weightsEach Try.prog (Try.f3.params.toList++Rows.wantAllSpec.plain.varTypes Try.prog) (ds++gs)).all (· ≤reachBytes)=true:=hsz0
 have hval: ∀(j:Nat) t v,Try.f3.params[j]?=some t→args[j]?=some v→Value.okWide Try.prog W .any base t v:=hval0
 have hW':=hW
 obtain ⟨p,q,hA0,hV,rfl,hfz,hnd⟩:=hW
 have hA:DataW.TrodAll enc Try.prog W 0 (fun _=>true) true Try.f3.params.toList args.toList ds p:=hA0
 rw [Try.params3] at hA hval hsz
 obtain ⟨v0,vs0,d0,ds0,p0,q0,hargs,rfl,rfl,h0,r0⟩:=trodAll_cons hA
 obtain ⟨v1,vs1,d1,ds1,p1,q1,rfl,rfl,rfl,h1,r1⟩:=trodAll_cons r0
 obtain ⟨rfl,rfl,rfl⟩:=trodAll_nil r1
 obtain rfl:args=#[v0,v1]:=by cases args;simp_all
 obtain ⟨rfl,rfl⟩:=trodVars_none hV
 obtain ⟨a0,len0,cap0,rfl⟩:=okWide_slice Try.underlying22 (hval 0 22 v0 rfl rfl)
 have k0:=h0
 have lt0: ∀x∈p0,x.block<W.heap.size:=by obtain ⟨m,hm⟩:=k0;exact DataW.trod_lt m _ _ _ hm
 obtain ⟨z0,rfl,w0,y0⟩:=Print.open_wants Try.underlying22 rfl h0
 obtain ⟨a1,rfl,rfl,rfl,y1⟩:=open_string Try.underlying9 (hval 1 9 v1 rfl rfl) h1
 clear hA0 hval0 hsz0 hsz
 obtain ⟨kk,hkk⟩:=Pure.WantAll z0 a1
 refine (Print.law11_WantAll.calls kk a0 cap0 z0 a1 true W y0 w0 hkk).mono fun e W' ⟨he,bel⟩=> ?_
 subst he
 exact ⟨_,rfl,_,_,_,[],_,[],hW',trodAll_mk1 (shut_bool Try.underlying4 _),(trodAll_cons_mk (Below.trod laidOut (by kernel_rfl) (of_decide_eq_true (by kernel_rfl)) k0 bel lt0) (trodAll_cons_mk (shut_string Try.underlying9 y1) trodAll_mk0)),rfl,bel.frame _,fun h=>by cases h⟩
set_option maxHeartbeats 4000000 in
theorem closedAll:joinedFacts Try.prog 3 Try.f3 Rows.wantAllSpec Rows.wantAllRow=true:=by
 simp only [joinedFacts,Bool.and_eq_true]
 repeat' apply And.intro
 all_goals (first|(with_reducible exact Head.mayEnter)|(with_reducible exact Head.stopsHeard)|(with_reducible exact Head.laidOut)|(with_reducible exact Head.mapsRowed)|(with_reducible exact Head.stops)|(with_reducible exact Head.stopKnobs)|(rw [Head.lifts];as_aux_lemma=>kernel_rfl)|(rw [Head.make];as_aux_lemma=>kernel_rfl)|(as_aux_lemma=>kernel_rfl))
theorem named:Try.prog.funcNamed Rows.wantAllRow.func=some 3:=by kernel_rfl
set_option maxRecDepth 100000 in
theorem over:Rows.wantAllRow.holds Try.pinned (OpenSpec.ofChange Rows.wantAllSpec):=
 OpenClaim.holds_of_wide 3 Try.f3 rfl rfl rfl rfl rfl rfl rfl ⟨rfl,rfl,rfl,rfl,rfl⟩ rfl rfl rfl rfl rfl named Try.func3 closedAll
  (of_decide_eq_true (by kernel_rfl)) (by unfold Func.isWrapper;first|(rw [if_pos (by decide+kernel)];kernel_rfl)|(rw [if_neg (by decide+kernel)];exact ⟨rfl,rfl⟩))
  (fun os started H enc _=>lifted os started H enc)
theorem proved:Rows.WantAllSaid:=over
#print axioms proved
end Go.Proofs.Ytahidkjncljkaaa.wantAll
namespace Go.Proofs.Ytahidkjncljkaaa
theorem wantAll_holds:Rows.WantAllSaid:=wantAll.proved
end Go.Proofs.Ytahidkjncljkaaa
