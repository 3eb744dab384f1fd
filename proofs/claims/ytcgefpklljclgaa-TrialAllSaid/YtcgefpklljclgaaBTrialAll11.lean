/- What comes of any steps tried on any right tree, and what could be let in then, is what the document says, and what was handed in stays: of any items, name, amount and steps; no condition. -/
import Derived.Test.YtcgefpklljclgaaRows
import Derived.WalkKit
import Derived.ProofKit
import Derived.OpenShut
import Derived.JoinedOf
import Derived.SizedLaws
import Derived.ChangeSlices
import Derived.ShutString
import Derived.ChangeOld
import Derived.Below
import Derived.Test.YtcgefpklljclgaaBTrialAll0
import Derived.Test.YtcgefpklljclgaaBTrialAll9
import Derived.Test.YtcgefpklljclgaaBTrialAll10
namespace Go.Proofs.Ytcgefpklljclgaa.Head
def signs:List Char:=(List.map Char.ofNat [104,97,114,110,101,115,115,32,101,57,98,52,101,102,52,49,56,50,56,101,102,50,55,102,51,55,102,48,53,54,50,55,56,50,54,101,101,100,101,57,53,99,56,98,55,57,99,100,98,99,52,99,49,100,54,49,98,101,98,55,57,55,52,102,49,51,53,99,97,49,48,51,32,99,117,116,32,97,116,32,100,111,111,114,107,101,101,112,101,114,47,100,111,111,114,107,101,101,112,101,114,108,97,119,49,51,46,82,111,111,109,85,112,32,100,111,111,114,107,101,101,112,101,114,47,100,111,111,114,107,101,101,112,101,114,108,97,119,49,55,46,68,114,105,102,116,65,108,108,32,100,111,111,114,107,101,101,112,101,114,47,100,111,111,114,107,101,101,112,101,114,108,97,119,49,55,46,68,114,105,102,116,84,101,108,108,115,32,100,111,111,114,107,101,101,112,101,114,47,100,111,111,114,107,101,101,112,101,114,108,97,119,50,48,46,69,102,102,101,99,116,65,108,108,32,100,111,111,114,107,101,101,112,101,114,47,100,111,111,114,107,101,101,112,101,114,108,97,119,50,48,46,69,102,102,101,99,116,77,97,100,101,32,100,111,111,114,107,101,101,112,101,114,47,100,111,111,114,107,101,101,112,101,114,108,97,119,50,48,46,69,102,102,101,99,116,68,111,110,101,32,100,111,111,114,107,101,101,112,101,114,47,100,111,111,114,107,101,101,112,101,114,108,97,119,49,52,46,65,100,109,105,116,84,119,105,99,101,32,100,111,111,114,107,101,101,112,101,114,47,100,111,111,114,107,101,101,112,101,114,108,97,119,49,51,46,82,111,111,109,70,105,116,115,32,100,111,111,114,107,101,101,112,101,114,47,100,111,111,114,107,101,101,112,101,114,108,97,119,49,50,46,84,114,101,101,65,108,108,32,100,111,111,114,107,101,101,112,101,114,47,100,111,111,114,107,101,101,112,101,114,108,97,119,49,50,46,84,114,101,101,77,97,100,101,32,100,111,111,114,107,101,101,112,101,114,47,100,111,111,114,107,101,101,112,101,114,108,97,119,49,50,46,84,114,101,101,83,117,109,115,32,100,111,111,114,107,101,101,112,101,114,47,100,111,111,114,107,101,101,112,101,114,108,97,119,49,50,46,84,114,101,101,66,101,108,111,119,32,100,111,111,114,107,101,101,112,101,114,47,100,111,111,114,107,101,101,112,101,114,108,97,119,49,51,46,82,111,111,109,83,104,97,114,101,115,32,100,111,111,114,107,101,101,112,101,114,47,100,111,111,114,107,101,101,112,101,114,108,97,119,49,52,46,65,100,109,105,116,65,108,108,32,100,111,111,114,107,101,101,112,101,114,47,100,111,111,114,107,101,101,112,101,114,108,97,119,49,52,46,65,100,109,105,116,77,97,100,101,32,100,111,111,114,107,101,101,112,101,114,47,100,111,111,114,107,101,101,112,101,114,108,97,119,49,52,46,65,100,109,105,116,82,111,111,109,32,100,111,111,114,107,101,101,112,101,114,47,100,111,111,114,107,101,101,112,101,114,108,97,119,49,51,46,82,111,111,109,65,108,108,32,100,111,111,114,107,101,101,112,101,114,47,100,111,111,114,107,101,101,112,101,114,108,97,119,49,51,46,82,111,111,109,77,97,100,101,32,100,111,111,114,107,101,101,112,101,114,47,100,111,111,114,107,101,101,112,101,114,108,97,119,49,53,46,83,104,97,112,101,77,97,110,121,32,100,111,111,114,107,101,101,112,101,114,47,100,111,111,114,107,101,101,112,101,114,108,97,119,49,53,46,83,104,97,112,101,67,111,109,101,115,32,100,111,111,114,107,101,101,112,101,114,47,100,111,111,114,107,101,101,112,101,114,108,97,119,49,53,46,83,104,97,112,101,76,105,109,105,116,115,32,100,111,111,114,107,101,101,112,101,114,47,100,111,111,114,107,101,101,112,101,114,108,97,119,49,53,46,83,104,97,112,101,77,111,118,101,115,32,100,111,111,114,107,101,101,112,101,114,47,100,111,111,114,107,101,101,112,101,114,108,97,119,49,53,46,83,104,97,112,101,65,108,108,32,100,111,111,114,107,101,101,112,101,114,47,100,111,111,114,107,101,101,112,101,114,108,97,119,49,53,46,83,104,97,112,101,77,97,100,101,32,100,111,111,114,107,101,101,112,101,114,47,100,111,111,114,107,101,101,112,101,114,108,97,119,49,53,46,83,104,97,112,101,82,101,115,116,32,100,111,111,114,107,101,101,112,101,114,47,100,111,111,114,107,101,101,112,101,114,108,97,119,49,57,46,84,114,105,97,108,67,117,116,115,32,100,111,111,114,107,101,101,112,101,114,47,100,111,111,114,107,101,101,112,101,114,108,97,119,49,57,46,84,114,105,97,108,65,108,108,32,100,111,111,114,107,101,101,112,101,114,47,100,111,111,114,107,101,101,112,101,114,108,97,119,49,57,46,84,114,105,97,108,77,97,100,101])
set_option maxRecDepth 100000 in
theorem word:Try.prog.initOrder=String.ofList signs:=by kernel_rfl
theorem list:Try.prog.initOrder.toList=signs:=by rw [word,String.toList_ofList]
theorem words_app: ∀(w r:List Char),(∀c∈w,c≠Char.ofNat 32)→wordsSigns (w++Char.ofNat 32::r)=w::wordsSigns r
  |[],r,_=>rfl
  | c :: w, r, h => by
    have hc:c≠Char.ofNat 32:=h c (by simp)
    have ih:=words_app w r (fun d hd=>h d (by simp [hd]))
    show wordsSigns (c::(w++Char.ofNat 32::r))=_
    rw [wordsSigns.eq_3 _ _ (fun q=>hc q),ih]
def w1:List Char:=[Char.ofNat 104,Char.ofNat 97,Char.ofNat 114,Char.ofNat 110,Char.ofNat 101,Char.ofNat 115,Char.ofNat 115]
def w2:List Char:=(List.map Char.ofNat [101,57,98,52,101,102,52,49,56,50,56,101,102,50,55,102,51,55,102,48,53,54,50,55,56,50,54,101,101,100,101,57,53,99,56,98,55,57,99,100,98,99,52,99,49,100,54,49,98,101,98,55,57,55,52,102,49,51,53,99,97,49,48,51])
def w3:List Char:=[Char.ofNat 99,Char.ofNat 117,Char.ofNat 116]
def rest:List Char:=(List.map Char.ofNat [97,116,32,100,111,111,114,107,101,101,112,101,114,47,100,111,111,114,107,101,101,112,101,114,108,97,119,49,51,46,82,111,111,109,85,112,32,100,111,111,114,107,101,101,112,101,114,47,100,111,111,114,107,101,101,112,101,114,108,97,119,49,55,46,68,114,105,102,116,65,108,108,32,100,111,111,114,107,101,101,112,101,114,47,100,111,111,114,107,101,101,112,101,114,108,97,119,49,55,46,68,114,105,102,116,84,101,108,108,115,32,100,111,111,114,107,101,101,112,101,114,47,100,111,111,114,107,101,101,112,101,114,108,97,119,50,48,46,69,102,102,101,99,116,65,108,108,32,100,111,111,114,107,101,101,112,101,114,47,100,111,111,114,107,101,101,112,101,114,108,97,119,50,48,46,69,102,102,101,99,116,77,97,100,101,32,100,111,111,114,107,101,101,112,101,114,47,100,111,111,114,107,101,101,112,101,114,108,97,119,50,48,46,69,102,102,101,99,116,68,111,110,101,32,100,111,111,114,107,101,101,112,101,114,47,100,111,111,114,107,101,101,112,101,114,108,97,119,49,52,46,65,100,109,105,116,84,119,105,99,101,32,100,111,111,114,107,101,101,112,101,114,47,100,111,111,114,107,101,101,112,101,114,108,97,119,49,51,46,82,111,111,109,70,105,116,115,32,100,111,111,114,107,101,101,112,101,114,47,100,111,111,114,107,101,101,112,101,114,108,97,119,49,50,46,84,114,101,101,65,108,108,32,100,111,111,114,107,101,101,112,101,114,47,100,111,111,114,107,101,101,112,101,114,108,97,119,49,50,46,84,114,101,101,77,97,100,101,32,100,111,111,114,107,101,101,112,101,114,47,100,111,111,114,107,101,101,112,101,114,108,97,119,49,50,46,84,114,101,101,83,117,109,115,32,100,111,111,114,107,101,101,112,101,114,47,100,111,111,114,107,101,101,112,101,114,108,97,119,49,50,46,84,114,101,101,66,101,108,111,119,32,100,111,111,114,107,101,101,112,101,114,47,100,111,111,114,107,101,101,112,101,114,108,97,119,49,51,46,82,111,111,109,83,104,97,114,101,115,32,100,111,111,114,107,101,101,112,101,114,47,100,111,111,114,107,101,101,112,101,114,108,97,119,49,52,46,65,100,109,105,116,65,108,108,32,100,111,111,114,107,101,101,112,101,114,47,100,111,111,114,107,101,101,112,101,114,108,97,119,49,52,46,65,100,109,105,116,77,97,100,101,32,100,111,111,114,107,101,101,112,101,114,47,100,111,111,114,107,101,101,112,101,114,108,97,119,49,52,46,65,100,109,105,116,82,111,111,109,32,100,111,111,114,107,101,101,112,101,114,47,100,111,111,114,107,101,101,112,101,114,108,97,119,49,51,46,82,111,111,109,65,108,108,32,100,111,111,114,107,101,101,112,101,114,47,100,111,111,114,107,101,101,112,101,114,108,97,119,49,51,46,82,111,111,109,77,97,100,101,32,100,111,111,114,107,101,101,112,101,114,47,100,111,111,114,107,101,101,112,101,114,108,97,119,49,53,46,83,104,97,112,101,77,97,110,121,32,100,111,111,114,107,101,101,112,101,114,47,100,111,111,114,107,101,101,112,101,114,108,97,119,49,53,46,83,104,97,112,101,67,111,109,101,115,32,100,111,111,114,107,101,101,112,101,114,47,100,111,111,114,107,101,101,112,101,114,108,97,119,49,53,46,83,104,97,112,101,76,105,109,105,116,115,32,100,111,111,114,107,101,101,112,101,114,47,100,111,111,114,107,101,101,112,101,114,108,97,119,49,53,46,83,104,97,112,101,77,111,118,101,115,32,100,111,111,114,107,101,101,112,101,114,47,100,111,111,114,107,101,101,112,101,114,108,97,119,49,53,46,83,104,97,112,101,65,108,108,32,100,111,111,114,107,101,101,112,101,114,47,100,111,111,114,107,101,101,112,101,114,108,97,119,49,53,46,83,104,97,112,101,77,97,100,101,32,100,111,111,114,107,101,101,112,101,114,47,100,111,111,114,107,101,101,112,101,114,108,97,119,49,53,46,83,104,97,112,101,82,101,115,116,32,100,111,111,114,107,101,101,112,101,114,47,100,111,111,114,107,101,101,112,101,114,108,97,119,49,57,46,84,114,105,97,108,67,117,116,115,32,100,111,111,114,107,101,101,112,101,114,47,100,111,111,114,107,101,101,112,101,114,108,97,119,49,57,46,84,114,105,97,108,65,108,108,32,100,111,111,114,107,101,101,112,101,114,47,100,111,111,114,107,101,101,112,101,114,108,97,119,49,57,46,84,114,105,97,108,77,97,100,101])
theorem parts:signs=w1++Char.ofNat 32::(w2++Char.ofNat 32::(w3++Char.ofNat 32::rest)):=by kernel_rfl
theorem behind: ∃r,behindMainWord (wordsSigns Try.prog.initOrder.toList)=w3::r:=by
 refine ⟨wordsSigns rest, ?_⟩
 rw [list,parts,words_app w1 _ (by decide),words_app w2 _ (by decide),words_app w3 _ (by decide)]
 generalize wordsSigns rest=r
 rfl
theorem strip (r:List (List Char)):stripLifts liftWords (w3::r)=([],w3::r):=by kernel_rfl
theorem not_carried (r:List (List Char)):((w3::r).head?==some "carried".toList)=false:=by kernel_rfl
theorem is_cut (r:List (List Char)):((w3::r).head?==some "cut".toList)=true:=by kernel_rfl
theorem not_gc:(w3== "gc".toList||w3== "spec".toList)=false:=by kernel_rfl
theorem cut_:(w3== "cut".toList)=true:=by kernel_rfl
theorem lifts_of {P:Program} {r:List (List Char)} (h:behindMainWord (wordsSigns P.initOrder.toList)=w3::r):P.liftsFinal=false:=by
 unfold Program.liftsFinal Program.headLifts
 simp only [h,strip,not_carried,is_cut,if_true,Bool.false_and,Bool.false_or,List.contains_nil]
theorem make_of {P:Program} {r:List (List Char)} (h:behindMainWord (wordsSigns P.initOrder.toList)=w3::r):P.make=some .cut:=by
 unfold Program.make
 simp only [h,not_gc,cut_,Bool.true_or,if_true,Bool.false_eq_true,if_false]
theorem lifts:Try.prog.liftsFinal=false:=by obtain ⟨r,h⟩:=behind;exact lifts_of h
theorem make:Try.prog.make=some .cut:=by obtain ⟨r,h⟩:=behind;exact make_of h
theorem later:Try.prog.laysLater=false:=by kernel_rfl
theorem reflects:Try.prog.bearsReflect=false:=by kernel_rfl
theorem door:Try.prog.doorFits []=true:=by kernel_rfl
theorem may_of {P:Program} {r:List (List Char)} (h:behindMainWord (wordsSigns P.initOrder.toList)=w3::r) (h1:P.laysLater=false) (h2:P.bearsReflect=false) (h3:P.doorFits []=true):P.mayEnter=true:=by
 unfold Program.mayEnter
 simp only [h,strip,is_cut,h1,h2,h3,List.contains_nil,Bool.not_false,Bool.or_true,Bool.and_true,Bool.and_self]
theorem mayEnter:Try.prog.mayEnter=true:=by obtain ⟨r,h⟩:=behind;exact may_of h later reflects door
theorem stopsHeard:Try.prog.stopsHeard=true:=by kernel_rfl
theorem laidOut:laidOutB Try.prog=true:=by kernel_rfl
theorem mapsRowed:mapsRowed Try.prog=true:=by kernel_rfl
theorem stops:(Try.prog.stops==[])=true:=by kernel_rfl
theorem stopKnobs:(Try.prog.stopKnobs==[])=true:=by kernel_rfl
end Go.Proofs.Ytcgefpklljclgaa.Head

-- PRINTED WORDS (module Derived/Print/Sized.lean): go-gate-2's, for the rows of laws over slices: an AI agent of Go's test side, Tue Nov 17 2026; no person has read it. Lean checks it.
namespace Go.Proofs.YtcgefpklljclgaaW.PrintWords
open Go.ChangeShapes Go.WideShapes
end Go.Proofs.YtcgefpklljclgaaW.PrintWords

namespace Go.Proofs.Ytcgefpklljclgaa.trialAll
open Go.ChangeShapes Go.WideShapes Go.ChangeAt Go.RowKit
open Go.ChangeMaps (open_string shut_string)
set_option linter.unusedVariables false
theorem own:ownKnob Try.prog.godebug=none:=by kernel_rfl
theorem laidOut:laidOutB Try.prog=true:=Head.laidOut
set_option maxRecDepth 100000 in
theorem lifted (os:Os) (started:os.Started) (H:Type) (enc:TypeId×Value→H):
  ReturnsInHanded {} Try.checked os 29 .any (Rows.trialAllSpec.pre6 enc Try.prog Try.f29 Rows.trialAllRow.domain false) (Rows.trialAllSpec.post enc Try.prog Try.f29 false true false false):=by
 refine returnsInHanded_of_change_sized (C:=Try.checked) own started (by kernel_rfl) Try.func29
  (ChangeSpec.witness6 (enc:=enc) (C:=Try.checked) false ⟨#[],#[.slice none 0 0, .string ByteArray.empty, .agg #[.int .i64 0, .int .i64 0, .int .i64 0], .slice none 0 0],[]⟩ 8 (by kernel_rfl) (by kernel_rfl) (by kernel_rfl) (by kernel_rfl)) ?_
 intro W base args ds gs before hval0 hW hcnd hsz0 _
 have hsz:(DataW.weightsEach Try.prog (Try.f29.params.toList++Rows.trialAllSpec.plain.varTypes Try.prog) (ds++gs)).all (· ≤reachBytes)=true:=hsz0
 have hval: ∀(j:Nat) t v,Try.f29.params[j]?=some t→args[j]?=some v→Value.okWide Try.prog W .any base t v:=hval0
 have hW':=hW
 obtain ⟨p,q,hA0,hV,rfl,hfz,hnd⟩:=hW
 have hA:DataW.TrodAll enc Try.prog W 0 (fun _=>true) true Try.f29.params.toList args.toList ds p:=hA0
 rw [Try.params29] at hA hval hsz
 obtain ⟨v0,vs0,d0,ds0,p0,q0,hargs,rfl,rfl,h0,r0⟩:=trodAll_cons hA
 obtain ⟨v1,vs1,d1,ds1,p1,q1,rfl,rfl,rfl,h1,r1⟩:=trodAll_cons r0
 obtain ⟨v2,vs2,d2,ds2,p2,q2,rfl,rfl,rfl,h2,r2⟩:=trodAll_cons r1
 obtain ⟨v3,vs3,d3,ds3,p3,q3,rfl,rfl,rfl,h3,r3⟩:=trodAll_cons r2
 obtain ⟨rfl,rfl,rfl⟩:=trodAll_nil r3
 obtain rfl:args=#[v0,v1,v2,v3]:=by cases args;simp_all
 obtain ⟨rfl,rfl⟩:=trodVars_none hV
 obtain ⟨a0,len0,cap0,rfl⟩:=okWide_slice Try.underlying24 (hval 0 24 v0 rfl rfl)
 have k0:=h0
 have lt0: ∀x∈p0,x.block<W.heap.size:=by obtain ⟨m,hm⟩:=k0;exact DataW.trod_lt m _ _ _ hm
 obtain ⟨z0,rfl,w0,y0⟩:=Print.open_items Try.underlying24 rfl h0
 obtain ⟨a1,rfl,rfl,rfl,y1⟩:=open_string Try.underlying9 (hval 1 9 v1 rfl rfl) h1
 have k2:=h2
 have lt2: ∀x∈p2,x.block<W.heap.size:=by obtain ⟨m,hm⟩:=k2;exact DataW.trod_lt m _ _ _ hm
 obtain ⟨c2,rfl,_⟩:=okWide_struct Try.underlying27 (hval 2 27 v2 rfl rfl)
 obtain ⟨z2,rfl⟩:=Print.open_vec_arg h2
 obtain ⟨a3,len3,cap3,rfl⟩:=okWide_slice Try.underlying40 (hval 3 40 v3 rfl rfl)
 have k3:=h3
 have lt3: ∀x∈p3,x.block<W.heap.size:=by obtain ⟨m,hm⟩:=k3;exact DataW.trod_lt m _ _ _ hm
 obtain ⟨z3,rfl,w3,y3⟩:=Print.open_steps Try.underlying40 rfl h3
 clear hA0 hval0 hsz0 hsz
 obtain ⟨kk,hkk⟩:=Pure.TrialAll z0 a1 z2 z3
 refine (Print.law19_TrialAll.calls kk a0 cap0 z0 a1 z2.f0 z2.f1 z2.f2 a3 cap3 z3 true W y0 w0 y3 w3 hkk).mono fun e W' ⟨he,bel⟩=> ?_
 subst he
 exact ⟨_,rfl,_,_,_,[],_,[],hW',trodAll_mk1 (shut_bool Try.underlying4 _),(trodAll_cons_mk (Below.trod laidOut (by kernel_rfl) (of_decide_eq_true (by kernel_rfl)) k0 bel lt0) (trodAll_cons_mk (shut_string Try.underlying9 y1) (trodAll_cons_mk (Below.trod laidOut (by kernel_rfl) (of_decide_eq_true (by kernel_rfl)) k2 bel lt2) (trodAll_cons_mk (Below.trod laidOut (by kernel_rfl) (of_decide_eq_true (by kernel_rfl)) k3 bel lt3) trodAll_mk0)))),rfl,bel.frame _,fun h=>by cases h⟩
set_option maxHeartbeats 4000000 in
theorem closedAll:joinedFacts Try.prog 29 Try.f29 Rows.trialAllSpec Rows.trialAllRow=true:=by
 simp only [joinedFacts,Bool.and_eq_true]
 repeat' apply And.intro
 all_goals (first|(with_reducible exact Head.mayEnter)|(with_reducible exact Head.stopsHeard)|(with_reducible exact Head.laidOut)|(with_reducible exact Head.mapsRowed)|(with_reducible exact Head.stops)|(with_reducible exact Head.stopKnobs)|(rw [Head.lifts];as_aux_lemma=>kernel_rfl)|(rw [Head.make];as_aux_lemma=>kernel_rfl)|(as_aux_lemma=>kernel_rfl))
theorem named:Try.prog.funcNamed Rows.trialAllRow.func=some 29:=by kernel_rfl
set_option maxRecDepth 100000 in
theorem over:Rows.trialAllRow.holds Try.pinned (OpenSpec.ofChange Rows.trialAllSpec):=
 OpenClaim.holds_of_wide 29 Try.f29 rfl rfl rfl rfl rfl rfl rfl ⟨rfl,rfl,rfl,rfl,rfl⟩ rfl rfl rfl rfl rfl named Try.func29 closedAll
  (of_decide_eq_true (by kernel_rfl)) (by unfold Func.isWrapper;first|(rw [if_pos (by decide+kernel)];kernel_rfl)|(rw [if_neg (by decide+kernel)];exact ⟨rfl,rfl⟩))
  (fun os started H enc _=>lifted os started H enc)
theorem proved:Rows.TrialAllSaid:=over
#print axioms proved
end Go.Proofs.Ytcgefpklljclgaa.trialAll
namespace Go.Proofs.Ytcgefpklljclgaa
theorem trialAll_holds:Rows.TrialAllSaid:=trialAll.proved
end Go.Proofs.Ytcgefpklljclgaa
