/- A part of the proof of DriftAll: the machine's side by the kit's print, contracts and lemmas by this session. -/
import Derived.Test.YtcgefpklljclgaaRows
import Derived.WalkKit
import Derived.ProofKit
import Derived.OpenShut
import Derived.JoinedOf
import Derived.SizedLaws
import Derived.ChangeSlices
import Derived.Test.YtcgefpklljclgaaBDriftAll0
import Derived.Test.YtcgefpklljclgaaBDriftAll2
namespace Go.Proofs.Ytcgefpklljclgaa.Print
open Go.RowKit Go.Proofs.YtcgefpklljclgaaW.PrintWords Go.Proofs.YtcgefpklljclgaaW.PrintLast Go.Proofs.YtcgefpklljclgaaW.PrintMore
set_option linter.unusedVariables false
set_option linter.unusedSimpArgs false
theorem great_l0 (l:List Item): ∀(d i:Nat),150 - i=d→i≤150→i≤l.length→ ∃g,Ev (fun k=>law12_Great.l0 k l i) g∧(g=false→l.length≤130)
  | 0, i, hd, hi, hl => by
    obtain rfl:i=150:=by omega
    have hj:Ev (fun k=>law12_Great.j1 k l ((150:Nat):Int) false) (decide ((l.length:Int)>130)):=by
      refine Ev.step (fun k=>law12_Great.j1.eq_2 (k:=k) ..) ?_
      simp only [Bool.false_eq_true,if_false]
      exact Ev.now _
    refine ⟨decide ((l.length:Int)>130), ?_,fun h=>by have:=of_decide_eq_false h;omega⟩
    refine Ev.step (fun k=>law12_Great.l0.eq_2 (k:=k) ..) ?_
    rw [show decide (((150:Nat):Int)<150)=false from by decide]
    by_cases h:((150:Nat):Int)<(l.length:Int)
    · exact Ev.congr (fun k=>if_pos h) hj
    exact Ev.congr (fun k=>if_neg h) hj
  | d + 1, i, hd, hi, hl => by
    by_cases h:(i:Int)<(l.length:Int)
    · have hj: ∃g,Ev (fun k=>law12_Great.j1 k l (i:Int) true) g∧(g=false→l.length≤130):=by
        have e1:((0:Int)≤(i:Int))=True:=eq_true (by omega)
        have e2:((i:Int)<(l.length:Int))=True:=eq_true h
        have e3:wrap64 ((i:Int)+1)=((i+1:Nat):Int):=by rw [w64 (by omega) (by omega)];rfl
        by_cases h1:((rd_T31 l (i:Int)).f0.size:Int)>100
        · refine ⟨true, ?_, fun q => by cases q⟩
          refine Ev.step (fun k=>law12_Great.j1.eq_2 (k:=k) ..) ?_
          simp only [e1,e2,if_true]
          exact Ev.congr (fun k=>if_pos h1) (Ev.now _)
        by_cases h2:((rd_T31 l (i:Int)).f1.size:Int)>100
        · refine ⟨true, ?_, fun q => by cases q⟩
          refine Ev.step (fun k=>law12_Great.j1.eq_2 (k:=k) ..) ?_
          simp only [e1,e2,if_true]
          exact Ev.congr (fun k=>(if_neg h1).trans (if_pos h2)) (Ev.now _)
        obtain ⟨g,hg,hg2⟩:=great_l0 l d (i+1) (by omega) (by omega) (by omega)
        refine ⟨g, ?_,hg2⟩
        refine Ev.step (fun k=>law12_Great.j1.eq_2 (k:=k) ..) ?_
        simp only [e1,e2,e3,if_true]
        exact Ev.congr (fun k=>(if_neg h1).trans (if_neg h2)) hg
      obtain ⟨g,hg,hg2⟩:=hj
      refine ⟨g, ?_,hg2⟩
      refine Ev.step (fun k=>law12_Great.l0.eq_2 (k:=k) ..) ?_
      rw [show decide ((i:Int)<150)=true from decide_eq_true (by omega)]
      exact Ev.congr (fun k=>if_pos h) hg
    refine ⟨decide ((l.length:Int)>130), ?_,fun h=>by have:=of_decide_eq_false h;omega⟩
    refine Ev.step (fun k=>law12_Great.l0.eq_2 (k:=k) ..) ?_
    refine Ev.congr (fun k=>if_neg h) ?_
    refine Ev.step (fun k=>law12_Great.j1.eq_2 (k:=k) ..) ?_
    simp only [Bool.false_eq_true,if_false]
    exact Ev.now _
theorem great_ev (l:List Item): ∃g,Ev (fun k=>law12_Great.f k l) g∧(g=false→l.length≤130):=great_l0 l _ 0 rfl (by omega) (by omega)
theorem r10_Right_some (l:List Item): ∃b,Ev (fun k=>r10_Right.f k l) b∧(b=true↔RightP l):=by
  by_cases h:RightP l
  · exact ⟨true,r10_Right_ev l (by simp [h]),by simp [h]⟩
  exact ⟨false,r10_Right_ev l (by simp [h]),by simp [h]⟩
abbrev Mark:=S54
abbrev Drift:=S37
theorem rd_mark (l:List Mark) {i:Nat} (h:i<l.length):rd_T54 l (i:Int)=l[i]:=by
 show l.getD (i:Int).toNat _=_
 rw [Int.toNat_natCast,List.getD_eq_getElem?_getD,List.getElem?_eq_getElem h,Option.getD_some]
def sameV (a b:Vec):Prop:=a.f0=b.f0∧a.f1=b.f1∧a.f2=b.f2
instance (a b:Vec):Decidable (sameV a b):=inferInstanceAs (Decidable (_∧_∧_))
def markD (l:List Item) (m:Mark):List Drift:=match look l m.f0 with
 |none=> [⟨m.f0,1⟩]
 |some x=>(if x.f1=m.f1 then [] else [⟨m.f0,2⟩])++(if sameV x.f2 m.f2 then [] else [⟨m.f0,3⟩])
def freshM (l:List Item) (m:Mark):List Mark:=match look l m.f0 with
 |none=> []
 |some x=> [⟨x.f0,x.f1,x.f2,x.f5⟩]
theorem find_some {l:List Item} {n:ByteArray} {x:Item} (h:look l n=some x):drift_live_find.f l n=some (x.f0,x.f1,x.f2.f0,x.f2.f1,x.f2.f2,x.f3.f0,x.f3.f1,x.f3.f2,x.f4.f0,x.f4.f1,x.f4.f2,x.f5,true):=by
 have h0:=fnd_ge.2 ⟨x,h⟩
 have h1:=fnd_lt l n
 unfold drift_live_find.f
 rw [tree_Find_eq]
 simp only [Option.bind_some]
 rw [if_neg (by omega),if_pos h0,if_pos h1,fnd_rd h]
theorem find_none {l:List Item} {n:ByteArray} (h:look l n=none):drift_live_find.f l n=some ((⟨#[]⟩:ByteArray),(⟨#[]⟩:ByteArray),0,0,0,0,0,0,0,0,0,0,false):=by
 unfold drift_live_find.f
 rw [tree_Find_eq]
 simp only [Option.bind_some]
 rw [if_pos (fnd_neg.2 h)]
theorem driftMarkF_eq (l:List Item) (m:Mark):driftMarkF l m=some (markD l m):=by
  unfold driftMarkF markD
  cases h:look l m.f0 with
  | none =>
    rw [find_none h]
    simp only [Option.bind_some]
    rw [if_neg (by simp)]
  | some x =>
    rw [find_some h]
    simp only [Option.bind_some,if_true]
    by_cases c1:x.f1=m.f1
    · rw [if_pos (nm_inj.2 c1),if_pos c1];rfl
    rw [if_neg (fun q=>c1 (nm_inj.1 q)),if_neg c1];rfl
theorem driftL_eq (l:List Item): ∀ms:List Mark,driftL l ms=some (ms.flatMap (markD l))
  |[]=>rfl
  | m :: ms => by
    unfold driftL
    rw [driftMarkF_eq,driftL_eq l ms]
    rfl
theorem markD_len (l:List Item) (m:Mark):(markD l m).length≤2:=driftMarkF_len (driftMarkF_eq l m)
theorem flat_drop {β:Type} (f:Mark→List β) (ms:List Mark) {i:Nat} (h:i<ms.length):(ms.drop i).flatMap f=f ms[i]++(ms.drop (i+1)).flatMap f:=by
 rw [List.drop_eq_getElem_cons h,List.flatMap_cons]
theorem neq_same (a b:Vec):(!(a.f0==b.f0)||(!(a.f1==b.f1)||(!(a.f2==b.f2))))= !decide (sameV a b):=by
 unfold sameV
 by_cases h0:a.f0=b.f0<;>by_cases h1:a.f1=b.f1<;>by_cases h2:a.f2=b.f2<;>simp [h0,h1,h2]
theorem r16_Drifts_l0 (l:List Item) (hl:l.length<1000000) (ms:List Mark) (hs:ms.length<1000000): ∀(d i:Nat) (acc:List Drift),ms.length - i=d→i≤ms.length→acc.length≤2*i→Ev (fun k=>r16_Drifts.l0 k ms l acc (i:Int)) (acc++(ms.drop i).flatMap (markD l))
  | 0, i, acc, hd, hi, ha => by
    refine Ev.step (fun k=>r16_Drifts.l0.eq_2 (k:=k) ..) (Ev.congr (fun k=>if_neg (by omega)) ?_)
    rw [List.drop_of_length_le (by omega),List.flatMap_nil,List.append_nil]
    exact Ev.now _
  | d + 1, i, acc, hd, hi, ha => by
    have hlt:i<ms.length:=by omega
    have e3:wrap64 ((i:Int)+1)=((i+1:Nat):Int):=by rw [w64 (by omega) (by omega)];rfl
    have hlen:=markD_len l ms[i]
    refine Ev.step (fun k=>r16_Drifts.l0.eq_2 (k:=k) ..) ?_
    rw [e3,rd_mark ms hlt]
    refine Ev.congr (fun k=>by rw [if_pos (by omega),if_pos (by omega)]) (Ev.bind (r10_Find_ev l ms[i].f0 hl) ?_)
    have next:=r16_Drifts_l0 l hl ms hs d (i+1) (acc++markD l ms[i]) (by omega) (by omega) (by rw [List.length_append];omega)
    rw [List.append_assoc,←flat_drop (markD l) ms hlt] at next
    unfold markD at next hlen
    cases h:look l ms[i].f0 with
    | none =>
      rw [h] at next
      exact Ev.congr (fun k=>by rw [if_pos (fnd_neg.2 h),if_pos (by omega)]) next
    | some x =>
      have h0:=fnd_ge.2 ⟨x,h⟩
      have h1:=fnd_lt l ms[i].f0
      rw [h] at next
      dsimp only at next
      rw [fnd_rd h]
      refine Ev.congr (fun k=>by rw [if_neg (by omega),if_pos h0,if_pos h1]) ?_
      by_cases c1:x.f1=ms[i].f1
      · rw [if_pos c1, List.nil_append] at next
        refine Ev.congr (fun k=>if_pos (nm_inj.2 c1)) ?_
        rw [neq_same]
        by_cases c2:sameV x.f2 ms[i].f2
        · rw [if_pos c2, List.append_nil] at next
          exact Ev.congr (fun k=>if_neg (by simp [c2])) next
        rw [if_neg c2] at next
        exact Ev.congr (fun k=>by rw [if_pos (by simp [c2]),if_pos (by omega)]) next
      rw [if_neg c1] at next
      refine Ev.congr (fun k=>by rw [if_neg (fun q=>c1 (nm_inj.1 q)),if_pos (by omega)]) ?_
      simp only [Option.bind_some]
      rw [neq_same]
      by_cases c2:sameV x.f2 ms[i].f2
      · rw [if_pos c2, List.append_nil] at next
        exact Ev.congr (fun k=>if_neg (by simp [c2])) next
      rw [if_neg c2,←List.append_assoc] at next
      exact Ev.congr (fun k=>by rw [if_pos (by simp [c2]),if_pos (by rw [List.length_append,List.length_singleton];omega)]) next
theorem r16_Drifts_ev (l:List Item) (hl:l.length<1000000) (ms:List Mark) (hs:ms.length<1000000):Ev (fun k=>r16_Drifts.f k ms l) (ms.flatMap (markD l)):=by
 have h:=r16_Drifts_l0 l hl ms hs ms.length 0 [] (by omega) (by omega) (by simp)
 rw [List.drop_zero,List.nil_append] at h
 exact h
theorem freshM_len (l:List Item) (m:Mark):(freshM l m).length≤1:=by unfold freshM;split<;>simp
theorem drift_Fresh_l0 (l:List Item) (ms:List Mark) (hs:ms.length<1000000): ∀(d i:Nat) (acc:List Mark),ms.length - i=d→i≤ms.length→acc.length≤i→Ev (fun k=>drift_Fresh.l0 k l acc ms (ms.length:Int) (i:Int)) (acc++(ms.drop i).flatMap (freshM l))
  | 0, i, acc, hd, hi, ha => by
    refine Ev.step (fun k=>drift_Fresh.l0.eq_2 (k:=k) ..) (Ev.congr (fun k=>if_neg (by omega)) ?_)
    rw [List.drop_of_length_le (by omega),List.flatMap_nil,List.append_nil]
    exact Ev.now _
  | d + 1, i, acc, hd, hi, ha => by
    have hlt:i<ms.length:=by omega
    have e3:wrap64 ((i:Int)+1)=((i+1:Nat):Int):=by rw [w64 (by omega) (by omega)];rfl
    have hlen:=freshM_len l ms[i]
    refine Ev.step (fun k=>drift_Fresh.l0.eq_2 (k:=k) ..) ?_
    rw [e3,rd_mark ms hlt]
    refine Ev.congr (fun k=>by rw [if_pos (by omega),if_pos (by omega),if_pos (by omega)]) ?_
    have next:=drift_Fresh_l0 l ms hs d (i+1) (acc++freshM l ms[i]) (by omega) (by omega) (by rw [List.length_append];omega)
    rw [List.append_assoc,←flat_drop (freshM l) ms hlt] at next
    unfold freshM at next hlen
    cases h:look l ms[i].f0 with
    | none =>
      rw [h] at next
      dsimp only at next
      rw [List.append_nil] at next
      rw [find_none h]
      simp only [Option.bind_some]
      exact Ev.congr (fun k=>if_neg (by simp)) next
    | some x =>
      rw [h] at next
      dsimp only at next
      rw [find_some h]
      simp only [Option.bind_some,if_true]
      exact Ev.congr (fun k=>if_pos (by omega)) next
theorem drift_Fresh_ev (l:List Item) (ms:List Mark) (hs:ms.length<1000000):Ev (fun k=>drift_Fresh.f k ms l) (ms.flatMap (freshM l)):=by
 have h:=drift_Fresh_l0 l ms hs ms.length 0 [] (by omega) (by omega) (by simp)
 rw [List.drop_zero,List.nil_append] at h
 exact h
theorem r16_Fresh_l0 (l:List Item) (hl:l.length<1000000) (ms:List Mark) (hs:ms.length<1000000): ∀(d i:Nat) (acc:List Mark),ms.length - i=d→i≤ms.length→acc.length≤i→Ev (fun k=>r16_Fresh.l0 k ms l acc (i:Int)) (acc++(ms.drop i).flatMap (freshM l))
  | 0, i, acc, hd, hi, ha => by
    refine Ev.step (fun k=>r16_Fresh.l0.eq_2 (k:=k) ..) (Ev.congr (fun k=>if_neg (by omega)) ?_)
    rw [List.drop_of_length_le (by omega),List.flatMap_nil,List.append_nil]
    exact Ev.now _
  | d + 1, i, acc, hd, hi, ha => by
    have hlt:i<ms.length:=by omega
    have e3:wrap64 ((i:Int)+1)=((i+1:Nat):Int):=by rw [w64 (by omega) (by omega)];rfl
    have hlen:=freshM_len l ms[i]
    refine Ev.step (fun k=>r16_Fresh.l0.eq_2 (k:=k) ..) ?_
    rw [e3,rd_mark ms hlt]
    refine Ev.congr (fun k=>by rw [if_pos (by omega),if_pos (by omega)]) (Ev.bind (r10_Find_ev l ms[i].f0 hl) ?_)
    have next:=r16_Fresh_l0 l hl ms hs d (i+1) (acc++freshM l ms[i]) (by omega) (by omega) (by rw [List.length_append];omega)
    rw [List.append_assoc,←flat_drop (freshM l) ms hlt] at next
    unfold freshM at next hlen
    cases h:look l ms[i].f0 with
    | none =>
      rw [h] at next
      dsimp only at next
      rw [List.append_nil] at next
      exact Ev.congr (fun k=>if_neg (by have:=fnd_neg.2 h;omega)) next
    | some x =>
      have h0:=fnd_ge.2 ⟨x,h⟩
      have h1:=fnd_lt l ms[i].f0
      rw [h] at next
      dsimp only at next
      rw [fnd_rd h]
      refine Ev.congr (fun k=>by rw [if_pos h0,if_pos h0,if_pos h1]) ?_
      unfold r16_mark.f
      simp only [Option.bind_some]
      exact Ev.congr (fun k=>if_pos (by omega)) next
theorem r16_Fresh_ev (l:List Item) (hl:l.length<1000000) (ms:List Mark) (hs:ms.length<1000000):Ev (fun k=>r16_Fresh.f k ms l) (ms.flatMap (freshM l)):=by
 have h:=r16_Fresh_l0 l hl ms hs ms.length 0 [] (by omega) (by omega) (by simp)
 rw [List.drop_zero,List.nil_append] at h
 exact h
theorem da_sameD_l0 (l:List Drift) (hl:l.length<1000000): ∀(d i:Nat),l.length - i=d→i≤l.length→Ev (fun k=>r16_SameDrifts.l0 k l l i) true
  |0,i,hd,hi=>Ev.step (fun k=>r16_SameDrifts.l0.eq_2 (k:=k) ..) (Ev.congr (fun k=>if_neg (by omega)) (Ev.now _))
  | d + 1, i, hd, hi => by
    refine Ev.step (fun k=>r16_SameDrifts.l0.eq_2 (k:=k) ..) ?_
    have e3:wrap64 ((i:Int)+1)=((i+1:Nat):Int):=by rw [w64 (by omega) (by omega)];rfl
    rw [e3]
    refine Ev.congr (fun k=>by rw [if_pos (by omega),if_pos (by omega),if_pos (by omega)]) ?_
    exact Ev.congr (fun k=>if_neg (by simp)) (da_sameD_l0 l hl d (i+1) (by omega) (by omega))
theorem da_sameD (l:List Drift) (hl:l.length<1000000):Ev (fun k=>r16_SameDrifts.f k l l) true:=by
 unfold r16_SameDrifts.f
 exact Ev.congr (fun k=>if_pos rfl) (da_sameD_l0 l hl l.length 0 (by omega) (by omega))
theorem da_sameM_l0 (l:List Mark) (hl:l.length<1000000): ∀(d i:Nat),l.length - i=d→i≤l.length→Ev (fun k=>r16_SameMarks.l0 k l l i) true
  |0,i,hd,hi=>Ev.step (fun k=>r16_SameMarks.l0.eq_2 (k:=k) ..) (Ev.congr (fun k=>if_neg (by omega)) (Ev.now _))
  | d + 1, i, hd, hi => by
    refine Ev.step (fun k=>r16_SameMarks.l0.eq_2 (k:=k) ..) ?_
    have e3:wrap64 ((i:Int)+1)=((i+1:Nat):Int):=by rw [w64 (by omega) (by omega)];rfl
    rw [e3]
    refine Ev.congr (fun k=>by rw [if_pos (by omega),if_pos (by omega),if_pos (by omega)]) ?_
    exact Ev.congr (fun k=>if_neg (by simp)) (da_sameM_l0 l hl d (i+1) (by omega) (by omega))
theorem da_sameM (l:List Mark) (hl:l.length<1000000):Ev (fun k=>r16_SameMarks.f k l l) true:=by
 unfold r16_SameMarks.f
 exact Ev.congr (fun k=>if_pos rfl) (da_sameM_l0 l hl l.length 0 (by omega) (by omega))
theorem flat_len {β:Type} (f:Mark→List β) (n:Nat) (hf: ∀m,(f m).length≤n): ∀ms:List Mark,(ms.flatMap f).length≤n*ms.length
  |[]=>by simp
  | m :: ms => by
    rw [List.flatMap_cons,List.length_append,List.length_cons,Nat.mul_succ]
    have:=flat_len f n hf ms
    have:=hf m
    omega
theorem da_great_end (ms:List Mark): ∃b,Ev (fun k=>law16_Great.l1 k 0 ms [] 0) b∧(b=false→ms.length≤260):=by
  by_cases h:(ms.length:Int)>260
  · refine ⟨true,Ev.step (fun k=>law16_Great.l1.eq_2 (k:=k) ..) (Ev.congr (fun k=>if_neg (by simp)) (Ev.step (fun k=>law16_Great.j3.eq_2 (k:=k) ..) (Ev.congr (fun k=>if_neg (by decide)) (Ev.congr (fun k=>if_pos h) (Ev.now _))))),fun e=>by cases e⟩
  refine ⟨_,Ev.step (fun k=>law16_Great.l1.eq_2 (k:=k) ..) (Ev.congr (fun k=>if_neg (by simp)) (Ev.step (fun k=>law16_Great.j3.eq_2 (k:=k) ..) (Ev.congr (fun k=>if_neg (by decide)) (Ev.congr (fun k=>if_neg h) (Ev.now _))))),fun e=>by omega⟩
theorem da_great_l0 (ms:List Mark): ∀(d i:Nat),300 - i=d→i≤300→ ∃b,Ev (fun k=>law16_Great.l0 k (i:Int) ms [] 0) b∧(b=false→ms.length≤260)
  | d, i, hd, hi => by
    obtain ⟨be,hbe,hbl⟩:=da_great_end ms
    have stop:Ev (fun k=>law16_Great.j1 k (i:Int) false ms [] 0) be:=Ev.step (fun k=>law16_Great.j1.eq_2 (k:=k) ..) (Ev.congr (fun k=>if_neg (by decide)) hbe)
    by_cases h1:(i:Int)<(ms.length:Int)
    · by_cases h2 : (i : Int) < 300
      · match d, hd with
        |0,hd=>omega
        | d + 1, hd =>
          have e3:wrap64 ((i:Int)+1)=((i+1:Nat):Int):=by rw [w64 (by omega) (by omega)];rfl
          have main: ∃b,Ev (fun k=>law16_Great.j1 k (i:Int) true ms [] 0) b∧(b=false→ms.length≤260):=by
            by_cases s1:(((rd_T54 ms (i:Int)).f0).size:Int)>100
            · exact ⟨true,Ev.step (fun k=>law16_Great.j1.eq_2 (k:=k) ..) (Ev.congr (fun k=>by rw [if_pos rfl,if_pos (by omega),if_pos h1,if_pos s1]) (Ev.now _)),fun e=>by cases e⟩
            by_cases s2:(((rd_T54 ms (i:Int)).f1).size:Int)>100
            · exact ⟨true,Ev.step (fun k=>law16_Great.j1.eq_2 (k:=k) ..) (Ev.congr (fun k=>by rw [if_pos rfl,if_pos (by omega),if_pos h1,if_neg s1,if_pos s2]) (Ev.now _)),fun e=>by cases e⟩
            obtain ⟨b,hb,hl⟩:=da_great_l0 ms d (i+1) (by omega) (by omega)
            exact ⟨b,Ev.step (fun k=>law16_Great.j1.eq_2 (k:=k) ..) (Ev.congr (fun k=>by rw [if_pos rfl,if_pos (by omega),if_pos h1,if_neg s1,if_neg s2,e3]) hb),hl⟩
          obtain ⟨b,hb,hl⟩:=main
          exact ⟨b,Ev.step (fun k=>law16_Great.l0.eq_2 (k:=k) ..) (Ev.congr (fun k=>by rw [if_pos h1,decide_eq_true h2]) hb),hl⟩
      exact ⟨be,Ev.step (fun k=>law16_Great.l0.eq_2 (k:=k) ..) (Ev.congr (fun k=>by rw [if_pos h1,decide_eq_false h2]) stop),hbl⟩
    exact ⟨be,Ev.step (fun k=>law16_Great.l0.eq_2 (k:=k) ..) (Ev.congr (fun k=>if_neg h1) stop),hbl⟩
theorem da_awake:law17_awake.f=some true:=by kernel_rfl
theorem da_awake_ev:Ev (fun _=>law17_awake.f.bind fun t=>some t) true:=Ev.const (by rw [da_awake];rfl)
theorem da_text (n:ByteArray) (kd:Int) (h:n.size≤100): ∃t,drift_Text.f n kd=some t∧r16_DriftText.f n kd=some t:=by
  have h0: ∃t,drift_Text.f n kd=some t:=by
    unfold drift_Text.f
    by_cases h1:kd=1
    · rw [if_pos h1,if_pos (by omega)];exact ⟨_,rfl⟩
    rw [if_neg h1]
    by_cases h2:kd=2
    · rw [if_pos h2,if_pos (by omega)];exact ⟨_,rfl⟩
    rw [if_neg h2]
    by_cases h3:kd=3
    · rw [if_pos h3,if_pos (by omega)];exact ⟨_,rfl⟩
    rw [if_neg h3];exact ⟨_,rfl⟩
  obtain ⟨t,ht⟩:=h0
  exact ⟨t,ht,ht⟩
theorem da_j0 {ms:List Mark} {l:List Item} {b:Bool} {n:ByteArray} (hb:b=false→ms.length≤260∧n.size≤100∧l.length≤130) (kd:Int):Ev (fun k=>law17_DriftAll.j0 k ms l b n kd) true:=by
  refine Ev.step (fun k=>law17_DriftAll.j0.eq_2 (k:=k) ..) ?_
  cases b with
  |true=>exact Ev.congr (fun k=>if_pos rfl) da_awake_ev
  | false =>
    obtain ⟨hm,hn,hl⟩:=hb rfl
    obtain ⟨t,ht1,ht2⟩:=da_text n kd hn
    refine Ev.congr (fun k=>if_neg (by decide)) ?_
    rw [ht1,ht2]
    simp only [Option.bind_some,if_true]
    obtain ⟨r,hr,hr2⟩:=r10_Right_some l
    refine Ev.bind hr ?_
    cases r with
    |false=>exact Ev.congr (fun k=>if_neg (by decide)) da_awake_ev
    | true =>
      refine Ev.congr (fun k=>if_pos rfl) ?_
      have e1:drift_Of.f ms l=some (ms.flatMap (markD l)):=by unfold drift_Of.f;rw [if_pos (by omega),driftL_eq]
      have f1:=flat_len (markD l) 2 (markD_len l) ms
      have f2:=flat_len (freshM l) 1 (freshM_len l) ms
      rw [e1]
      simp only [Option.bind_some]
      refine Ev.bind (r16_Drifts_ev l (by omega) ms (by omega)) ?_
      refine Ev.bind (da_sameD _ (by omega)) (Ev.congr (fun k=>if_pos rfl) ?_)
      refine Ev.bind (drift_Fresh_ev l ms (by omega)) (Ev.bind (r16_Fresh_ev l (by omega) ms (by omega)) ?_)
      refine Ev.bind (da_sameM _ (by omega)) (Ev.congr (fun k=>if_pos rfl) da_awake_ev)
end Go.Proofs.Ytcgefpklljclgaa.Print
namespace Go.Proofs.Ytcgefpklljclgaa.Pure
open Go.RowKit Go.Proofs.Ytcgefpklljclgaa.Print Go.Proofs.YtcgefpklljclgaaW.PrintWords Go.Proofs.YtcgefpklljclgaaW.PrintLast
set_option linter.unusedVariables false
set_option linter.unusedSimpArgs false
theorem DriftAll (ms:List Print.Mark) (l:List Print.Item) (d:Print.Drift): ∃k,law17_DriftAll.f k ms l d.f0 d.f1=some true:=by
  obtain ⟨g,hg,hg2⟩:=great_ev l
  unfold law17_DriftAll.f
  refine Ev.rounds (Ev.bind hg ?_)
  cases g with
  |true=>exact Ev.congr (fun k=>if_pos rfl) (da_j0 (fun e=>by cases e) d.f1)
  | false =>
    refine Ev.congr (fun k=>if_neg (by simp)) ?_
    obtain ⟨b,hb,hb2⟩:=da_great_l0 ms 300 0 rfl (by omega)
    have hb':Ev (fun k=>law16_Great.f k ms [] 0) b:=hb
    refine Ev.bind hb' ?_
    cases b with
    |true=>exact Ev.congr (fun k=>if_pos rfl) (da_j0 (fun e=>by cases e) d.f1)
    | false =>
      refine Ev.congr (fun k=>if_neg (by simp)) ?_
      exact da_j0 (fun e=>by
        have:=hb2 rfl
        have:=hg2 rfl
        rw [decide_eq_false_iff_not] at e
        omega) d.f1
end Go.Proofs.Ytcgefpklljclgaa.Pure

namespace Go.Proofs.Ytcgefpklljclgaa.Head
def signs:List Char:=(List.map Char.ofNat [104,97,114,110,101,115,115,32,101,57,98,52,101,102,52,49,56,50,56,101,102,50,55,102,51,55,102,48,53,54,50,55,56,50,54,101,101,100,101,57,53,99,56,98,55,57,99,100,98,99,52,99,49,100,54,49,98,101,98,55,57,55,52,102,49,51,53,99,97,49,48,51,32,99,117,116,32,97,116,32,100,111,111,114,107,101,101,112,101,114,47,100,111,111,114,107,101,101,112,101,114,108,97,119,49,51,46,82,111,111,109,85,112,32,100,111,111,114,107,101,101,112,101,114,47,100,111,111,114,107,101,101,112,101,114,108,97,119,49,55,46,68,114,105,102,116,65,108,108,32,100,111,111,114,107,101,101,112,101,114,47,100,111,111,114,107,101,101,112,101,114,108,97,119,49,55,46,68,114,105,102,116,84,101,108,108,115,32,100,111,111,114,107,101,101,112,101,114,47,100,111,111,114,107,101,101,112,101,114,108,97,119,50,48,46,69,102,102,101,99,116,65,108,108,32,100,111,111,114,107,101,101,112,101,114,47,100,111,111,114,107,101,101,112,101,114,108,97,119,50,48,46,69,102,102,101,99,116,77,97,100,101,32,100,111,111,114,107,101,101,112,101,114,47,100,111,111,114,107,101,101,112,101,114,108,97,119,50,48,46,69,102,102,101,99,116,68,111,110,101,32,100,111,111,114,107,101,101,112,101,114,47,100,111,111,114,107,101,101,112,101,114,108,97,119,49,52,46,65,100,109,105,116,84,119,105,99,101,32,100,111,111,114,107,101,101,112,101,114,47,100,111,111,114,107,101,101,112,101,114,108,97,119,49,51,46,82,111,111,109,70,105,116,115,32,100,111,111,114,107,101,101,112,101,114,47,100,111,111,114,107,101,101,112,101,114,108,97,119,49,50,46,84,114,101,101,65,108,108,32,100,111,111,114,107,101,101,112,101,114,47,100,111,111,114,107,101,101,112,101,114,108,97,119,49,50,46,84,114,101,101,77,97,100,101,32,100,111,111,114,107,101,101,112,101,114,47,100,111,111,114,107,101,101,112,101,114,108,97,119,49,50,46,84,114,101,101,83,117,109,115,32,100,111,111,114,107,101,101,112,101,114,47,100,111,111,114,107,101,101,112,101,114,108,97,119,49,50,46,84,114,101,101,66,101,108,111,119,32,100,111,111,114,107,101,101,112,101,114,47,100,111,111,114,107,101,101,112,101,114,108,97,119,49,51,46,82,111,111,109,83,104,97,114,101,115,32,100,111,111,114,107,101,101,112,101,114,47,100,111,111,114,107,101,101,112,101,114,108,97,119,49,52,46,65,100,109,105,116,65,108,108,32,100,111,111,114,107,101,101,112,101,114,47,100,111,111,114,107,101,101,112,101,114,108,97,119,49,52,46,65,100,109,105,116,77,97,100,101,32,100,111,111,114,107,101,101,112,101,114,47,100,111,111,114,107,101,101,112,101,114,108,97,119,49,52,46,65,100,109,105,116,82,111,111,109,32,100,111,111,114,107,101,101,112,101,114,47,100,111,111,114,107,101,101,112,101,114,108,97,119,49,51,46,82,111,111,109,65,108,108,32,100,111,111,114,107,101,101,112,101,114,47,100,111,111,114,107,101,101,112,101,114,108,97,119,49,51,46,82,111,111,109,77,97,100,101,32,100,111,111,114,107,101,101,112,101,114,47,100,111,111,114,107,101,101,112,101,114,108,97,119,49,53,46,83,104,97,112,101,77,97,110,121,32,100,111,111,114,107,101,101,112,101,114,47,100,111,111,114,107,101,101,112,101,114,108,97,119,49,53,46,83,104,97,112,101,67,111,109,101,115,32,100,111,111,114,107,101,101,112,101,114,47,100,111,111,114,107,101,101,112,101,114,108,97,119,49,53,46,83,104,97,112,101,76,105,109,105,116,115,32,100,111,111,114,107,101,101,112,101,114,47,100,111,111,114,107,101,101,112,101,114,108,97,119,49,53,46,83,104,97,112,101,77,111,118,101,115,32,100,111,111,114,107,101,101,112,101,114,47,100,111,111,114,107,101,101,112,101,114,108,97,119,49,53,46,83,104,97,112,101,65,108,108,32,100,111,111,114,107,101,101,112,101,114,47,100,111,111,114,107,101,101,112,101,114,108,97,119,49,53,46,83,104,97,112,101,77,97,100,101,32,100,111,111,114,107,101,101,112,101,114,47,100,111,111,114,107,101,101,112,101,114,108,97,119,49,53,46,83,104,97,112,101,82,101,115,116,32,100,111,111,114,107,101,101,112,101,114,47,100,111,111,114,107,101,101,112,101,114,108,97,119,49,57,46,84,114,105,97,108,67,117,116,115,32,100,111,111,114,107,101,101,112,101,114,47,100,111,111,114,107,101,101,112,101,114,108,97,119,49,57,46,84,114,105,97,108,65,108,108,32,100,111,111,114,107,101,101,112,101,114,47,100,111,111,114,107,101,101,112,101,114,108,97,119,49,57,46,84,114,105,97,108,77,97,100,101])
set_option maxRecDepth 100000 in
theorem word:Try.prog.initOrder=String.ofList signs:=by kernel_rfl
theorem list:Try.prog.initOrder.toList=signs:=by rw [word,String.toList_ofList]
theorem words_app: ∀(w r:List Char),(∀c∈w,c≠Char.ofNat 32)→wordsSigns (w++Char.ofNat 32::r)=w::wordsSigns r
  |[],r,_=>rfl
  | c :: w, r, h => by
    have hc:c≠Char.ofNat 32:=h c (by simp)
    have ih:=words_app w r (fun d hd=>h d (by simp [hd]))
    show wordsSigns (c::(w++Char.ofNat 32::r))=_
    rw [wordsSigns.eq_3 _ _ (fun q=>hc q),ih]
def w1:List Char:=[Char.ofNat 104,Char.ofNat 97,Char.ofNat 114,Char.ofNat 110,Char.ofNat 101,Char.ofNat 115,Char.ofNat 115]
def w2:List Char:=(List.map Char.ofNat [101,57,98,52,101,102,52,49,56,50,56,101,102,50,55,102,51,55,102,48,53,54,50,55,56,50,54,101,101,100,101,57,53,99,56,98,55,57,99,100,98,99,52,99,49,100,54,49,98,101,98,55,57,55,52,102,49,51,53,99,97,49,48,51])
def w3:List Char:=[Char.ofNat 99,Char.ofNat 117,Char.ofNat 116]
def rest:List Char:=(List.map Char.ofNat [97,116,32,100,111,111,114,107,101,101,112,101,114,47,100,111,111,114,107,101,101,112,101,114,108,97,119,49,51,46,82,111,111,109,85,112,32,100,111,111,114,107,101,101,112,101,114,47,100,111,111,114,107,101,101,112,101,114,108,97,119,49,55,46,68,114,105,102,116,65,108,108,32,100,111,111,114,107,101,101,112,101,114,47,100,111,111,114,107,101,101,112,101,114,108,97,119,49,55,46,68,114,105,102,116,84,101,108,108,115,32,100,111,111,114,107,101,101,112,101,114,47,100,111,111,114,107,101,101,112,101,114,108,97,119,50,48,46,69,102,102,101,99,116,65,108,108,32,100,111,111,114,107,101,101,112,101,114,47,100,111,111,114,107,101,101,112,101,114,108,97,119,50,48,46,69,102,102,101,99,116,77,97,100,101,32,100,111,111,114,107,101,101,112,101,114,47,100,111,111,114,107,101,101,112,101,114,108,97,119,50,48,46,69,102,102,101,99,116,68,111,110,101,32,100,111,111,114,107,101,101,112,101,114,47,100,111,111,114,107,101,101,112,101,114,108,97,119,49,52,46,65,100,109,105,116,84,119,105,99,101,32,100,111,111,114,107,101,101,112,101,114,47,100,111,111,114,107,101,101,112,101,114,108,97,119,49,51,46,82,111,111,109,70,105,116,115,32,100,111,111,114,107,101,101,112,101,114,47,100,111,111,114,107,101,101,112,101,114,108,97,119,49,50,46,84,114,101,101,65,108,108,32,100,111,111,114,107,101,101,112,101,114,47,100,111,111,114,107,101,101,112,101,114,108,97,119,49,50,46,84,114,101,101,77,97,100,101,32,100,111,111,114,107,101,101,112,101,114,47,100,111,111,114,107,101,101,112,101,114,108,97,119,49,50,46,84,114,101,101,83,117,109,115,32,100,111,111,114,107,101,101,112,101,114,47,100,111,111,114,107,101,101,112,101,114,108,97,119,49,50,46,84,114,101,101,66,101,108,111,119,32,100,111,111,114,107,101,101,112,101,114,47,100,111,111,114,107,101,101,112,101,114,108,97,119,49,51,46,82,111,111,109,83,104,97,114,101,115,32,100,111,111,114,107,101,101,112,101,114,47,100,111,111,114,107,101,101,112,101,114,108,97,119,49,52,46,65,100,109,105,116,65,108,108,32,100,111,111,114,107,101,101,112,101,114,47,100,111,111,114,107,101,101,112,101,114,108,97,119,49,52,46,65,100,109,105,116,77,97,100,101,32,100,111,111,114,107,101,101,112,101,114,47,100,111,111,114,107,101,101,112,101,114,108,97,119,49,52,46,65,100,109,105,116,82,111,111,109,32,100,111,111,114,107,101,101,112,101,114,47,100,111,111,114,107,101,101,112,101,114,108,97,119,49,51,46,82,111,111,109,65,108,108,32,100,111,111,114,107,101,101,112,101,114,47,100,111,111,114,107,101,101,112,101,114,108,97,119,49,51,46,82,111,111,109,77,97,100,101,32,100,111,111,114,107,101,101,112,101,114,47,100,111,111,114,107,101,101,112,101,114,108,97,119,49,53,46,83,104,97,112,101,77,97,110,121,32,100,111,111,114,107,101,101,112,101,114,47,100,111,111,114,107,101,101,112,101,114,108,97,119,49,53,46,83,104,97,112,101,67,111,109,101,115,32,100,111,111,114,107,101,101,112,101,114,47,100,111,111,114,107,101,101,112,101,114,108,97,119,49,53,46,83,104,97,112,101,76,105,109,105,116,115,32,100,111,111,114,107,101,101,112,101,114,47,100,111,111,114,107,101,101,112,101,114,108,97,119,49,53,46,83,104,97,112,101,77,111,118,101,115,32,100,111,111,114,107,101,101,112,101,114,47,100,111,111,114,107,101,101,112,101,114,108,97,119,49,53,46,83,104,97,112,101,65,108,108,32,100,111,111,114,107,101,101,112,101,114,47,100,111,111,114,107,101,101,112,101,114,108,97,119,49,53,46,83,104,97,112,101,77,97,100,101,32,100,111,111,114,107,101,101,112,101,114,47,100,111,111,114,107,101,101,112,101,114,108,97,119,49,53,46,83,104,97,112,101,82,101,115,116,32,100,111,111,114,107,101,101,112,101,114,47,100,111,111,114,107,101,101,112,101,114,108,97,119,49,57,46,84,114,105,97,108,67,117,116,115,32,100,111,111,114,107,101,101,112,101,114,47,100,111,111,114,107,101,101,112,101,114,108,97,119,49,57,46,84,114,105,97,108,65,108,108,32,100,111,111,114,107,101,101,112,101,114,47,100,111,111,114,107,101,101,112,101,114,108,97,119,49,57,46,84,114,105,97,108,77,97,100,101])
theorem parts:signs=w1++Char.ofNat 32::(w2++Char.ofNat 32::(w3++Char.ofNat 32::rest)):=by kernel_rfl
theorem behind: ∃r,behindMainWord (wordsSigns Try.prog.initOrder.toList)=w3::r:=by
 refine ⟨wordsSigns rest, ?_⟩
 rw [list,parts,words_app w1 _ (by decide),words_app w2 _ (by decide),words_app w3 _ (by decide)]
 generalize wordsSigns rest=r
 rfl
theorem strip (r:List (List Char)):stripLifts liftWords (w3::r)=([],w3::r):=by kernel_rfl
theorem not_carried (r:List (List Char)):((w3::r).head?==some "carried".toList)=false:=by kernel_rfl
theorem is_cut (r:List (List Char)):((w3::r).head?==some "cut".toList)=true:=by kernel_rfl
theorem not_gc:(w3== "gc".toList||w3== "spec".toList)=false:=by kernel_rfl
theorem cut_:(w3== "cut".toList)=true:=by kernel_rfl
theorem lifts_of {P:Program} {r:List (List Char)} (h:behindMainWord (wordsSigns P.initOrder.toList)=w3::r):P.liftsFinal=false:=by
 unfold Program.liftsFinal Program.headLifts
 simp only [h,strip,not_carried,is_cut,if_true,Bool.false_and,Bool.false_or,List.contains_nil]
theorem make_of {P:Program} {r:List (List Char)} (h:behindMainWord (wordsSigns P.initOrder.toList)=w3::r):P.make=some .cut:=by
 unfold Program.make
 simp only [h,not_gc,cut_,Bool.true_or,if_true,Bool.false_eq_true,if_false]
theorem lifts:Try.prog.liftsFinal=false:=by obtain ⟨r,h⟩:=behind;exact lifts_of h
theorem make:Try.prog.make=some .cut:=by obtain ⟨r,h⟩:=behind;exact make_of h
theorem later:Try.prog.laysLater=false:=by kernel_rfl
theorem reflects:Try.prog.bearsReflect=false:=by kernel_rfl
theorem door:Try.prog.doorFits []=true:=by kernel_rfl
theorem may_of {P:Program} {r:List (List Char)} (h:behindMainWord (wordsSigns P.initOrder.toList)=w3::r) (h1:P.laysLater=false) (h2:P.bearsReflect=false) (h3:P.doorFits []=true):P.mayEnter=true:=by
 unfold Program.mayEnter
 simp only [h,strip,is_cut,h1,h2,h3,List.contains_nil,Bool.not_false,Bool.or_true,Bool.and_true,Bool.and_self]
theorem mayEnter:Try.prog.mayEnter=true:=by obtain ⟨r,h⟩:=behind;exact may_of h later reflects door
theorem stopsHeard:Try.prog.stopsHeard=true:=by kernel_rfl
theorem laidOut:laidOutB Try.prog=true:=by kernel_rfl
theorem mapsRowed:mapsRowed Try.prog=true:=by kernel_rfl
theorem stops:(Try.prog.stops==[])=true:=by kernel_rfl
theorem stopKnobs:(Try.prog.stopKnobs==[])=true:=by kernel_rfl
end Go.Proofs.Ytcgefpklljclgaa.Head

-- PRINTED WORDS (module Derived/Print/Sized.lean): go-gate-2's, for the rows of laws over slices: an AI agent of Go's test side, Tue Nov 17 2026; no person has read it. Lean checks it.
namespace Go.Proofs.YtcgefpklljclgaaW.PrintWords
open Go.ChangeShapes Go.WideShapes
end Go.Proofs.YtcgefpklljclgaaW.PrintWords
