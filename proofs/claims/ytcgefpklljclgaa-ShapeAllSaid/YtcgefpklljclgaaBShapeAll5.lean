/- A part of the proof of ShapeAll: the machine's side by the kit's print, contracts and lemmas by this session. -/
import Derived.Test.YtcgefpklljclgaaRows
import Derived.WalkKit
import Derived.ProofKit
import Derived.OpenShut
import Derived.JoinedOf
import Derived.SizedLaws
import Derived.ChangeSlices
import Derived.Test.YtcgefpklljclgaaBShapeAll0
import Derived.Test.YtcgefpklljclgaaBShapeAll1
import Derived.Test.YtcgefpklljclgaaBShapeAll3
import Derived.Test.YtcgefpklljclgaaBShapeAll4
namespace Go.Proofs.Ytcgefpklljclgaa.Print
open Go.RowKit Go.Proofs.YtcgefpklljclgaaW.PrintWords Go.Proofs.YtcgefpklljclgaaW.PrintLast Go.Proofs.YtcgefpklljclgaaW.PrintMore
set_option linter.unusedVariables false
set_option linter.unusedSimpArgs false
theorem movR_eq {l:List Item} {n p:ByteArray} {ver:Int} {x:Item} (h2:oldR l n ver=0) (hx:look l n=some x) (h3: ¬(p≠⟨#[]⟩∧(look l p).isNone=true)) (h4:n ∉ up l p):movR l n p ver=if 9007199254740992≤x.f5 then ([],4) else if movB l x p=true then (movL l n p x,0) else ([],12):=by
 unfold movR
 rw [if_neg (by simpa using h2),if_neg h3,if_neg h4]
 simp only [hx]
theorem hasStr_false {l:List ByteArray} {s:ByteArray} (h:s ∉ l):hasStr l s=false:=by
 cases q:hasStr l s with
 |false=>rfl
 |true=>exact absurd (hasStr_iff.1 q) h
theorem shape_Move_ev {l:List Item} (hl:RightP l) (n p:ByteArray) (ver:Int):Ev (fun k=>shape_Move.f k l n p ver) (movR l n p ver):=by
  have hlen:=hl.len
  unfold shape_Move.f
  rw [shape_made_eq l n (by omega)]
  simp only [Option.bind_some,guardF_eq]
  by_cases h2:oldR l n ver=0
  · obtain ⟨x, hx, _⟩ := oldR_zero h2
    have hxm:=(look_mem hx).1
    simp only [h2,ne_eq,not_true_eq_false,if_false]
    refine Ev.bind (tree_Up_ev l p (by omega)) ?_
    simp only [shape_parent_eq,Option.bind_some]
    by_cases h3:p≠⟨#[]⟩∧(look l p).isNone=true
    · unfold movR
      rw [if_neg (by simpa using h2),if_pos h3]
      exact Ev.congr (fun k=>if_pos (by simpa using h3)) (Ev.now _)
    · refine Ev.congr (fun k => if_neg (by simpa using h3)) ?_
      refine Ev.bind (contains_ev _ _ (way_len hl p)) ?_
      by_cases h4:n∈up l p
      · unfold movR
        rw [if_neg (by simpa using h2),if_neg h3,if_pos h4,hasStr_iff.2 h4]
        exact Ev.congr (fun k=>if_pos rfl) (Ev.now _)
      · rw [movR_eq h2 hx h3 h4, hasStr_false h4]
        refine Ev.congr (fun k=>if_neg (by simp)) ?_
        rw [olderF_eq hl hx]
        by_cases h5:9007199254740992≤x.f5
        · simp only [h5, if_true, Option.bind_some]
          exact Ev.congr (fun k=>if_pos (by simp)) (Ev.now _)
        · simp only [h5, if_false, Option.bind_some]
          refine Ev.congr (fun k=>if_neg (by simp)) ?_
          have j0:=fnd_ge.2 ⟨x,hx⟩
          have j1:=fnd_lt l n
          simp only [rd_set j0 j1]
          refine Ev.bind (tree_Up_ev l x.f1 (by omega)) ?_
          have hf:Ev (fun k=>fitsF k l (up l x.f1) x.f4 (up l p)) (movB l x p):=fits_ev hl (hl.ok x hxm).sub (up l x.f1) (way_len hl _) (up l p) (fun s hs=>mv_in hl hs)
          refine Ev.bind hf ?_
          cases movB l x p with
          |false=>exact Ev.congr (fun k=>if_pos rfl) (Ev.now _)
          | true =>
            refine Ev.congr (fun k=>if_neg (by simp)) ?_
            have hver: ∀z:Item,(⟨z.f0,z.f1,z.f2,z.f3,z.f4,z.f5+1⟩:Item).f0=z.f0:=fun _=>rfl
            have e2:l.set (fnd l n).toNat (⟨x.f0,x.f1,x.f2,x.f3,x.f4,x.f5+1⟩:Item)=l.map (updF [n] fun z=>⟨z.f0,z.f1,z.f2,z.f3,z.f4,z.f5+1⟩):=set_one (f:=fun z=>⟨z.f0,z.f1,z.f2,z.f3,z.f4,z.f5+1⟩) hl.nodup hx rfl
            have hn2:((l.set (fnd l n).toNat (⟨x.f0,x.f1,x.f2,x.f3,x.f4,x.f5+1⟩:Item)).map (·.f0)).Nodup:=by rw [e2];exact nodup_upd hver hl.nodup
            have hs1:=shiftF_eq (mvSub x.f4) (up l x.f1) _ hn2 (hl.chainAll _).nodup (fun s hs=>by
              obtain ⟨y,hy⟩:=mv_in hl hs
              exact ⟨_,by rw [e2,look_upd hver,hy];rfl⟩)
            have hs2:=shiftF_eq (mvAdd x.f4) (up l p) _ (nodup_upd (shSub_name (mvSub x.f4)) hn2) (hl.chainAll _).nodup (fun s hs=>by
              obtain ⟨y,hy⟩:=mv_in hl hs
              exact ⟨_,by rw [look_upd (us:=up l x.f1) (shSub_name (mvSub x.f4)),e2,look_upd (us:=[n]) hver,hy];rfl⟩)
            simp only [if_true]
            refine Ev.const ?_
            rw [hs1]
            simp only [Option.bind_some]
            rw [hs2]
            simp only [Option.bind_some]
            exact congrArg (fun q=>some (q,(0:Int))) (mov_prog hl hx h4)
  · unfold movR
    simp only [h2,ne_eq,not_false_eq_true,if_true]
    exact Ev.now _
theorem r10_Move_ev {l:List Item} (hl:RightP l) (n p:ByteArray) (ver:Int):Ev (fun k=>r10_Move.f k l n p ver) (movR l n p ver):=by
  have hlen:=hl.len
  have hno: ∀e:Int,((r10_no.f e).bind fun bt=>some (bt.1,bt.2))=some (([]:List Item),e):=fun _=>rfl
  refine Ev.bind (r10_old_ev l n ver (by omega)) ?_
  by_cases h2:oldR l n ver=0
  · obtain ⟨x, hx, _⟩ := oldR_zero h2
    have j0:=fnd_ge.2 ⟨x,hx⟩
    have j1:=fnd_lt l n
    rw [h2]
    refine Ev.congr (fun k=>if_pos rfl) (Ev.bind (r10_Find_ev l n (by omega)) (Ev.bind (r10_Up_ev l p (by omega)) ?_))
    have hj0: ∀b,b=decide (p≠⟨#[]⟩∧(look l p).isNone=true)→Ev (fun k=>r10_Move.j0 k l n p (fnd l n) (up l p) b) (movR l n p ver):=by
      rintro b rfl
      by_cases h3:p≠⟨#[]⟩∧(look l p).isNone=true
      · refine Ev.step (f := fun _ => some ([], 2)) (fun k => ?_) ?_
        · simp only [r10_Move.j0]
          rw [if_pos (decide_eq_true h3)]
          exact hno 2
        · unfold movR
          rw [if_neg (by simpa using h2),if_pos h3]
          exact Ev.now _
      · refine Ev.step (f := fun k => (r10_in.f k (up l p) n).bind fun t15 => if t15 = true then some ([], 10) else if x.f5 ≥ 9007199254740992 then some ([], 4) else (r10_Up.f k l x.f1).bind fun t29 => r10_Move.l0 k l p (fnd l n) (up l p) l t29 0) (fun k => ?_) (Ev.bind (r10_in_ev _ _ (way_len hl p)) ?_)
        · simp only [r10_Move.j0]
          rw [if_neg (by simpa using h3),fnd_rd hx,r10_copied_eq l (by omega)]
          simp only [eq_true j0,eq_true j1,if_true,Option.bind_some]
          rfl
        · by_cases h4 : n ∈ up l p
          · unfold movR
            rw [if_neg (by simpa using h2),if_neg h3,if_pos h4,hasStr_iff.2 h4]
            exact Ev.congr (fun k=>if_pos rfl) (Ev.now _)
          · rw [movR_eq h2 hx h3 h4, hasStr_false h4]
            refine Ev.congr (fun k=>if_neg (by simp)) ?_
            by_cases h5:9007199254740992≤x.f5
            · rw [if_pos h5]
              exact Ev.congr (fun k=>if_pos h5) (Ev.now _)
            · rw [if_neg h5]
              refine Ev.congr (fun k=>if_neg h5) (Ev.bind (r10_Up_ev l x.f1 (by omega)) ?_)
              refine mv_l0 hx (up l p) (up l x.f1) (way_len hl _) _ 0 l rfl (by omega) (by omega) hl.nodup (by rw [List.drop_zero];exact (hl.chainAll _).nodup) (by rw [List.drop_zero];exact fun s hs=>mv_in hl hs) ?_
              rw [List.drop_zero]
              have hin2: ∀s∈up l p,∃y,look (l.map (updF (up l x.f1) (shSub (mvSub x.f4)))) s=some y:=fun s hs=>by
                obtain ⟨y,hy⟩:=mv_in hl hs
                exact ⟨_,by rw [look_upd (shSub_name _),hy];rfl⟩
              have h6:=mv_l1 (p:=p) hx (up l p) (way_len hl p) _ 0 (l.map (updF (up l x.f1) (shSub (mvSub x.f4)))) rfl (by omega) (by rw [List.length_map];omega) (by rw [List.length_map]) (nodup_upd (shSub_name _) hl.nodup) (by rw [List.drop_zero];exact (hl.chainAll _).nodup) (by rw [List.drop_zero];exact hin2)
              rw [List.drop_zero,chk_movB hl hx,mov_doc hl hx h4] at h6
              exact h6
    by_cases hp:p=⟨#[]⟩
    · refine Ev.congr (fun k => if_pos (nm_empty.2 hp)) (hj0 _ ?_)
      rw [eq_comm,decide_eq_false_iff_not]
      exact fun h=>h.1 hp
    · refine Ev.congr (fun k => if_neg (fun e => hp (nm_empty.1 e))) (hj0 _ ?_)
      cases q:look l p with
      | none =>
        rw [show up l p=[] from upGo_none q _]
        simp [hp]
      | some y =>
        have:=List.length_pos_of_mem (up_self q)
        simp only [Option.isNone_some,Bool.false_eq_true,and_false,decide_false]
        exact beq_eq_false_iff_ne.2 (by omega)
  · unfold movR
    rw [if_pos h2]
    refine Ev.congr (fun k=>if_neg h2) ?_
    exact Ev.const (hno _)
end Go.Proofs.Ytcgefpklljclgaa.Print

namespace Go.Proofs.Ytcgefpklljclgaa.Print
open Go.RowKit Go.Proofs.YtcgefpklljclgaaW.PrintWords Go.Proofs.YtcgefpklljclgaaW.PrintLast Go.Proofs.YtcgefpklljclgaaW.PrintMore
set_option linter.unusedVariables false
set_option linter.unusedSimpArgs false
theorem sumBy_ge {g:Item→Int}: ∀{l:List Item},(∀x∈l,0≤g x)→ ∀{x:Item},x∈l→g x≤sumBy g l
  |[],_,_,h=>by cases h
  | y :: l, hn, x, hx => by
    rw [sumBy_cons]
    have h0:=hn y (by simp)
    have h1:=sumBy_nonneg (g:=g) (l:=l) (fun z hz=>hn z (by simp [hz]))
    rcases List.mem_cons.1 hx with rfl|hx
    · omega
    · have := sumBy_ge (g := g) (l := l) (fun z hz => hn z (by simp [hz])) hx
      omega
/-- what a child has in use its parent has -/
theorem child_le {l:List Item} (hl:RightP l) {x y:Item} (hx:x∈l) (hy:look l x.f1=some y) (c:Comp):c.of x.f4≤c.of y.f4:=by
  obtain ⟨hy1,hy2⟩:=look_mem hy
  have h1:=hl.sum c y hy1
  have h2:=((hl.ok y hy1).own c).1
  have h3:c.of x.f4≤csum c l y.f0:=by
    have:=sumBy_ge (g:=fun z=>if z.f1=y.f0 then c.of z.f4 else 0) (l:=l) (fun z hz=>by
      show 0≤(if z.f1=y.f0 then c.of z.f4 else 0)
      split
      · exact ((hl.ok z hz).sub c).1
      · omega) hx
    rw [if_pos hy2.symm] at this
    exact this
  omega
theorem sub_up' {l:List Item} (hl:RightP l) (c:Comp) {n:ByteArray} {us:List ByteArray} (h:Chain l n us): ∀{x:Item},look l n=some x→ ∀{z:Item},z∈l→z.f0∈us→c.of x.f4≤c.of z.f4:=by
  induction h with
  |nil h=>intro x _ z _ hz;cases hz
  | @cons n x us h k ih =>
    intro x' hx' z hz hm
    rw [h] at hx'
    obtain rfl:=Option.some.inj hx'
    obtain ⟨hx,hn⟩:=look_mem h
    rcases List.mem_cons.1 hm with e|hm
    · obtain rfl := hl.eq_of hz hx (e.trans hn.symm)
      omega
    · cases k with
      |nil _=>cases hm
      | @cons _ y _ hy k =>
        have h1:=child_le hl hx hy c
        have h2:=ih hy hz hm
        omega
/-- what is in use below is in use above -/
theorem sub_up {l:List Item} (hl:RightP l) {x z:Item} (hx:x∈l) (hz:z∈l) (hm:z.f0∈up l x.f0) (c:Comp):c.of x.f4≤c.of z.f4:=sub_up' hl c (hl.chainAll x.f0) (hl.look hx) hz hm
end Go.Proofs.Ytcgefpklljclgaa.Print

namespace Go.Proofs.Ytcgefpklljclgaa.Print
open Go.RowKit Go.Proofs.YtcgefpklljclgaaW.PrintWords Go.Proofs.YtcgefpklljclgaaW.PrintLast Go.Proofs.YtcgefpklljclgaaW.PrintMore
set_option linter.unusedVariables false
set_option linter.unusedSimpArgs false
/-! a step; what comes of one is right -/
def doR (l:List Item) (kd:Int) (n p:ByteArray) (v:Vec) (ver:Int):List Item×Int:=
 if kd=1 then creR l n p v else if kd=2 then limR l n v ver else if kd=3 then movR l n p ver else if kd=4 then delR l n ver else ([],1)
theorem shape_Do_ev {l:List Item} (hl:RightP l) (kd:Int) (n p:ByteArray) (v:Vec) (ver:Int):Ev (fun k=>shape_Do.f k l kd n p v.f0 v.f1 v.f2 ver) (doR l kd n p v ver):=by
  have hlen:=hl.len
  unfold shape_Do.f doR
  by_cases h1:kd=1
  · simp only [h1, if_true]
    refine Ev.const ?_
    rw [shape_Create_eq (by omega)]
    rfl
  · by_cases h2 : kd = 2
    · simp only [h1, h2, if_false, if_true]
      refine Ev.const ?_
      rw [shape_Limit_eq hl]
      rfl
    · by_cases h3 : kd = 3
      · simp only [h1, h2, h3, if_false, if_true]
        exact Ev.bind (shape_Move_ev hl n p ver) (Ev.now _)
      · by_cases h4 : kd = 4
        · simp only [h1, h2, h3, h4, if_false, if_true]
          exact Ev.bind (shape_Delete_ev hl n ver) (Ev.now _)
        · simp only [h1, h2, h3, h4, if_false]
          exact Ev.now _
theorem r10_Do_ev {l:List Item} (hl:RightP l) (kd:Int) (n p:ByteArray) (v:Vec) (ver:Int):Ev (fun k=>r10_Do.f k l kd n p v.f0 v.f1 v.f2 ver) (doR l kd n p v ver):=by
  have hlen:=hl.len
  unfold r10_Do.f doR
  by_cases h1:kd=1
  · simp only [h1, if_true]
    exact Ev.bind (r10_Create_ev (by omega) n p v) (Ev.now _)
  · by_cases h2 : kd = 2
    · simp only [h1, h2, if_false, if_true]
      exact Ev.bind (r10_Limit_ev hl n v ver) (Ev.now _)
    · by_cases h3 : kd = 3
      · simp only [h1, h2, h3, if_false, if_true]
        exact Ev.bind (r10_Move_ev hl n p ver) (Ev.now _)
      · by_cases h4 : kd = 4
        · simp only [h1, h2, h3, h4, if_false, if_true]
          exact Ev.bind (r10_Delete_ev hl n ver) (Ev.now _)
        · simp only [h1, h2, h3, h4, if_false]
          exact Ev.now _
/-- a map that leaves names, parents, own and all use leaves a tree right -/
theorem map_right {l:List Item} (hl:RightP l) {f:Item→Item} (h0: ∀x,(f x).f0=x.f0) (h1: ∀x,(f x).f1=x.f1) (h3: ∀x,(f x).f3=x.f3) (h4: ∀x,(f x).f4=x.f4) (h2: ∀x∈l,MayP (f x).f2∧LeP x.f4 (f x).f2) (h5: ∀x∈l,1≤(f x).f5∧(f x).f5≤9007199254740992):RightP (l.map f) where
  len:=by rw [List.length_map];exact hl.len
  ok:=by
    intro y hy
    obtain ⟨x,hx,rfl⟩:=List.mem_map.1 hy
    have k:=hl.ok x hx
    exact ⟨by rw [h0];exact k.name,by rw [h0];exact k.size,(h2 x hx).1,by rw [h3];exact k.own,by rw [h4];exact k.sub,by rw [h4];exact (h2 x hx).2,h5 x hx⟩
  sorted:=by
    rw [List.pairwise_map]
    exact hl.sorted.imp (fun {a b} h=>by rw [h0,h0];exact h)
  par:=by
    intro y hy
    obtain ⟨x,hx,rfl⟩:=List.mem_map.1 hy
    rw [h1]
    rcases hl.par x hx with h|⟨z,h⟩
    · exact .inl h
    · exact .inr ⟨_,by rw [look_map h0,h];rfl⟩
  sum:=by
    intro c y hy
    obtain ⟨x,hx,rfl⟩:=List.mem_map.1 hy
    rw [h4,h3,h0,hl.sum c x hx]
    congr 1
    unfold csum
    rw [sumBy_map]
    exact sumBy_congr fun z _=>by rw [h1,h4]
  chain:=by
    intro y hy
    obtain ⟨x,hx,rfl⟩:=List.mem_map.1 hy
    obtain ⟨us,h⟩:=hl.chain x hx
    rw [h0]
    exact ⟨us,h.map h0 h1⟩
theorem lim_right {l:List Item} (hl:RightP l) {n:ByteArray} {v:Vec} {x:Item} (hx:look l n=some x) (hv:MayP v) (hle:LeP x.f4 v) (h5: ¬9007199254740992≤x.f5):RightP (l.map (limG n v)):=by
  obtain ⟨hxm,hxn⟩:=look_mem hx
  have heq: ∀z∈l,z.f0=n→z=x:=fun z hz e=>hl.eq_of hz hxm (e.trans hxn.symm)
  refine map_right hl (fun z=> ?_) (fun z=> ?_) (fun z=> ?_) (fun z=> ?_) (fun z hz=> ?_) (fun z hz=> ?_)
  · unfold limG;split<;>rfl
  · unfold limG;split<;>rfl
  · unfold limG;split<;>rfl
  · unfold limG;split<;>rfl
  · unfold limG
    by_cases e:z.f0=n
    · rw [if_pos e,heq z hz e];exact ⟨hv,hle⟩
    · rw [if_neg e];exact ⟨(hl.ok z hz).lim,(hl.ok z hz).fit⟩
  · have := (hl.ok z hz).ver
    unfold limG
    by_cases e:z.f0=n
    · rw [if_pos e]
      have h6:=heq z hz e
      subst h6
      show 1≤z.f5+1∧z.f5+1≤9007199254740992
      omega
    · rw [if_neg e];exact this
end Go.Proofs.Ytcgefpklljclgaa.Print

namespace Go.Proofs.Ytcgefpklljclgaa.Print
open Go.RowKit Go.Proofs.YtcgefpklljclgaaW.PrintWords Go.Proofs.YtcgefpklljclgaaW.PrintLast Go.Proofs.YtcgefpklljclgaaW.PrintMore
set_option linter.unusedVariables false
set_option linter.unusedSimpArgs false
theorem of_mvS (c:Comp) (fs ts:List ByteArray) (v:Vec) (z:Item):c.of (mvS fs ts v z)=c.of z.f4 - (if z.f0∈fs then c.of v else 0)+(if z.f0∈ts then c.of v else 0):=by
 unfold mvS
 by_cases h1:z.f0∈ts<;>by_cases h2:z.f0∈fs<;>simp only [h1,h2,if_true,if_false,of_vadd,of_vsub]<;>omega
theorem movB_fits {l:List Item} {x:Item} {p:ByteArray} (h:movB l x p=true): ∀z,look l z.f0=some z→z.f0∈up l p→z.f0∈up l x.f1∨LeP (vadd z.f4 x.f4) z.f2:=by
  intro z hz hm
  have:=List.all_eq_true.1 h z.f0 hm
  rw [hz,Bool.or_eq_true] at this
  rcases this with h|h
  · exact .inl (hasStr_iff.1 h)
  · exact .inr (of_decide_eq_true h)
theorem mov_right {l:List Item} (hl:RightP l) {n p:ByteArray} {x:Item} (hx:look l n=some x) (hp:p=⟨#[]⟩∨ ∃y,look l p=some y) (hnt:n ∉ up l p) (h5: ¬9007199254740992≤x.f5) (hb:movB l x p=true):RightP (movL l n p x):=by
  obtain ⟨hxm,hxn⟩:=look_mem hx
  have hxs:=(hl.ok x hxm).sub
  have hnf:=not_own_way hl hx
  have heq: ∀z∈l,z.f0=n→z=x:=fun z hz e=>hl.eq_of hz hxm (e.trans hxn.symm)
  have hfits:=movB_fits hb
  have hge: ∀c:Comp,∀z∈l,z.f0∈up l x.f1→c.of x.f4≤c.of z.f4:=fun c z hz hm=>sub_up hl hxm hz (by rw [up_cons hl hxm];exact List.mem_cons_of_mem _ hm) c
  have hname: ∀z,(movG n p (up l x.f1) (up l p) x.f4 z).f0=z.f0:=fun _=>rfl
  have hfit: ∀c:Comp,∀z∈l,0≤c.of (mvS (up l x.f1) (up l p) x.f4 z)∧c.of (mvS (up l x.f1) (up l p) x.f4 z)≤c.of z.f2:=fun c z hz=>by
    have k:=hl.ok z hz
    have a:=k.sub c;have b:=k.fit c;have d:=hxs c
    rw [of_mvS]
    by_cases h1:z.f0∈up l x.f1
    · have e := hge c z hz h1
      by_cases h2:z.f0∈up l p
      · rw [if_pos h1,if_pos h2];omega
      · rw [if_pos h1,if_neg h2];omega
    · by_cases h2 : z.f0 ∈ up l p
      · rw [if_neg h1, if_pos h2]
        rcases hfits z (hl.look hz) h2 with q|q
        · exact absurd q h1
        · have := q c
          rw [of_vadd] at this
          omega
      · rw [if_neg h1,if_neg h2];omega
  refine ⟨?_, ?_, ?_, ?_, ?_, ?_⟩
  · unfold movL;rw [List.length_map];exact hl.len
  · intro y hy
    obtain ⟨z,hz,rfl⟩:=List.mem_map.1 hy
    have k:=hl.ok z hz
    refine ⟨k.name,k.size,k.lim,k.own,fun c=> ?_,fun c=>(hfit c z hz).2, ?_⟩
    · have a := hfit c z hz; have b := (k.lim c).2
      exact ⟨a.1,Int.le_trans a.2 b⟩
    · have := k.ver
      show 1≤(if z.f0=n then z.f5+1 else z.f5)∧(if z.f0=n then z.f5+1 else z.f5)≤9007199254740992
      by_cases e:z.f0=n
      · rw [if_pos e]
        have h6:=heq z hz e
        subst h6
        omega
      · rw [if_neg e];exact this
  · unfold movL
    rw [List.pairwise_map]
    exact hl.sorted
  · intro y hy
    obtain ⟨z,hz,rfl⟩:=List.mem_map.1 hy
    have hlk: ∀m,look (movL l n p x) m=(look l m).map (movG n p (up l x.f1) (up l p) x.f4):=fun m=>look_map hname l m
    show (if z.f0=n then p else z.f1)=⟨#[]⟩∨ ∃y,look (movL l n p x) (if z.f0=n then p else z.f1)=some y
    by_cases e:z.f0=n
    · rw [if_pos e]
      rcases hp with h|⟨y,h⟩
      · exact .inl h
      · exact .inr ⟨_,by rw [hlk,h];rfl⟩
    · rw [if_neg e]
      rcases hl.par z hz with h|⟨y,h⟩
      · exact .inl h
      · exact .inr ⟨_,by rw [hlk,h];rfl⟩
  · intro c y hy
    obtain ⟨z,hz,rfl⟩:=List.mem_map.1 hy
    show c.of (mvS (up l x.f1) (up l p) x.f4 z)=c.of z.f3+csum c (movL l n p x) z.f0
    have k1:=chain_kids hl (hl.chainAll x.f1) (c.of x.f4) hz
    have k2:=chain_kids hl (hl.chainAll p) (c.of x.f4) hz
    have hone: ∀v:Int,sumBy (fun y=>if y.f0=n then v else 0) l=v:=fun v=>by
      have:=sumBy_one (v:=v) hl.nodup hxm
      rw [hxn] at this
      exact this
    have hcs:csum c (movL l n p x) z.f0=csum c l z.f0 - sumBy (fun y=>if y.f1=z.f0∧y.f0∈up l x.f1 then c.of x.f4 else 0) l+sumBy (fun y=>if y.f1=z.f0∧y.f0∈up l p then c.of x.f4 else 0) l - sumBy (fun y=>if y.f0=n then (if x.f1=z.f0 then c.of x.f4 else 0) else 0) l+sumBy (fun y=>if y.f0=n then (if p=z.f0 then c.of x.f4 else 0) else 0) l:=by
      unfold csum movL
      rw [sumBy_map,←sumBy_sub,←sumBy_add,←sumBy_sub,←sumBy_add]
      refine sumBy_congr fun y hy=> ?_
      show (if (if y.f0=n then p else y.f1)=z.f0 then c.of (mvS (up l x.f1) (up l p) x.f4 y) else 0)=_
      rw [of_mvS]
      by_cases e:y.f0=n
      · have h6 := heq y hy e
        subst h6
        have q1:y.f0 ∉ up l y.f1:=by rw [e];exact hnf
        have q2:y.f0 ∉ up l p:=by rw [e];exact hnt
        simp only [e,if_true,hnf,hnt,if_false,and_false]
        by_cases a1:y.f1=z.f0<;>by_cases a2:p=z.f0<;>simp only [a1,a2,if_true,if_false]<;>omega
      · simp only [e, if_false]
        by_cases a1:y.f1=z.f0
        · by_cases a2:y.f0∈up l x.f1<;>by_cases a3:y.f0∈up l p<;>simp only [a1,a2,a3,true_and,if_true,if_false]<;>omega
        · simp only [a1, false_and, if_false]
          omega
    rw [hcs,hone,hone,k1,k2,of_mvS]
    have hs:=hl.sum c z hz
    have m1:z.f0=x.f1→z.f0∈up l x.f1:=fun e=>by rw [←e];exact up_self (hl.look hz)
    have m2:z.f0=p→z.f0∈up l p:=fun e=>by rw [←e];exact up_self (hl.look hz)
    have t1:(if z.f0∈up l x.f1∧z.f0≠x.f1 then c.of x.f4 else 0)+(if x.f1=z.f0 then c.of x.f4 else 0)=if z.f0∈up l x.f1 then c.of x.f4 else 0:=by
      by_cases e:z.f0=x.f1
      · rw [if_neg (fun h=>h.2 e),if_pos e.symm,if_pos (m1 e)];omega
      · have e' : ¬ x.f1 = z.f0 := fun q => e q.symm
        by_cases q:z.f0∈up l x.f1<;>simp [e,e',q]
    have t2:(if z.f0∈up l p∧z.f0≠p then c.of x.f4 else 0)+(if p=z.f0 then c.of x.f4 else 0)=if z.f0∈up l p then c.of x.f4 else 0:=by
      by_cases e:z.f0=p
      · rw [if_neg (fun h=>h.2 e),if_pos e.symm,if_pos (m2 e)];omega
      · have e' : ¬ p = z.f0 := fun q => e q.symm
        by_cases q:z.f0∈up l p<;>simp [e,e',q]
    omega
  · intro y hy
    obtain ⟨z,hz,rfl⟩:=List.mem_map.1 hy
    show∃us,Chain (movL l n p x) z.f0 us
    have hlk: ∀m,look (movL l n p x) m=(look l m).map (movG n p (up l x.f1) (up l p) x.f4):=fun m=>look_map hname l m
    have apart: ∀{m:ByteArray} {us:List ByteArray},Chain l m us→n ∉ us→Chain (movL l n p x) m us:=by
      intro m us h
      induction h with
      |nil q=>intro _;exact Chain.nil (by rw [hlk,q];rfl)
      | @cons m y us q _ ih =>
        intro hn
        rw [List.mem_cons,not_or] at hn
        have hy:=ih hn.2
        have hyn:=(look_mem q).2
        refine Chain.cons (x:=movG n p (up l x.f1) (up l p) x.f4 y) (by rw [hlk,q];rfl) ?_
        show Chain _ (if y.f0=n then p else y.f1) us
        rw [if_neg (by rw [hyn];exact fun e=>hn.1 e.symm)]
        exact hy
    have hown:Chain (movL l n p x) n (n::up l p):=by
      refine Chain.cons (x:=movG n p (up l x.f1) (up l p) x.f4 x) (by rw [hlk,hx];rfl) ?_
      show Chain _ (if x.f0=n then p else x.f1) _
      rw [if_pos hxn]
      exact apart (hl.chainAll p) hnt
    have all: ∀{m:ByteArray} {us:List ByteArray},Chain l m us→ ∃us',Chain (movL l n p x) m us':=by
      intro m us h
      induction h with
      |nil q=>exact ⟨_,Chain.nil (by rw [hlk,q];rfl)⟩
      | @cons m y us q _ ih =>
        have hyn:=(look_mem q).2
        by_cases e:y.f0=n
        · rw [← hyn, e]
          exact ⟨_,hown⟩
        · obtain ⟨us', h'⟩ := ih
          refine ⟨m::us',Chain.cons (us:=us') (x:=movG n p (up l x.f1) (up l p) x.f4 y) (by rw [hlk,q];rfl) ?_⟩
          show Chain _ (if y.f0=n then p else y.f1) _
          rw [if_neg e]
          exact h'
    exact all (hl.chainAll z.f0)
/-- where there is an error there is no tree -/
def NoOr (r:List Item×Int):Prop:=r.2=0∨r.1=[]
theorem cre_no (l:List Item) (n p:ByteArray) (v:Vec):NoOr (creR l n p v):=by
 unfold creR
 repeat' split
 all_goals first|exact .inr rfl|exact .inl rfl
theorem lim_no (l:List Item) (n:ByteArray) (v:Vec) (ver:Int):NoOr (limR l n v ver):=by
 unfold limR
 repeat' split
 all_goals first|exact .inr rfl|exact .inl rfl
theorem mov_no (l:List Item) (n p:ByteArray) (ver:Int):NoOr (movR l n p ver):=by
 unfold movR
 repeat' split
 all_goals first|exact .inr rfl|exact .inl rfl
theorem del_no (l:List Item) (n:ByteArray) (ver:Int):NoOr (delR l n ver):=by
 unfold delR
 repeat' split
 all_goals first|exact .inr rfl|exact .inl rfl
theorem do_no (l:List Item) (kd:Int) (n p:ByteArray) (v:Vec) (ver:Int):NoOr (doR l kd n p v ver):=by
  unfold doR
  split
  · exact cre_no ..
  split
  · exact lim_no ..
  split
  · exact mov_no ..
  split
  · exact del_no ..
  · exact .inr rfl
/-- what a step that is done makes -/
theorem do_right {l:List Item} (hl:RightP l) {kd:Int} {n p:ByteArray} {v:Vec} {ver:Int} (h:(doR l kd n p v ver).2=0):RightP (doR l kd n p v ver).1:=by
  unfold doR at h ⊢
  by_cases h1:kd=1
  · rw [if_pos h1] at h ⊢
    have:=creR_right hl h
    rw [this.1]
    exact this.2.1
  · rw [if_neg h1] at h ⊢
    by_cases h2:kd=2
    · rw [if_pos h2] at h ⊢
      unfold limR at h ⊢
      by_cases a1:MayP v
      · rw [if_neg (fun q => q a1)] at h ⊢
        by_cases a2:oldR l n ver=0
        · rw [if_neg (by simpa using a2)] at h ⊢
          obtain ⟨x,hx,_⟩:=oldR_zero a2
          simp only [hx] at h ⊢
          by_cases a3:9007199254740992≤x.f5
          · rw [if_pos a3] at h;cases h
          · rw [if_neg a3] at h ⊢
            by_cases a4:LeP x.f4 v
            · rw [if_pos a4]
              exact lim_right hl hx a1 a4 a3
            · rw [if_neg a4] at h;cases h
        · rw [if_pos a2] at h;exact absurd h a2
      · rw [if_pos a1] at h;cases h
    · rw [if_neg h2] at h ⊢
      by_cases h3:kd=3
      · rw [if_pos h3] at h ⊢
        by_cases a2:oldR l n ver=0
        · obtain ⟨x, hx, _⟩ := oldR_zero a2
          by_cases a3:p≠⟨#[]⟩∧(look l p).isNone=true
          · unfold movR at h
            rw [if_neg (by simpa using a2),if_pos a3] at h
            cases h
          · by_cases a4 : n ∈ up l p
            · unfold movR at h
              rw [if_neg (by simpa using a2),if_neg a3,if_pos a4] at h
              cases h
            · rw [movR_eq a2 hx a3 a4] at h ⊢
              by_cases a5:9007199254740992≤x.f5
              · rw [if_pos a5] at h;cases h
              · rw [if_neg a5] at h ⊢
                by_cases a6:movB l x p=true
                · rw [if_pos a6]
                  refine mov_right hl hx ?_ a4 a5 a6
                  by_cases e:p=⟨#[]⟩
                  · exact .inl e
                  · right
                    cases q:look l p with
                    |none=>exact absurd ⟨e,by rw [q];rfl⟩ a3
                    |some y=>exact ⟨y,rfl⟩
                · rw [if_neg a6] at h;cases h
        · unfold movR at h
          rw [if_pos a2] at h
          exact absurd h a2
      · rw [if_neg h3] at h ⊢
        by_cases h4:kd=4
        · rw [if_pos h4] at h ⊢
          unfold delR at h ⊢
          by_cases a2:oldR l n ver=0
          · rw [if_neg (by simpa using a2)] at h ⊢
            obtain ⟨x,hx,_⟩:=oldR_zero a2
            by_cases a3:0<(kids l n).length
            · rw [if_pos a3] at h;cases h
            · rw [if_neg a3] at h ⊢
              simp only [hx] at h ⊢
              by_cases a4:x.f3.f0=0∧x.f3.f1=0∧x.f3.f2=0
              · rw [if_pos a4]
                exact del_right hl hx (kids_none a3) a4
              · rw [if_neg a4] at h;cases h
          · rw [if_pos a2] at h;exact absurd h a2
        · rw [if_neg h4] at h;cases h
theorem doR_len {l:List Item} (hl:RightP l) (kd:Int) (n p:ByteArray) (v:Vec) (ver:Int):(doR l kd n p v ver).1.length<1000000:=by
  rcases do_no l kd n p v ver with h|h
  · have := (do_right hl h).len
    omega
  · rw [h]
    decide
end Go.Proofs.Ytcgefpklljclgaa.Print

namespace Go.Proofs.Ytcgefpklljclgaa.Print
open Go.RowKit Go.Proofs.YtcgefpklljclgaaW.PrintWords Go.Proofs.YtcgefpklljclgaaW.PrintLast Go.Proofs.YtcgefpklljclgaaW.PrintMore
attribute [local go_sem] max2_int min2_int max_two min_two max_three min_three max_four min_four   -- for this text's walks alone
set_option linter.unusedVariables false
set_option linter.unusedSimpArgs false

end Go.Proofs.Ytcgefpklljclgaa.Print

namespace Go.Proofs.Ytcgefpklljclgaa.Print
open Go.RowKit Go.Proofs.YtcgefpklljclgaaW.PrintWords Go.Proofs.YtcgefpklljclgaaW.PrintLast Go.Proofs.YtcgefpklljclgaaW.PrintMore
set_option linter.unusedVariables false
set_option linter.unusedSimpArgs false
theorem shSame_l0 (l:List Item) (hl:l.length<1000000): ∀(d i:Nat),l.length - i=d→i≤l.length→Ev (fun k=>r10_SameItems.l0 k l l i) true
  | 0, i, hd, hi => by
    refine Ev.step (f:=fun _=>some true) (fun k=> ?_) (Ev.now _)
    simp only [r10_SameItems.l0]
    rw [if_neg (by omega)]
  | d + 1, i, hd, hi => by
    refine Ev.step (f:=fun k=>r10_SameItems.l0 k l l ((i+1:Nat):Int)) (fun k=> ?_) (shSame_l0 l hl d (i+1) (by omega) (by omega))
    simp only [r10_SameItems.l0]
    rw [if_pos (by omega),if_pos (by omega),if_pos (by omega),if_neg (by simp),w64 (by omega) (by omega)]
    rfl
theorem shSame_refl (l:List Item) (hl:l.length<1000000):Ev (fun k=>r10_SameItems.f k l l) true:=
 Ev.congr (fun k=>if_pos rfl) (shSame_l0 l hl _ 0 rfl (by omega))

theorem ss_num (e:Int):law1_Num.f e=some e:=rfl
theorem ss_awake:law15_awake.f=some true:=by kernel_rfl
theorem ss_awake_ev:Ev (fun _=>law15_awake.f.bind fun t=>some t) true:=Ev.const (by rw [ss_awake];rfl)
theorem same_ev (l:List Item) (hl:l.length<1000000) (e:Int):Ev (fun k=>law15_same.f k l e l e) true:=by
 refine Ev.bind (shSame_refl l hl) (Ev.congr (fun k=>if_pos rfl) ?_)
 refine Ev.const ?_
 rw [ss_num]
 simp
end Go.Proofs.Ytcgefpklljclgaa.Print

namespace Go.Proofs.Ytcgefpklljclgaa.Print
open Go.RowKit Go.Proofs.YtcgefpklljclgaaW.PrintWords Go.Proofs.YtcgefpklljclgaaW.PrintLast Go.Proofs.YtcgefpklljclgaaW.PrintMore
set_option linter.unusedVariables false
set_option linter.unusedSimpArgs false
/-! when a tree is right: place by place -/
def Ok1 (l:List Item) (i:Nat):Prop:=ItemOK (rd_T31 l i)∧(0<i→lt (rd_T31 l ((i:Int) - 1)).f0 (rd_T31 l i).f0=true)∧((rd_T31 l i).f1=⟨#[]⟩∨ ∃y,look l (rd_T31 l i).f1=some y)
def Ok2 (l:List Item) (i:Nat):Prop:=(∀c:Comp,c.of (rd_T31 l i).f4=c.of (rd_T31 l i).f3+csum c l (rd_T31 l i).f0)
def Ok3 (l:List Item) (i:Nat):Prop:=(up l (rd_T31 l i).f0).length≤l.length
theorem rd_get {l:List Item} {i:Nat} (h:i<l.length):rd_T31 l (i:Int)=l[i]:=by rw [rd_item,Int.toNat_natCast];simp [h]
theorem rd_mem {l:List Item} {i:Nat} (h:i<l.length):rd_T31 l (i:Int)∈l:=by rw [rd_get h];exact List.getElem_mem h
theorem rightP_iff (l:List Item):RightP l↔l.length≤120∧(∀i,i<l.length→Ok1 l i)∧(∀i,i<l.length→Ok2 l i)∧(∀i,i<l.length→Ok3 l i):=by
  constructor
  · intro h
    refine ⟨h.len,fun i hi=>⟨h.ok _ (rd_mem hi),fun h0=> ?_,h.par _ (rd_mem hi)⟩,fun i hi c=>h.sum c _ (rd_mem hi),fun i hi=>up_len_iff.2 (h.chain _ (rd_mem hi))⟩
    have:=List.pairwise_iff_getElem.1 h.sorted (i - 1) i (by omega) hi (by omega)
    rw [show ((i:Int) - 1)=((i - 1:Nat):Int) from by omega,rd_get (show i - 1<l.length by omega),rd_get hi]
    exact this
  · rintro ⟨h1, h2, h3, h4⟩
    have hx: ∀x∈l,∃i,i<l.length∧rd_T31 l (i:Int)=x:=fun x hx=>by
      obtain ⟨i,hi,e⟩:=List.getElem_of_mem hx
      exact ⟨i,hi,by rw [rd_get hi];exact e⟩
    refine ⟨h1,fun x hx'=> ?_, ?_,fun x hx'=> ?_,fun c x hx'=> ?_,fun x hx'=> ?_⟩
    · obtain ⟨i, hi, rfl⟩ := hx x hx'
      exact (h2 i hi).1
    · rw [List.pairwise_iff_getElem]
      intro i j hi hj hij
      have step: ∀d:Nat,∀hd:i+1+d<l.length,lt l[i].f0 (l[i+1+d]).f0=true:=by
        intro d
        induction d with
        | zero =>
          intro hd
          have:=(h2 (i+1) (by omega)).2.1 (by omega)
          rw [show (((i+1:Nat):Int) - 1)=(i:Int) from by omega,rd_get hi,rd_get (show i+1<l.length by omega)] at this
          exact this
        | succ d ih =>
          intro hd
          have:=(h2 (i+1+(d+1)) hd).2.1 (by omega)
          rw [show (((i+1+(d+1):Nat):Int) - 1)=((i+1+d:Nat):Int) from by omega,rd_get (show i+1+d<l.length by omega),rd_get hd] at this
          exact lt_trans (ih (by omega)) this
      have:=step (j - (i+1)) (by omega)
      simpa [show i+1+(j - (i+1))=j by omega] using this
    · obtain ⟨i, hi, rfl⟩ := hx x hx'
      exact (h2 i hi).2.2
    · obtain ⟨i, hi, rfl⟩ := hx x hx'
      exact h3 i hi c
    · obtain ⟨i, hi, rfl⟩ := hx x hx'
      exact up_len_iff.1 (h4 i hi)
end Go.Proofs.Ytcgefpklljclgaa.Print

namespace Go.Proofs.Ytcgefpklljclgaa.Print
open Go.RowKit Go.Proofs.YtcgefpklljclgaaW.PrintWords Go.Proofs.YtcgefpklljclgaaW.PrintLast Go.Proofs.YtcgefpklljclgaaW.PrintMore
set_option linter.unusedVariables false
set_option linter.unusedSimpArgs false
/-! the document's answer of any tree -/
theorem of_addV_ (c:Comp) (a:Vec) (ws:List Item):c.of (addV a ws)=c.of a+sumBy (fun x=>c.of x.f4) ws:=by cases c<;>rfl
theorem addV_snoc_ (a:Vec) (ws:List Item) (y:Item):addV a (ws++ [y])=vadd (addV a ws) y.f4:=vec_ext fun c=>by
 rw [of_vadd,of_addV_,of_addV_,sumBy_append,sumBy_cons,sumBy_nil];omega
theorem small_addV_ {a:Vec} {n:Nat} (ha:SmallV a n) {ws:List Item} (hw: ∀y∈ws,MayP y.f4):SmallV (addV a ws) (n+ws.length):=fun c=>by
 have h1:=ha c
 have h2:=sumBy_nonneg (g:=fun x=>c.of x.f4) (l:=ws) (fun y hy=>(hw y hy c).1)
 have h3:=sumBy_le (g:=fun x=>c.of x.f4) (B:=1099511627776) (l:=ws) (fun y hy=>(hw y hy c).2)
 rw [of_addV_]
 omega
theorem r10_add_small_ {a b:Vec} {n:Nat} (ha:SmallV a n) (hb:MayP b) (hn:n≤1000):r10_Add.f a.f0 a.f1 a.f2 b.f0 b.f1 b.f2=some ((vadd a b).f0,(vadd a b).f1,(vadd a b).f2):=by
 obtain ⟨e0,e1,e2⟩:=small_wrap ha hb hn
 unfold r10_Add.f
 rw [e0,e1,e2]
theorem ok2_iff {l:List Item} {i:Nat} {x:Item} (hx:rd_T31 l i=x):Ok2 l i↔addV x.f3 (l.filter (fun y=>decide (y.f1=x.f0)))=x.f4:=by
  have key: ∀c:Comp,c.of (addV x.f3 (l.filter (fun y=>decide (y.f1=x.f0))))=c.of x.f3+csum c l x.f0:=fun c=>by
    rw [of_addV_,sumBy_filter]
    simp only [decide_eq_true_eq]
    rfl
  unfold Ok2
  rw [hx]
  constructor
  · intro h
    exact vec_ext fun c=>by rw [key c,h c]
  · intro h c
    rw [←key c,h]
theorem r10_full_l2 {l:List Item} (hlen:l.length≤120) (h1: ∀i,i<l.length→Ok1 l i) {i:Nat} (hi:i<l.length) {x:Item} (hx:rd_T31 l i=x) {b:Bool} (hno: ¬(Ok2 l i∧Ok3 l i)→b=false)
    (rest:Ok2 l i∧Ok3 l i→Ev (fun k=>r10_Right.l1 k l ((i+1:Nat):Int)) b): ∀(d j:Nat),l.length - j=d→j≤l.length→
    Ev (fun k=>r10_Right.l2 k l i j (addV x.f3 ((l.take j).filter (fun y=>decide (y.f1=x.f0)))).f0 (addV x.f3 ((l.take j).filter (fun y=>decide (y.f1=x.f0)))).f1 (addV x.f3 ((l.take j).filter (fun y=>decide (y.f1=x.f0)))).f2) b
  | 0, j, hd, hj => by
    obtain rfl:j=l.length:=by omega
    rw [List.take_length]
    have hok:=ok2_iff (l:=l) (i:=i) hx
    generalize addV x.f3 (l.filter (fun y=>decide (y.f1=x.f0)))=s at hok
    refine Ev.step (fun k=>r10_Right.l2.eq_2 (k:=k) ..) ?_
    have e1:((i:Int)<(l.length:Int))=True:=eq_true (by omega)
    have e2:((0:Int)≤(i:Int))=True:=eq_true (by omega)
    have e3:wrap64 ((i:Int)+1)=((i+1:Nat):Int):=by rw [w64 (by omega) (by omega)];rfl
    simp only [Int.lt_irrefl,if_false,e1,e2,if_true,hx,e3]
    by_cases hs:s=x.f4
    · subst hs
      refine Ev.congr (fun k=>if_neg (by simp)) ?_
      refine Ev.bind (r10_Up_ev l x.f0 (by omega)) ?_
      by_cases hu:(up l x.f0).length≤l.length
      · exact Ev.congr (fun k=>if_neg (by omega)) (rest ⟨hok.2 rfl,by unfold Ok3;rw [hx];exact hu⟩)
      · refine Ev.congr (fun k => if_pos (by omega)) ?_
        rw [hno (fun q=>hu (by have:=q.2;unfold Ok3 at this;rw [hx] at this;exact this))]
        exact Ev.now _
    · refine Ev.congr (fun k => if_pos ?_) ?_
      · have : ¬ (s.f0 = x.f4.f0 ∧ s.f1 = x.f4.f1 ∧ s.f2 = x.f4.f2) := fun ⟨a, b, c⟩ => hs (vec_ext fun d => by cases d <;> assumption)
        by_cases a:s.f0=x.f4.f0<;>by_cases b:s.f1=x.f4.f1<;>by_cases c:s.f2=x.f4.f2<;>simp_all
      · rw [hno (fun q => hs (hok.1 q.1))]
        exact Ev.now _
  | d + 1, j, hd, hj => by
    have hlt:j<l.length:=by omega
    have ih:=r10_full_l2 hlen h1 hi hx hno rest d (j+1) (by omega) (by omega)
    have hrd:=rd_get hlt
    have hall: ∀y∈l,ItemOK y:=fun y hy=>by
      obtain ⟨m,hm,e⟩:=List.getElem_of_mem hy
      have:=(h1 m hm).1
      rw [rd_get hm,e] at this
      exact this
    have hym:MayP (l[j]).f4:=(hall _ (List.getElem_mem hlt)).sub
    rw [List.take_succ_eq_append_getElem hlt,List.filter_append] at ih
    have hxm:ItemOK x:=by rw [←hx];exact (h1 i hi).1
    have hsm:=small_addV_ (a:=x.f3) (n:=1) (fun c=>by have:=hxm.own c;omega) (ws:=(l.take j).filter (fun y=>decide (y.f1=x.f0))) (fun y hy=>(hall y (List.mem_of_mem_take (List.mem_filter.1 hy).1)).sub)
    have hfl:=List.length_filter_le (fun y:Item=>decide (y.f1=x.f0)) (l.take j)
    rw [List.length_take] at hfl
    generalize l[j]=y at hrd ih hym
    refine Ev.step (fun k=>r10_Right.l2.eq_2 (k:=k) ..) ?_
    have e1:((i:Int)<(l.length:Int))=True:=eq_true (by omega)
    have e2:((0:Int)≤(i:Int))=True:=eq_true (by omega)
    have e4:((j:Int)<(l.length:Int))=True:=eq_true (by omega)
    have e5:((0:Int)≤(j:Int))=True:=eq_true (by omega)
    have e3:wrap64 ((j:Int)+1)=((j+1:Nat):Int):=by rw [w64 (by omega) (by omega)];rfl
    simp only [e1,e2,e4,e5,if_true,hx,hrd,e3]
    by_cases hy:y.f1=x.f0
    · have e6 : (y.f1.toList = x.f0.toList) = True := eq_true (nm_inj.2 hy)
      rw [List.filter_cons_of_pos (by simpa using hy),List.filter_nil,addV_snoc_] at ih
      simp only [e6,if_true,r10_add_small_ hsm hym (by omega),Option.bind_some]
      exact ih
    · have e6 : (y.f1.toList = x.f0.toList) = False := eq_false (fun q => hy (nm_inj.1 q))
      rw [List.filter_cons_of_neg (by simpa using hy),List.filter_nil,List.append_nil] at ih
      simp only [e6,if_false]
      exact ih
theorem r10_full_l1 {l:List Item} (hlen:l.length≤120) (h1: ∀i,i<l.length→Ok1 l i) {b:Bool} (hb:b=true↔RightP l): ∀(d i:Nat),l.length - i=d→i≤l.length→(∀j,j<i→Ok2 l j∧Ok3 l j)→Ev (fun k=>r10_Right.l1 k l i) b
  | 0, i, hd, hi, hp => by
    obtain rfl:i=l.length:=by omega
    refine Ev.step (fun k=>r10_Right.l1.eq_2 (k:=k) ..) ?_
    simp only [Int.lt_irrefl,if_false]
    rw [hb.2 ((rightP_iff l).2 ⟨hlen,h1,fun j hj=>(hp j hj).1,fun j hj=>(hp j hj).2⟩)]
    exact Ev.now _
  | d + 1, i, hd, hi, hp => by
    have hlt:i<l.length:=by omega
    refine Ev.step (fun k=>r10_Right.l1.eq_2 (k:=k) ..) ?_
    have e1:((i:Int)<(l.length:Int))=True:=eq_true (by omega)
    have e2:((0:Int)≤(i:Int))=True:=eq_true (by omega)
    simp only [e1,e2,if_true]
    have:=r10_full_l2 hlen h1 hlt (x:=rd_T31 l i) rfl (b:=b) (fun q=>by
      cases b with
      |false=>rfl
      | true =>
        obtain ⟨_,_,a,c⟩:=(rightP_iff l).1 (hb.1 rfl)
        exact absurd ⟨a i hlt,c i hlt⟩ q) (fun q=>r10_full_l1 hlen h1 hb d (i+1) (by omega) (by omega) (fun j hj=>by
        by_cases e:j=i
        · rw [e];exact q
        · exact hp j (by omega))) _ 0 rfl (by omega)
    rw [List.take_zero,List.filter_nil,addV_nil] at this
    exact this
theorem r10_full_l0 {l:List Item} (hlen:l.length≤120) {b:Bool} (hb:b=true↔RightP l): ∀(d i:Nat),l.length - i=d→i≤l.length→(∀j,j<i→Ok1 l j)→Ev (fun k=>r10_Right.l0 k l i) b
  | 0, i, hd, hi, hp => by
    obtain rfl:i=l.length:=by omega
    refine Ev.step (fun k=>r10_Right.l0.eq_2 (k:=k) ..) ?_
    simp only [Int.lt_irrefl,if_false]
    exact r10_full_l1 hlen hp hb _ 0 rfl (by omega) (fun j hj=>absurd hj (by omega))
  | d + 1, i, hd, hi, hp => by
    have hlt:i<l.length:=by omega
    have hbad: ¬Ok1 l i→Ev (fun _=>some false) b:=fun q=>by
      cases b with
      |false=>exact Ev.now _
      |true=>exact absurd (((rightP_iff l).1 (hb.1 rfl)).2.1 i hlt) q
    have hnext:Ok1 l i→Ev (fun k=>r10_Right.l0 k l ((i+1:Nat):Int)) b:=fun q=>r10_full_l0 hlen hb d (i+1) (by omega) (by omega) (fun j hj=>by
      by_cases e:j=i
      · rw [e];exact q
      · exact hp j (by omega))
    obtain ⟨x,hx⟩: ∃x,rd_T31 l (i:Int)=x:=⟨_,rfl⟩
    have hOk:Ok1 l i↔ItemOK x∧(0<i→lt (rd_T31 l ((i:Int) - 1)).f0 x.f0=true)∧(x.f1=⟨#[]⟩∨ ∃y,look l x.f1=some y):=by unfold Ok1;rw [hx]
    have e1:((i:Int)<(l.length:Int))=True:=eq_true (by omega)
    have e2:((0:Int)≤(i:Int))=True:=eq_true (by omega)
    have e3:wrap64 ((i:Int)+1)=((i+1:Nat):Int):=by rw [w64 (by omega) (by omega)];rfl
    have n0:r10_MayName.f x.f0=some (decide (x.f0≠⟨#[]⟩∧x.f0.size≤24)):=r10_MayName_eq _
    have n1:r10_MayVec.f x.f2.f0 x.f2.f1 x.f2.f2=some (decide (MayP x.f2)):=r10_MayVec_eq _ _ _
    have n2:r10_MayVec.f x.f3.f0 x.f3.f1 x.f3.f2=some (decide (MayP x.f3)):=r10_MayVec_eq _ _ _
    have n3:r10_Le.f x.f4.f0 x.f4.f1 x.f4.f2 x.f2.f0 x.f2.f1 x.f2.f2=some (decide (LeP x.f4 x.f2)):=r10_Le_eq _ _ _ _ _ _
    have n4:r10_MayVec.f x.f4.f0 x.f4.f1 x.f4.f2=some (decide (MayP x.f4)):=r10_MayVec_eq _ _ _
    refine Ev.step (fun k=>r10_Right.l0.eq_2 (k:=k) ..) ?_
    simp only [e1,e2,if_true,hx,n0,n1,n2,n3,n4,Option.bind_some,e3,decide_eq_true_eq]
    by_cases m0:x.f0≠⟨#[]⟩∧x.f0.size≤24
    case neg=>exact Ev.congr (fun k=>if_neg m0) (hbad fun q=>m0 ⟨(hOk.1 q).1.name,(hOk.1 q).1.size⟩)
    refine Ev.congr (fun k=>if_pos m0) ?_
    have hver:(0<i→lt (rd_T31 l ((i:Int) - 1)).f0 x.f0=true)→MayP x.f2→MayP x.f3→(x.f1=⟨#[]⟩∨ ∃y,look l x.f1=some y)→
        Ev (fun k=>if x.f5<1 then some false else if x.f5>9007199254740992 then some false else if LeP x.f4 x.f2 then (if MayP x.f4 then r10_Right.l0 k l ((i+1:Nat):Int) else some false) else some false) b:=fun ho ml mo hpar=>by
      by_cases v1:x.f5<1
      · exact Ev.congr (fun k=>if_pos v1) (hbad fun q=>by have:=(hOk.1 q).1.ver;omega)
      refine Ev.congr (fun k=>if_neg v1) ?_
      by_cases v2:x.f5>9007199254740992
      · exact Ev.congr (fun k=>if_pos v2) (hbad fun q=>by have:=(hOk.1 q).1.ver;omega)
      refine Ev.congr (fun k=>if_neg v2) ?_
      by_cases v3:LeP x.f4 x.f2
      case neg=>exact Ev.congr (fun k=>if_neg v3) (hbad fun q=>v3 (hOk.1 q).1.fit)
      refine Ev.congr (fun k=>if_pos v3) ?_
      by_cases v4:MayP x.f4
      case neg=>exact Ev.congr (fun k=>if_neg v4) (hbad fun q=>v4 (hOk.1 q).1.sub)
      exact Ev.congr (fun k=>if_pos v4) (hnext (hOk.2 ⟨⟨m0.1,m0.2,ml,mo,v4,v3,by omega⟩,ho,hpar⟩))
    have hpar:(0<i→lt (rd_T31 l ((i:Int) - 1)).f0 x.f0=true)→Ev (fun k=>if MayP x.f2 then (if MayP x.f3 then (if x.f1.toList=([]:List UInt8) then (if x.f5<1 then some false else if x.f5>9007199254740992 then some false else if LeP x.f4 x.f2 then (if MayP x.f4 then r10_Right.l0 k l ((i+1:Nat):Int) else some false) else some false) else ((r10_Find.f k l x.f1).bind fun t9=>(if t9<0 then some false else (if x.f5<1 then some false else if x.f5>9007199254740992 then some false else if LeP x.f4 x.f2 then (if MayP x.f4 then r10_Right.l0 k l ((i+1:Nat):Int) else some false) else some false)))) else some false) else some false) b:=fun ho=>by
      by_cases ml:MayP x.f2
      case neg=>exact Ev.congr (fun k=>if_neg ml) (hbad fun q=>ml (hOk.1 q).1.lim)
      refine Ev.congr (fun k=>if_pos ml) ?_
      by_cases mo:MayP x.f3
      case neg=>exact Ev.congr (fun k=>if_neg mo) (hbad fun q=>mo (hOk.1 q).1.own)
      refine Ev.congr (fun k=>if_pos mo) ?_
      by_cases hp:x.f1=⟨#[]⟩
      · exact Ev.congr (fun k=>if_pos (nm_empty.2 hp)) (hver ho ml mo (.inl hp))
      · refine Ev.congr (fun k => if_neg (fun z => hp (nm_empty.1 z))) (Ev.bind (r10_Find_ev l x.f1 (by omega)) ?_)
        by_cases hf:fnd l x.f1<0
        · refine Ev.congr (fun k => if_pos hf) (hbad fun q => ?_)
          rcases (hOk.1 q).2.2 with z|⟨y,hy⟩
          · exact hp z
          · rw [fnd_neg.1 hf] at hy;cases hy
        · exact Ev.congr (fun k=>if_neg hf) (hver ho ml mo (.inr (fnd_ge.1 (by omega))))
    by_cases hi0:(i:Int)>0
    · have e4 : wrap64 ((i : Int) - 1) = (i : Int) - 1 := w64 (by omega) (by omega)
      have e5:((i:Int)>0)=True:=eq_true hi0
      have e6:(0≤(i:Int) - 1)=True:=eq_true (by omega)
      have e7:((i:Int) - 1<(l.length:Int))=True:=eq_true (by omega)
      simp only [e4,e5,e6,e7,if_true]
      by_cases m2:lt (rd_T31 l ((i:Int) - 1)).f0 x.f0=true
      · exact Ev.congr (fun k=>if_pos m2) (hpar (fun _=>m2))
      · exact Ev.congr (fun k=>if_neg m2) (hbad fun q=>m2 ((hOk.1 q).2.1 (by omega)))
    · have e5 : ((i : Int) > 0) = False := eq_false hi0
      simp only [e5,if_false]
      exact hpar (fun q=>absurd q (by omega))
theorem r10_Right_ev (l:List Item) {b:Bool} (hb:b=true↔RightP l):Ev (fun k=>r10_Right.f k l) b:=by
  unfold r10_Right.f
  by_cases h:(l.length:Int)>120
  · refine Ev.congr (fun k => if_pos h) ?_
    cases b with
    |false=>exact Ev.now _
    |true=>exact absurd (hb.1 rfl).len (by omega)
  · exact Ev.congr (fun k=>if_neg h) (r10_full_l0 (by omega) hb _ 0 rfl (by omega) (fun j hj=>absurd hj (by omega)))
end Go.Proofs.Ytcgefpklljclgaa.Print

namespace Go.Proofs.Ytcgefpklljclgaa.Print
open Go.RowKit Go.Proofs.YtcgefpklljclgaaW.PrintWords Go.Proofs.YtcgefpklljclgaaW.PrintLast Go.Proofs.YtcgefpklljclgaaW.PrintMore
set_option linter.unusedVariables false
set_option linter.unusedSimpArgs false
/-! more than a statement goes through? -/
theorem great_l0 (l:List Item): ∀(d i:Nat),150 - i=d→i≤150→i≤l.length→ ∃g,Ev (fun k=>law12_Great.l0 k l i) g∧(g=false→l.length≤130)
  | 0, i, hd, hi, hl => by
    obtain rfl:i=150:=by omega
    have hj:Ev (fun k=>law12_Great.j1 k l ((150:Nat):Int) false) (decide ((l.length:Int)>130)):=by
      refine Ev.step (fun k=>law12_Great.j1.eq_2 (k:=k) ..) ?_
      simp only [Bool.false_eq_true,if_false]
      exact Ev.now _
    refine ⟨decide ((l.length:Int)>130), ?_,fun h=>by have:=of_decide_eq_false h;omega⟩
    refine Ev.step (fun k=>law12_Great.l0.eq_2 (k:=k) ..) ?_
    rw [show decide (((150:Nat):Int)<150)=false from by decide]
    by_cases h:((150:Nat):Int)<(l.length:Int)
    · exact Ev.congr (fun k=>if_pos h) hj
    · exact Ev.congr (fun k=>if_neg h) hj
  | d + 1, i, hd, hi, hl => by
    by_cases h:(i:Int)<(l.length:Int)
    · have hj: ∃g,Ev (fun k=>law12_Great.j1 k l (i:Int) true) g∧(g=false→l.length≤130):=by
        have e1:((0:Int)≤(i:Int))=True:=eq_true (by omega)
        have e2:((i:Int)<(l.length:Int))=True:=eq_true h
        have e3:wrap64 ((i:Int)+1)=((i+1:Nat):Int):=by rw [w64 (by omega) (by omega)];rfl
        by_cases h1:((rd_T31 l (i:Int)).f0.size:Int)>100
        · refine ⟨true, ?_, fun q => by cases q⟩
          refine Ev.step (fun k=>law12_Great.j1.eq_2 (k:=k) ..) ?_
          simp only [e1,e2,if_true]
          exact Ev.congr (fun k=>if_pos h1) (Ev.now _)
        by_cases h2:((rd_T31 l (i:Int)).f1.size:Int)>100
        · refine ⟨true, ?_, fun q => by cases q⟩
          refine Ev.step (fun k=>law12_Great.j1.eq_2 (k:=k) ..) ?_
          simp only [e1,e2,if_true]
          exact Ev.congr (fun k=>(if_neg h1).trans (if_pos h2)) (Ev.now _)
        · obtain ⟨g, hg, hg2⟩ := great_l0 l d (i + 1) (by omega) (by omega) (by omega)
          refine ⟨g, ?_,hg2⟩
          refine Ev.step (fun k=>law12_Great.j1.eq_2 (k:=k) ..) ?_
          simp only [e1,e2,e3,if_true]
          exact Ev.congr (fun k=>(if_neg h1).trans (if_neg h2)) hg
      obtain ⟨g,hg,hg2⟩:=hj
      refine ⟨g, ?_,hg2⟩
      refine Ev.step (fun k=>law12_Great.l0.eq_2 (k:=k) ..) ?_
      rw [show decide ((i:Int)<150)=true from decide_eq_true (by omega)]
      exact Ev.congr (fun k=>if_pos h) hg
    · refine ⟨decide ((l.length : Int) > 130), ?_, fun h => by have := of_decide_eq_false h; omega⟩
      refine Ev.step (fun k=>law12_Great.l0.eq_2 (k:=k) ..) ?_
      refine Ev.congr (fun k=>if_neg h) ?_
      refine Ev.step (fun k=>law12_Great.j1.eq_2 (k:=k) ..) ?_
      simp only [Bool.false_eq_true,if_false]
      exact Ev.now _
theorem great_ev (l:List Item): ∃g,Ev (fun k=>law12_Great.f k l) g∧(g=false→l.length≤130):=great_l0 l _ 0 rfl (by omega) (by omega)
/-- the document's answer, true or not -/
theorem r10_Right_some (l:List Item): ∃b,Ev (fun k=>r10_Right.f k l) b∧(b=true↔RightP l):=by
  by_cases h:RightP l
  · exact ⟨true,r10_Right_ev l (by simp [h]),by simp [h]⟩
  · exact ⟨false,r10_Right_ev l (by simp [h]),by simp [h]⟩
end Go.Proofs.Ytcgefpklljclgaa.Print

namespace Go.Proofs.Ytcgefpklljclgaa.Print
open Go.RowKit Go.Proofs.YtcgefpklljclgaaW.PrintWords Go.Proofs.YtcgefpklljclgaaW.PrintLast Go.Proofs.YtcgefpklljclgaaW.PrintMore
set_option linter.unusedVariables false
set_option linter.unusedSimpArgs false
theorem doR_1 (l:List Item) (n p:ByteArray) (v:Vec) (ver:Int):doR l 1 n p v ver=creR l n p v:=by unfold doR;rw [if_pos rfl]
theorem doR_2 (l:List Item) (n p:ByteArray) (v:Vec) (ver:Int):doR l 2 n p v ver=limR l n v ver:=by unfold doR;rw [if_neg (by decide),if_pos rfl]
theorem doR_3 (l:List Item) (n p:ByteArray) (v:Vec) (ver:Int):doR l 3 n p v ver=movR l n p ver:=by unfold doR;rw [if_neg (by decide),if_neg (by decide),if_pos rfl]
theorem doR_4 (l:List Item) (n p:ByteArray) (v:Vec) (ver:Int):doR l 4 n p v ver=delR l n ver:=by unfold doR;rw [if_neg (by decide),if_neg (by decide),if_neg (by decide),if_pos rfl]
theorem sa_j1 (l:List Item) (s:S58) (ver:Int):Ev (fun k=>law15_ShapeAll.j0 k l ver true s.f0 s.f1 s.f2 s.f3.f0 s.f3.f1 s.f3.f2) true:=by
 refine Ev.step (fun k=>law15_ShapeAll.j0.eq_2 (k:=k) ..) ?_
 simp only [if_true]
 exact ss_awake_ev
theorem sa_j0 {l:List Item} (hl:RightP l) (s:S58) (ver:Int):Ev (fun k=>law15_ShapeAll.j0 k l ver false s.f0 s.f1 s.f2 s.f3.f0 s.f3.f1 s.f3.f2) true:=by
 have hlen:=hl.len
 have l1:=doR_len hl 1 s.f1 s.f2 s.f3 ver
 have l2:=doR_len hl 2 s.f1 s.f2 s.f3 ver
 have l3:=doR_len hl 3 s.f1 s.f2 s.f3 ver
 have l4:=doR_len hl 4 s.f1 s.f2 s.f3 ver
 rw [doR_1] at l1
 rw [doR_2] at l2
 rw [doR_3] at l3
 rw [doR_4] at l4
 refine Ev.step (fun k=>law15_ShapeAll.j0.eq_2 (k:=k) ..) ?_
 simp only [Bool.false_eq_true,if_false,Option.bind_some]
 refine Ev.congr (fun k=>if_pos (by simp;omega)) ?_
 rw [shape_Create_eq (v:=s.f3) (by omega),shape_Limit_eq (v:=s.f3) hl]
 simp only [Option.bind_some]
 refine Ev.bind (shape_Move_ev hl s.f1 s.f2 ver) (Ev.bind (shape_Delete_ev hl s.f1 ver) (Ev.bind (shape_Do_ev hl s.f0 s.f1 s.f2 s.f3 ver) (Ev.bind (r10_Create_ev (by omega) s.f1 s.f2 s.f3) ?_)))
 refine Ev.bind (same_ev _ l1 _) (Ev.congr (fun k=>if_pos rfl) ?_)
 refine Ev.bind (r10_Limit_ev hl s.f1 s.f3 ver) (Ev.bind (same_ev _ l2 _) (Ev.congr (fun k=>if_pos rfl) ?_))
 refine Ev.bind (r10_Move_ev hl s.f1 s.f2 ver) (Ev.bind (same_ev _ l3 _) (Ev.congr (fun k=>if_pos rfl) ?_))
 refine Ev.bind (r10_Delete_ev hl s.f1 ver) (Ev.bind (same_ev _ l4 _) (Ev.congr (fun k=>if_pos rfl) ?_))
 refine Ev.bind (r10_Do_ev hl s.f0 s.f1 s.f2 s.f3 ver) (Ev.bind (same_ev _ (doR_len hl _ _ _ _ _) _) (Ev.congr (fun k=>if_pos rfl) ?_))
 refine Ev.bind (a:=true) ?_ (Ev.congr (fun k=>if_pos rfl) ss_awake_ev)
 rw [List.nil_append]
 exact shSame_refl l (by omega)
end Go.Proofs.Ytcgefpklljclgaa.Print
namespace Go.Proofs.Ytcgefpklljclgaa.Pure
open Go.RowKit Go.Proofs.Ytcgefpklljclgaa.Print Go.Proofs.YtcgefpklljclgaaW.PrintWords Go.Proofs.YtcgefpklljclgaaW.PrintLast
set_option linter.unusedVariables false
set_option linter.unusedSimpArgs false
theorem ShapeAll (l:List Print.Item) (s:S58) (ver:Int): ∃k,law15_ShapeAll.f k l s.f0 s.f1 s.f2 s.f3.f0 s.f3.f1 s.f3.f2 ver=some true:=by
  obtain ⟨g,hg,hg2⟩:=great_ev l
  unfold law15_ShapeAll.f
  refine Ev.rounds (Ev.bind hg ?_)
  cases g with
  |true=>exact Ev.congr (fun k=>if_pos rfl) (sa_j1 l s ver)
  | false =>
    refine Ev.congr (fun k=>if_neg (by simp)) ?_
    by_cases h:(s.f1.size:Int)>100
    · exact Ev.congr (fun k=>if_pos h) (sa_j1 l s ver)
    refine Ev.congr (fun k=>if_neg h) ?_
    by_cases h:(s.f2.size:Int)>100
    · exact Ev.congr (fun k=>if_pos h) (sa_j1 l s ver)
    refine Ev.congr (fun k=>if_neg h) ?_
    obtain ⟨b,hb,hb2⟩:=r10_Right_some l
    refine Ev.bind hb ?_
    cases b with
    |false=>exact sa_j1 l s ver
    |true=>exact sa_j0 (hb2.1 rfl) s ver
end Go.Proofs.Ytcgefpklljclgaa.Pure

namespace Go.Proofs.Ytcgefpklljclgaa.Head
/-- the translation's head, sign by sign -/
def signs:List Char:=(List.map Char.ofNat [104,97,114,110,101,115,115,32,101,57,98,52,101,102,52,49,56,50,56,101,102,50,55,102,51,55,102,48,53,54,50,55,56,50,54,101,101,100,101,57,53,99,56,98,55,57,99,100,98,99,52,99,49,100,54,49,98,101,98,55,57,55,52,102,49,51,53,99,97,49,48,51,32,99,117,116,32,97,116,32,100,111,111,114,107,101,101,112,101,114,47,100,111,111,114,107,101,101,112,101,114,108,97,119,49,51,46,82,111,111,109,85,112,32,100,111,111,114,107,101,101,112,101,114,47,100,111,111,114,107,101,101,112,101,114,108,97,119,49,55,46,68,114,105,102,116,65,108,108,32,100,111,111,114,107,101,101,112,101,114,47,100,111,111,114,107,101,101,112,101,114,108,97,119,49,55,46,68,114,105,102,116,84,101,108,108,115,32,100,111,111,114,107,101,101,112,101,114,47,100,111,111,114,107,101,101,112,101,114,108,97,119,50,48,46,69,102,102,101,99,116,65,108,108,32,100,111,111,114,107,101,101,112,101,114,47,100,111,111,114,107,101,101,112,101,114,108,97,119,50,48,46,69,102,102,101,99,116,77,97,100,101,32,100,111,111,114,107,101,101,112,101,114,47,100,111,111,114,107,101,101,112,101,114,108,97,119,50,48,46,69,102,102,101,99,116,68,111,110,101,32,100,111,111,114,107,101,101,112,101,114,47,100,111,111,114,107,101,101,112,101,114,108,97,119,49,52,46,65,100,109,105,116,84,119,105,99,101,32,100,111,111,114,107,101,101,112,101,114,47,100,111,111,114,107,101,101,112,101,114,108,97,119,49,51,46,82,111,111,109,70,105,116,115,32,100,111,111,114,107,101,101,112,101,114,47,100,111,111,114,107,101,101,112,101,114,108,97,119,49,50,46,84,114,101,101,65,108,108,32,100,111,111,114,107,101,101,112,101,114,47,100,111,111,114,107,101,101,112,101,114,108,97,119,49,50,46,84,114,101,101,77,97,100,101,32,100,111,111,114,107,101,101,112,101,114,47,100,111,111,114,107,101,101,112,101,114,108,97,119,49,50,46,84,114,101,101,83,117,109,115,32,100,111,111,114,107,101,101,112,101,114,47,100,111,111,114,107,101,101,112,101,114,108,97,119,49,50,46,84,114,101,101,66,101,108,111,119,32,100,111,111,114,107,101,101,112,101,114,47,100,111,111,114,107,101,101,112,101,114,108,97,119,49,51,46,82,111,111,109,83,104,97,114,101,115,32,100,111,111,114,107,101,101,112,101,114,47,100,111,111,114,107,101,101,112,101,114,108,97,119,49,52,46,65,100,109,105,116,65,108,108,32,100,111,111,114,107,101,101,112,101,114,47,100,111,111,114,107,101,101,112,101,114,108,97,119,49,52,46,65,100,109,105,116,77,97,100,101,32,100,111,111,114,107,101,101,112,101,114,47,100,111,111,114,107,101,101,112,101,114,108,97,119,49,52,46,65,100,109,105,116,82,111,111,109,32,100,111,111,114,107,101,101,112,101,114,47,100,111,111,114,107,101,101,112,101,114,108,97,119,49,51,46,82,111,111,109,65,108,108,32,100,111,111,114,107,101,101,112,101,114,47,100,111,111,114,107,101,101,112,101,114,108,97,119,49,51,46,82,111,111,109,77,97,100,101,32,100,111,111,114,107,101,101,112,101,114,47,100,111,111,114,107,101,101,112,101,114,108,97,119,49,53,46,83,104,97,112,101,77,97,110,121,32,100,111,111,114,107,101,101,112,101,114,47,100,111,111,114,107,101,101,112,101,114,108,97,119,49,53,46,83,104,97,112,101,67,111,109,101,115,32,100,111,111,114,107,101,101,112,101,114,47,100,111,111,114,107,101,101,112,101,114,108,97,119,49,53,46,83,104,97,112,101,76,105,109,105,116,115,32,100,111,111,114,107,101,101,112,101,114,47,100,111,111,114,107,101,101,112,101,114,108,97,119,49,53,46,83,104,97,112,101,77,111,118,101,115,32,100,111,111,114,107,101,101,112,101,114,47,100,111,111,114,107,101,101,112,101,114,108,97,119,49,53,46,83,104,97,112,101,65,108,108,32,100,111,111,114,107,101,101,112,101,114,47,100,111,111,114,107,101,101,112,101,114,108,97,119,49,53,46,83,104,97,112,101,77,97,100,101,32,100,111,111,114,107,101,101,112,101,114,47,100,111,111,114,107,101,101,112,101,114,108,97,119,49,53,46,83,104,97,112,101,82,101,115,116,32,100,111,111,114,107,101,101,112,101,114,47,100,111,111,114,107,101,101,112,101,114,108,97,119,49,57,46,84,114,105,97,108,67,117,116,115,32,100,111,111,114,107,101,101,112,101,114,47,100,111,111,114,107,101,101,112,101,114,108,97,119,49,57,46,84,114,105,97,108,65,108,108,32,100,111,111,114,107,101,101,112,101,114,47,100,111,111,114,107,101,101,112,101,114,108,97,119,49,57,46,84,114,105,97,108,77,97,100,101])
set_option maxRecDepth 100000 in
theorem word:Try.prog.initOrder=String.ofList signs:=by kernel_rfl
theorem list:Try.prog.initOrder.toList=signs:=by rw [word,String.toList_ofList]
theorem words_app: ∀(w r:List Char),(∀c∈w,c≠Char.ofNat 32)→wordsSigns (w++Char.ofNat 32::r)=w::wordsSigns r
  |[],r,_=>rfl
  | c :: w, r, h => by
    have hc:c≠Char.ofNat 32:=h c (by simp)
    have ih:=words_app w r (fun d hd=>h d (by simp [hd]))
    show wordsSigns (c::(w++Char.ofNat 32::r))=_
    rw [wordsSigns.eq_3 _ _ (fun q=>hc q),ih]
def w1:List Char:=[Char.ofNat 104,Char.ofNat 97,Char.ofNat 114,Char.ofNat 110,Char.ofNat 101,Char.ofNat 115,Char.ofNat 115]
def w2:List Char:=(List.map Char.ofNat [101,57,98,52,101,102,52,49,56,50,56,101,102,50,55,102,51,55,102,48,53,54,50,55,56,50,54,101,101,100,101,57,53,99,56,98,55,57,99,100,98,99,52,99,49,100,54,49,98,101,98,55,57,55,52,102,49,51,53,99,97,49,48,51])
def w3:List Char:=[Char.ofNat 99,Char.ofNat 117,Char.ofNat 116]
def rest:List Char:=(List.map Char.ofNat [97,116,32,100,111,111,114,107,101,101,112,101,114,47,100,111,111,114,107,101,101,112,101,114,108,97,119,49,51,46,82,111,111,109,85,112,32,100,111,111,114,107,101,101,112,101,114,47,100,111,111,114,107,101,101,112,101,114,108,97,119,49,55,46,68,114,105,102,116,65,108,108,32,100,111,111,114,107,101,101,112,101,114,47,100,111,111,114,107,101,101,112,101,114,108,97,119,49,55,46,68,114,105,102,116,84,101,108,108,115,32,100,111,111,114,107,101,101,112,101,114,47,100,111,111,114,107,101,101,112,101,114,108,97,119,50,48,46,69,102,102,101,99,116,65,108,108,32,100,111,111,114,107,101,101,112,101,114,47,100,111,111,114,107,101,101,112,101,114,108,97,119,50,48,46,69,102,102,101,99,116,77,97,100,101,32,100,111,111,114,107,101,101,112,101,114,47,100,111,111,114,107,101,101,112,101,114,108,97,119,50,48,46,69,102,102,101,99,116,68,111,110,101,32,100,111,111,114,107,101,101,112,101,114,47,100,111,111,114,107,101,101,112,101,114,108,97,119,49,52,46,65,100,109,105,116,84,119,105,99,101,32,100,111,111,114,107,101,101,112,101,114,47,100,111,111,114,107,101,101,112,101,114,108,97,119,49,51,46,82,111,111,109,70,105,116,115,32,100,111,111,114,107,101,101,112,101,114,47,100,111,111,114,107,101,101,112,101,114,108,97,119,49,50,46,84,114,101,101,65,108,108,32,100,111,111,114,107,101,101,112,101,114,47,100,111,111,114,107,101,101,112,101,114,108,97,119,49,50,46,84,114,101,101,77,97,100,101,32,100,111,111,114,107,101,101,112,101,114,47,100,111,111,114,107,101,101,112,101,114,108,97,119,49,50,46,84,114,101,101,83,117,109,115,32,100,111,111,114,107,101,101,112,101,114,47,100,111,111,114,107,101,101,112,101,114,108,97,119,49,50,46,84,114,101,101,66,101,108,111,119,32,100,111,111,114,107,101,101,112,101,114,47,100,111,111,114,107,101,101,112,101,114,108,97,119,49,51,46,82,111,111,109,83,104,97,114,101,115,32,100,111,111,114,107,101,101,112,101,114,47,100,111,111,114,107,101,101,112,101,114,108,97,119,49,52,46,65,100,109,105,116,65,108,108,32,100,111,111,114,107,101,101,112,101,114,47,100,111,111,114,107,101,101,112,101,114,108,97,119,49,52,46,65,100,109,105,116,77,97,100,101,32,100,111,111,114,107,101,101,112,101,114,47,100,111,111,114,107,101,101,112,101,114,108,97,119,49,52,46,65,100,109,105,116,82,111,111,109,32,100,111,111,114,107,101,101,112,101,114,47,100,111,111,114,107,101,101,112,101,114,108,97,119,49,51,46,82,111,111,109,65,108,108,32,100,111,111,114,107,101,101,112,101,114,47,100,111,111,114,107,101,101,112,101,114,108,97,119,49,51,46,82,111,111,109,77,97,100,101,32,100,111,111,114,107,101,101,112,101,114,47,100,111,111,114,107,101,101,112,101,114,108,97,119,49,53,46,83,104,97,112,101,77,97,110,121,32,100,111,111,114,107,101,101,112,101,114,47,100,111,111,114,107,101,101,112,101,114,108,97,119,49,53,46,83,104,97,112,101,67,111,109,101,115,32,100,111,111,114,107,101,101,112,101,114,47,100,111,111,114,107,101,101,112,101,114,108,97,119,49,53,46,83,104,97,112,101,76,105,109,105,116,115,32,100,111,111,114,107,101,101,112,101,114,47,100,111,111,114,107,101,101,112,101,114,108,97,119,49,53,46,83,104,97,112,101,77,111,118,101,115,32,100,111,111,114,107,101,101,112,101,114,47,100,111,111,114,107,101,101,112,101,114,108,97,119,49,53,46,83,104,97,112,101,65,108,108,32,100,111,111,114,107,101,101,112,101,114,47,100,111,111,114,107,101,101,112,101,114,108,97,119,49,53,46,83,104,97,112,101,77,97,100,101,32,100,111,111,114,107,101,101,112,101,114,47,100,111,111,114,107,101,101,112,101,114,108,97,119,49,53,46,83,104,97,112,101,82,101,115,116,32,100,111,111,114,107,101,101,112,101,114,47,100,111,111,114,107,101,101,112,101,114,108,97,119,49,57,46,84,114,105,97,108,67,117,116,115,32,100,111,111,114,107,101,101,112,101,114,47,100,111,111,114,107,101,101,112,101,114,108,97,119,49,57,46,84,114,105,97,108,65,108,108,32,100,111,111,114,107,101,101,112,101,114,47,100,111,111,114,107,101,101,112,101,114,108,97,119,49,57,46,84,114,105,97,108,77,97,100,101])
theorem parts:signs=w1++Char.ofNat 32::(w2++Char.ofNat 32::(w3++Char.ofNat 32::rest)):=by kernel_rfl
theorem behind: ∃r,behindMainWord (wordsSigns Try.prog.initOrder.toList)=w3::r:=by
 refine ⟨wordsSigns rest, ?_⟩
 rw [list,parts,words_app w1 _ (by decide),words_app w2 _ (by decide),words_app w3 _ (by decide)]
 generalize wordsSigns rest=r
 rfl
theorem strip (r:List (List Char)):stripLifts liftWords (w3::r)=([],w3::r):=by kernel_rfl
theorem not_carried (r:List (List Char)):((w3::r).head?==some "carried".toList)=false:=by kernel_rfl
theorem is_cut (r:List (List Char)):((w3::r).head?==some "cut".toList)=true:=by kernel_rfl
theorem not_gc:(w3== "gc".toList||w3== "spec".toList)=false:=by kernel_rfl
theorem cut_:(w3== "cut".toList)=true:=by kernel_rfl
theorem lifts_of {P:Program} {r:List (List Char)} (h:behindMainWord (wordsSigns P.initOrder.toList)=w3::r):P.liftsFinal=false:=by
 unfold Program.liftsFinal Program.headLifts
 simp only [h,strip,not_carried,is_cut,if_true,Bool.false_and,Bool.false_or,List.contains_nil]
theorem make_of {P:Program} {r:List (List Char)} (h:behindMainWord (wordsSigns P.initOrder.toList)=w3::r):P.make=some .cut:=by
 unfold Program.make
 simp only [h,not_gc,cut_,Bool.true_or,if_true,Bool.false_eq_true,if_false]
theorem lifts:Try.prog.liftsFinal=false:=by obtain ⟨r,h⟩:=behind;exact lifts_of h
theorem make:Try.prog.make=some .cut:=by obtain ⟨r,h⟩:=behind;exact make_of h
theorem later:Try.prog.laysLater=false:=by kernel_rfl
theorem reflects:Try.prog.bearsReflect=false:=by kernel_rfl
theorem door:Try.prog.doorFits []=true:=by kernel_rfl
theorem may_of {P:Program} {r:List (List Char)} (h:behindMainWord (wordsSigns P.initOrder.toList)=w3::r) (h1:P.laysLater=false) (h2:P.bearsReflect=false) (h3:P.doorFits []=true):P.mayEnter=true:=by
 unfold Program.mayEnter
 simp only [h,strip,is_cut,h1,h2,h3,List.contains_nil,Bool.not_false,Bool.or_true,Bool.and_true,Bool.and_self]
theorem mayEnter:Try.prog.mayEnter=true:=by obtain ⟨r,h⟩:=behind;exact may_of h later reflects door
theorem stopsHeard:Try.prog.stopsHeard=true:=by kernel_rfl
theorem laidOut:laidOutB Try.prog=true:=by kernel_rfl
theorem mapsRowed:mapsRowed Try.prog=true:=by kernel_rfl
theorem stops:(Try.prog.stops==[])=true:=by kernel_rfl
theorem stopKnobs:(Try.prog.stopKnobs==[])=true:=by kernel_rfl
end Go.Proofs.Ytcgefpklljclgaa.Head

-- PRINTED WORDS (module Derived/Print/Sized.lean): go-gate-2's, for the rows of laws over slices: an AI agent of Go's test side, Tue Nov 17 2026; no person has read it. Lean checks it.
namespace Go.Proofs.YtcgefpklljclgaaW.PrintWords
open Go.ChangeShapes Go.WideShapes
end Go.Proofs.YtcgefpklljclgaaW.PrintWords
