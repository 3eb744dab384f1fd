/- PlanAll: a part -/
import Derived.Deep.Slices
import Derived.Deep.Fields
import Derived.ChangeSame
import Derived.WalkSpells
import Derived.Laws.Cover1
import Derived.Shelf.Abstract
import Derived.Lib.SliceRun
import Derived.Lib.JoinLaws
import Derived.Lib.AppendZerosOnto
import Derived.Lib.Overlaps
import Derived.Laws.Externs
import Derived.Laws.IdiomCopy
import Derived.Laws.NewBlocks
import Derived.Deep.RegionLaw
import Derived.Shelf.RegionOpenPlain
import Derived.Test.YtahidkjncljkaaaRows
import Derived.WalkKit
import Derived.ProofKit
import Derived.OpenShut
import Derived.JoinedOf
import Derived.SizedLaws
import Derived.ChangeSlices
import Derived.Test.YtahidkjncljkaaaBPlanAll0
import Derived.Test.YtahidkjncljkaaaBPlanAll1
import Derived.Test.YtahidkjncljkaaaBPlanAll2
import Derived.Test.YtahidkjncljkaaaBPlanAll3
import Derived.Test.YtahidkjncljkaaaBPlanAll4
set_option linter.unusedVariables false
set_option linter.unusedSimpArgs false
namespace Go.Proofs.Ytahidkjncljkaaa.Print
open Go.RowKit Go.Proofs.YtahidkjncljkaaaW.PrintWords Go.Proofs.YtahidkjncljkaaaW.PrintLast
theorem bef_fill {l:List Want} (h:TreeW l) {a b:Want}:cmpW (fillR l) a.f0 b.f0<0↔bef l a b=true:=by
 rw [cmpW_neg,fillR_tree h,fillR_tree h,bef_iff]
theorem topIs_topR {l:List Want} (h:TreeW l):TopIs l (topR l):=by
 refine ⟨topR_perm l,(topR_sorted h.nodup).imp fun {a b} q k=> ?_⟩;rw [bef_fill h] at k;have:=bef_trans q k
 rw [bef_irrefl] at this;cases this
theorem topIs_unique {l t:List Want} (h:TreeW l) (k:TopIs l t):t=topR l:=by
 refine top_unique h.nodup k.1 ?_
 have hn:t.Pairwise (fun a b=>a.f0≠b.f0):=by
  have:=(k.1.map (·.f0)).nodup_iff.2 h.nodup
  exact List.pairwise_map.1 this
 refine (k.2.and hn).imp fun {a b} q=> ?_
 have e:bef l b a=false:=by
  rw [←Bool.not_eq_true,←bef_fill h];exact q.1
 exact bef_total e (fun e=>q.2 e.symm)
theorem want_Top_tree {l:List Want} (h:TreeW l) (hs:smallW l):want_Top.f l=some (topR l):=by
 classical
 unfold want_Top.f;have hh:l.length≤1000∧smallW l∧ ∃t,TopIs l t∧ ∀t',TopIs l t'→t'=t:=⟨by have:=h.len;omega,hs,topR l,topIs_topR h,fun t' k=>topIs_unique h k⟩;rw [dif_pos hh];exact congrArg some (topIs_unique h hh.2.2.choose_spec.1)
def SmallTo (l:List Want) (i:Nat):Prop:= ∀j (h:j<l.length),i≤j→j<150→l[j].f0.size≤100∧l[j].f1.size≤100
theorem greatW_l0 (l:List Want): ∀(d i:Nat),150 - i=d→i≤150→i≤l.length→ ∃g,Ev (fun k=>law11_Great.l0 k l i) g∧(g=false→l.length≤130∧SmallTo l i)
  | 0, i, hd, hi, hl => by
    obtain rfl:i=150:=by omega
    have hj:Ev (fun k=>law11_Great.j1 k l ((150:Nat):Int) false) (decide ((l.length:Int)>130)):=by
      refine Ev.step (fun k=>law11_Great.j1.eq_2 (k:=k) ..) ?_;simp only [Bool.false_eq_true,if_false];exact Ev.now _
    refine ⟨decide ((l.length:Int)>130), ?_,fun h=>⟨by have:=of_decide_eq_false h;omega,fun j h a b=>by omega⟩⟩;refine Ev.step (fun k=>law11_Great.l0.eq_2 (k:=k) ..) ?_;rw [show decide (((150:Nat):Int)<150)=false from by decide];by_cases h:((150:Nat):Int)<(l.length:Int)
    · exact Ev.congr (fun k=>if_pos h) hj
    exact Ev.congr (fun k=>if_neg h) hj
  | d + 1, i, hd, hi, hl => by
    by_cases h:(i:Int)<(l.length:Int);rotate_left
    · refine ⟨decide ((l.length : Int) > 130), ?_, fun h2 => ⟨by have := of_decide_eq_false h2; omega, fun j hj a b => by omega⟩⟩
      refine Ev.step (fun k=>law11_Great.l0.eq_2 (k:=k) ..) ?_
      refine Ev.congr (fun k=>if_neg h) ?_
      refine Ev.step (fun k=>law11_Great.j1.eq_2 (k:=k) ..) ?_
      simp only [Bool.false_eq_true,if_false]
      exact Ev.now _
    have hj: ∃g,Ev (fun k=>law11_Great.j1 k l (i:Int) true) g∧(g=false→l.length≤130∧SmallTo l i):=by
      have e1:((0:Int)≤(i:Int))=True:=eq_true (by omega);have e2:((i:Int)<(l.length:Int))=True:=eq_true h;have e3:wrap64 ((i:Int)+1)=((i+1:Nat):Int):=by rw [w64 (by omega) (by omega)];rfl
      have hlt:i<l.length:=by omega
      have hrd:=rd_wantN l hlt;by_cases h1:((rd_T39 l (i:Int)).f0.size:Int)>100
      · refine ⟨true, ?_, fun q => by cases q⟩
        refine Ev.step (fun k=>law11_Great.j1.eq_2 (k:=k) ..) ?_
        simp only [e1,e2,if_true]
        exact Ev.congr (fun k=>if_pos h1) (Ev.now _)
      by_cases h2:((rd_T39 l (i:Int)).f1.size:Int)>100
      · refine ⟨true, ?_, fun q => by cases q⟩
        refine Ev.step (fun k=>law11_Great.j1.eq_2 (k:=k) ..) ?_
        simp only [e1,e2,if_true]
        exact Ev.congr (fun k=>(if_neg h1).trans (if_pos h2)) (Ev.now _)
      obtain ⟨g,hg,hg2⟩:=greatW_l0 l d (i+1) (by omega) (by omega) (by omega);refine ⟨g, ?_,fun e=>⟨(hg2 e).1,fun j hj a b=> ?_⟩⟩
      · refine Ev.step (fun k => law11_Great.j1.eq_2 (k := k) ..) ?_
        simp only [e1,e2,e3,if_true]
        exact Ev.congr (fun k=>(if_neg h1).trans (if_neg h2)) hg
      by_cases c:i=j;rotate_left
      · exact (hg2 e).2 j hj (by omega) b
      subst c;rw [hrd] at h1 h2;exact ⟨by omega,by omega⟩
    obtain ⟨g,hg,hg2⟩:=hj;refine ⟨g, ?_,hg2⟩;refine Ev.step (fun k=>law11_Great.l0.eq_2 (k:=k) ..) ?_;rw [show decide ((i:Int)<150)=true from decide_eq_true (by omega)];exact Ev.congr (fun k=>if_pos h) hg
theorem greatW_ev (l:List Want): ∃g,Ev (fun k=>law11_Great.f k l) g∧(g=false→l.length≤130∧smallW l):=by
 obtain ⟨g,h1,h2⟩:=greatW_l0 l _ 0 rfl (by omega) (by omega);refine ⟨g,h1,fun e=>⟨(h2 e).1,fun w hw=> ?_⟩⟩;obtain ⟨j,hj,rfl⟩:=List.getElem_of_mem hw;have:=(h2 e).1
 have:=(h2 e).2 j hj (by omega) (by omega)
 omega
theorem nil_small:smallW ([]:List Want):=fun w hw=>by cases hw
end Go.Proofs.Ytahidkjncljkaaa.Print

namespace Go.Proofs.Ytahidkjncljkaaa.Print
open Go.RowKit Go.Shelf Go.Proofs.YtahidkjncljkaaaW.PrintWords Go.Proofs.YtahidkjncljkaaaW.PrintLast Go.Proofs.YtahidkjncljkaaaW.PrintMore
def goalZ:Value:= .agg #[Value.string ⟨#[]⟩, .string ⟨#[]⟩, .int .i64 0, .int .i64 0, .int .i64 0, .string ⟨#[]⟩, .string ⟨#[]⟩, .int .i64 0, .int .i64 0, .int .i64 0, .int .i64 0, .int .i64 0, .int .i64 0, .int .i64 0, .int .i64 0, .int .i64 0, .int .i64 0, .bool false, .int .i64 0, .int .i64 0, .int .i64 0]
theorem goalLit_fill (z:PGoal):Instr.fill (fun i=>some (i*21,21)) ((Array.range (1*21)).map (fun x=>goalZ.cells[x % goalZ.cells.size]!)) [(0, .agg (goalCells z).toArray)]=some (goalCells z).toArray:=by kernel_rfl
theorem goalLit_zero (w:World):(zeroValue 141).run Try.prog w= .ok goalZ w:=by
 unfold goalZ;go_simp
theorem goalLit (z:PGoal) (w:World):(Instr.buildSlice 137 1 #[(0, .agg (goalCells z).toArray)]).run Try.prog w= .ok (.slice (some ⟨w.heap.size,0,none⟩) 1 1) (w.alloc (.cells (goalCells z).toArray 141)):=by
 have hz:=goalLit_zero w;have hf:=goalLit_fill z;have hu:=Try.underlying137;have hs:(sizeOf 141).run Try.prog w= .ok 21 w:=by go_simp
 unfold Instr.buildSlice;rw [Sem.run_bind,run_underlying hu w];simp only [Result.andThen_ok];rw [Sem.run_bind,hs];simp only [Result.andThen_ok];rw [if_neg (by decide),if_neg (by decide),Sem.run_bind,hz];simp only [Result.andThen_ok,Sem.run_bind,Sem.run_pure];rw [hf];simp only [newRow,Sem.run_bind,Sem.run_pure];go_simp
theorem goalLit_exec {a:Act} {o:Oper} (z:PGoal) {N:Nat} (ho:o.op= .buildSlice 137 1 #[(0, .tmp N)]) (hx:a.eval (.tmp N)= .agg (goalCells z).toArray) (w:World):(execOp a.eval o).run Try.prog w= .ok (.value (.slice (some ⟨w.heap.size,0,none⟩) 1 1)) (w.alloc (.cells (goalCells z).toArray 141)):=by
 have h:=goalLit z w;unfold execOp;simp only [ho,List.map_toArray,List.map_cons,List.map_nil,hx,Sem.run_bind,h,Result.andThen_ok,Sem.run_pure]
end Go.Proofs.Ytahidkjncljkaaa.Print

namespace Go.Proofs.Ytahidkjncljkaaa.Print
open Go.RowKit Go.Shelf Go.Sort Go.Proofs.YtahidkjncljkaaaW.PrintWords Go.Proofs.YtahidkjncljkaaaW.PrintLast Go.Proofs.YtahidkjncljkaaaW.PrintMore
def gzero (y:Want):PGoal:=⟨y,zItem,false,⟨0,0,0⟩⟩
def goalOf (l:List Item) (y:Want):PGoal:=match look l y.f0 with
 |some x=>⟨y,x,true,⟨0,0,0⟩⟩
 |none=>gzero y
def itemRow (x:Item):List Value:=[.string x.f0, .string x.f1, .int .i64 x.f2.f0, .int .i64 x.f2.f1, .int .i64 x.f2.f2, .int .i64 x.f3.f0, .int .i64 x.f3.f1, .int .i64 x.f3.f2, .int .i64 x.f4.f0, .int .i64 x.f4.f1, .int .i64 x.f4.f2, .int .i64 x.f5]
theorem itemRow_info:(Try.prog.info? 79).map (·.size)=some 12:=by kernel_rfl
theorem itemRow_one (x:Item): ∀q∈itemRow x,q.oneCell'=true:=by
 intro q hq;unfold itemRow at hq;simp only [List.mem_cons,List.not_mem_nil,or_false] at hq
 rcases hq with rfl|rfl|rfl|rfl|rfl|rfl|rfl|rfl|rfl|rfl|rfl|rfl<;>rfl
section
variable {P:Program} {ops:Array Oper} {rest:List Oper} {o:Oper} {a:Act} {Q:Exit→Act→World→Prop} {W:World}
theorem load_run {t:Nat} {ad:Addr} (cs:List Value) (d:TypeDesc) (hu:P.underlying t=some d) (hd:(match d with| .struct _| .array _ _=>true|_=>false)=true) (hi:(P.info? t).map (·.size)=some cs.length) (hc: ∀j v,cs[j]?=some v→W.cell? (ad.add j)=some v):(loadVar t ad).run P W= .ok (.agg cs.toArray) W:=by
  have hl:(loadCells ad cs.length).run P W= .ok cs.toArray W:=run_loadCells_list (P:=P) W ad cs hc
  cases hq:P.info? t with
  |none=>simp [hq] at hi
  | some i =>
    have hs:i.size=cs.length:=by simpa [hq] using hi
    have hagg:(isAgg t).run P W= .ok true W:=by
      unfold isAgg;rw [Sem.run_bind,run_underlying hu W]
      cases d<;>simp_all
    simp [loadVar,Sem.run_bind,hagg,sizeOf,typeInfo,hq,hs,hl]
theorem load_ad {t:Nat} {ad:Addr} (cs:List Value) (hgd:o.guard=none) (x:Operand) (ho:o.op= .load t x) (hx:a.eval x= .pointer (some ad)) (d:TypeDesc) (hu:P.underlying t=some d) (hd:(match d with| .struct _| .array _ _=>true|_=>false)=true) (hi:(P.info? t).map (·.size)=some cs.length)
  (hc: ∀j v,cs[j]?=some v→W.cell? (ad.add j)=some v) (h:wpList P ops Q rest (a.put o.dst (.agg cs.toArray)) W):wpList P ops Q (o::rest) a W:=by
 have hrun:=load_run (P:=P) (W:=W) cs d hu hd hi hc;refine wpList_plain hgd fun K hK=> ?_
 unfold Oper.wp execOp;simp only [ho,hx,Instr.loadAt,Instr.sureAddr,Sem.run_bind,Sem.run_pure,Result.andThen_ok,hrun];exact hK _ _ h
theorem load_exec {t g off:Nat} (cs:List Value) (x:Operand) (ho:o.op= .load t x) (hx:a.eval x= .pointer (some ⟨g,off,none⟩)) (d:TypeDesc) (hu:P.underlying t=some d) (hd:(match d with| .struct _| .array _ _=>true|_=>false)=true) (hi:(P.info? t).map (·.size)=some cs.length)
  (hc: ∀j v,cs[j]?=some v→W.cell? ⟨g,off+j,none⟩=some v):(execOp a.eval o).run P W= .ok (.value (.agg cs.toArray)) W:=by
 have hrun:=load_run (P:=P) (W:=W) (ad:=⟨g,off,none⟩) cs d hu hd hi (fun j v hv=>by rw [Addr.add_lit];exact hc j v hv);unfold execOp;simp only [ho,hx,Instr.loadAt,Instr.sureAddr,Sem.run_bind,Sem.run_pure,Result.andThen_ok,hrun]
end
theorem R_elder {α:Type} {d:Kd α} {e base g:Nat} {w w1:World} {v:Value} {xs:List α} (h:d.R e w base (fun _=>True) v xs) (hg:w.grownBy w1 (some g)) (hne:some g≠v.ownBlock) (hE:d.E=[]:=by rfl):d.R e w1 base (fun _=>True) v xs:=
 Kd.R_mono (Kd.R_grown (Kd.R_tight hE h) hg (fun k hk e=>hne (e.symm.trans hk))) (fun _ _=>trivial)
def badW (l:List Item) (ms:List PMark) (y:Want):Bool:=(look l y.f0).isSome && !(ms.any (fun m=>m.f0.toList==y.f0.toList))
def wideOf (l:List Item) (y:Want):Bool:=match look l y.f0 with
 |some x=>x.f1.toList !=y.f1.toList
 |none=>false
def wideP (l:List Item) (ms:List PMark):Bool→List Want→Option Bool
 |b,[]=>some b
 |b,y::ys=>if badW l ms y=true then none else wideP l ms (b||wideOf l y) ys
def PlanIs (ws top:List Want) (ms:List PMark) (l:List Item) (r:List S76) (e:Int):Prop:=
 if checkR ws=0 then (match wideP l ms false top with
  |none=>r=[]∧e=3
  |some wide=>e=0∧ ∃ns,GoneIs ((top.map (goalOf l)).map (upG wide)) ms l ns∧r=(((top.map (goalOf l)).flatMap (raiseG wide)++((top.map (goalOf l)).map (upG wide)).flatMap moveG)++((top.map (goalOf l)).map (upG wide)).reverse.flatMap lowerG)++ns.map delS)
 else r=[]∧e=checkR ws
theorem infoGoal:(Try.prog.info? 141).map (fun i=>(i.zero,i.size,i.bytes))=some (some (.agg #[.string ⟨#[]⟩, .string ⟨#[]⟩, .int .i64 0, .int .i64 0, .int .i64 0, .string ⟨#[]⟩, .string ⟨#[]⟩, .int .i64 0, .int .i64 0, .int .i64 0, .int .i64 0, .int .i64 0, .int .i64 0, .int .i64 0, .int .i64 0, .int .i64 0, .int .i64 0, .bool false, .int .i64 0, .int .i64 0, .int .i64 0]),21,200):=by kernel_rfl
theorem at_item {l:List Item} {w:World} {A:Option Addr} (h:Kd.C k79 w A l.length l) {i:Int} {x:Item} (h0:0≤i) (h1:i<(l.length:Int)) (hx:rd_T79 l i=x): ∃ad,A=some ad∧ ∀j v,(itemRow x)[j]?=some v→w.cell? ((ad.add (i.toNat*12)).add j)=some v:=by
 obtain ⟨ad,c,e,_,hK,hc0⟩:=Kd.C_get h z79 i h0 h1;have hc: ∀j u,c[j]?=some u→w.cell? (ad.add (i.toNat*12+j))=some u:=hc0;obtain rfl:=k79_open hK;subst hx;refine ⟨ad,e,fun j v hv=> ?_⟩;rw [add_add];exact hc j v hv
set_option maxHeartbeats 8000000 in
set_option maxRecDepth 100000 in
theorem planSteps_raw (Aw:Option Addr) (cw:Nat) (ws:List Want) (Am:Option Addr) (cm:Nat) (ms:List PMark) (Al:Option Addr) (cl:Nat) (l:List Item) (w:World) (hW:Kd.C k39 w Aw ws.length ws) (hcw:ws.length≤cw) (hM:Kd.C k84 w Am ms.length ms) (hcm:ms.length≤cm) (hC:Kd.C k79 w Al l.length l) (hcl:l.length≤cl)
    (hs:smallW ws) (hll:l.length<10000) (hml:ms.length<10000):
    Calls Try.prog 48 #[.slice Aw ws.length cw, .slice Am ms.length cm, .slice Al l.length cl] w fun e w'=> ∃(v:Value) (r:List S76) (q:Int),e= .returned (.tuple #[v, .int .i64 q])∧PlanIs ws (topR ws) ms l r q∧Kd.R k76 76 w' w.heap.size (fun _=>True) v r∧Below w.heap.size w w':=by
  have hu139:=Try.underlying139;have hu141:=Try.underlying141;have hu39:=Try.underlying39;have hu79:=Try.underlying79;have hu84:=Try.underlying84;have HW:=Aside0.mk hW;have HM:=Aside0.mk hM;have HCM:=Aside0.mk hcm;have HC:=Aside0.mk hC;have HCL:=Aside0.mk hcl;have HLL:=Aside0.mk hll;have HML:=Aside0.mk hml;have HS:=Aside0.mk hs;have HCW:=Aside0.mk hcw;have HB:=am_ (Below.refl w.heap.size w);clear hW hM hcm hC hcl hll hml hs hcw;obtain ⟨kc,hkc⟩:=want_Check_ev HS.out;have HCK:=am_ (hkc kc (Nat.le_refl _));clear hkc;by_cases hz:checkR ws=0;rotate_left
  · have HZ := Aside0.mk hz
    have hb_:(checkR ws !=0)=true:=by simpa using hz
    generalize hck:checkR ws=ck at*
    have HCE:=Aside0.mk hck
    clear hck
    go_enter Try.func48,Try.ntmps48
    go_wp2_with (first
      |(go_at_call 26;refine (want_Check.calls kc Aw cw ws ck _ (Kd.C_below HW.out HB.out) HCW.out HCK.out).mono ?_;rintro e w1 ⟨rfl,hb⟩;have n0_:=am_ (below_step HB.out hb);clear HB hb;have HB:=n0_;clear n0_))
    go_ret2
    refine ⟨_,[],ck,rfl, ?_,Kd.R_nil _ _ _ _ _,HB.out⟩
    unfold PlanIs
    rw [HCE.out,if_neg HZ.out]
    exact ⟨rfl,rfl⟩
  have HZ:=Aside0.mk hz;have HTR:=am_ (checkR_tree (.inl hz));have HTL:=am_ (show (topR ws).length≤120 by rw [(topR_perm ws).length_eq];exact HTR.out.len);have HTE:=am_ (want_Top_tree HTR.out HS.out);generalize hck:checkR ws=ck at*;have HCE:=Aside0.mk hck;clear hck;subst hz;go_enter Try.func48,Try.ntmps48
  go_wp2_with (first
    |(go_at_call 26;refine (want_Check.calls kc Aw cw ws 0 _ (Kd.C_below HW.out HB.out) HCW.out HCK.out).mono ?_;rintro e w1 ⟨rfl,hb⟩;have n0_:=am_ (below_step HB.out hb);clear HB hb;have HB:=n0_;clear n0_)
    |((with_reducible refine gate_dst (N:=20) rfl ?_);refine bx_ (N:=20) (cs:=#[.slice none 0 0, .bool false, .slice none 0 0]) (t:=139) ?_;intro b hg w2 hbox hb;have GE:=am_ (show w.heap.size≤b from by rw [hg];exact below_size HB.out);have n0_:=am_ (below_step HB.out hb);have BK:=Aside0.mk hbox;clear HB hb hbox hg;have HB:=n0_;clear n0_)
    |(go_at_call 30;refine (want_Top.calls Aw cw ws (topR ws) _ (Kd.C_below HW.out HB.out) HCW.out HTE.out).mono ?_;rintro e w3 ⟨vt,rfl,ht,hb⟩;have n0_:=am_ (Kd.R_lower ht (below_size HB.out));have n1_:=am_ (blk_below BK.out hb);have n2_:=am_ (below_step HB.out hb);clear HB BK ht hb;have HT:=n0_;have BK:=n1_;have HB:=n2_;clear n0_ n1_ n2_;obtain ⟨At,ct,et⟩:=Kd.R_slice HT.out;subst et))
  clear HTE HTR HCK;generalize hTE:topR ws=top at HTL HT;have HTP2:=Aside0.mk hTE;clear hTE;go_loopg [24] top.length (fun kq v24 w'=> ∃(pre post:List Want) (u:Value) (wd:Bool),top=pre++post∧kq=post.length∧v24= .int .i64 (pre.length:Int)∧Aside0 (wideP l ms false top=wideP l ms wd post)∧Aside0 (w'.heap[b]?=some (Obj.cells #[u, .bool wd, .slice none 0 0] 139 (0,0)))∧Aside0 (Kd.R k141 141 w' w.heap.size (fun _=>True) u (pre.map (goalOf l)))∧Aside0 (Kd.R k39 39 w' w.heap.size (fun _=>True) (.slice At top.length ct) top)∧Aside0 (Below w.heap.size w w'))
  case atStart=>exact ⟨[],top, .slice none 0 0,false,rfl,rfl,rfl,⟨rfl⟩,BK,⟨Kd.R_nil _ _ _ _ _⟩,HT,HB⟩
  case round=>
    clear BK HT HB;obtain ⟨pre,post,u,wd,htop,hkq,rfl,HWD,BK,HG,HT,HB⟩:=hrel;obtain ⟨Au,cu,eu⟩:=Kd.R_slice HG.out;subst eu
    cases post with
    | nil =>
      have c1:decide ((pre.length:Int)<(top.length:Int))=false:=decide_eq_false (by rw [htop,List.append_nil];omega);rw [List.append_nil] at htop;subst htop
      go_wp2_with (first|(go_at_call 94;refine (planRaise_calls w _ b _ _ wd (top.map (goalOf l)) [] BK.out GE.out HB.out HG.out (Kd.R_nil _ _ _ _ _) (by simp only [List.length_append,List.length_map,List.length_nil,List.length_reverse];have:=HTL.out;have:=HML.out;have h1_:=raiseG_len wd (top.map (goalOf l));have h2_:=moveG_len ((top.map (goalOf l)).map (upG wd));have h3_:=lowerG_len ((top.map (goalOf l)).map (upG wd)).reverse;simp only [List.length_map,List.length_reverse] at h1_ h2_ h3_;omega)).mono ?_;rintro e w31 ⟨rfl,vo1,hbk,hg1,ho1,hb⟩;clear BK HG HB;have BK:=Aside0.mk hbk;have HG:=Aside0.mk hg1;have HO:=Aside0.mk ho1;have HB:=Aside0.mk hb;clear hbk hg1 ho1 hb)|(go_at_call 95;refine (planMove_calls w _ b _ _ wd ((top.map (goalOf l)).map (upG wd)) _ BK.out GE.out HB.out HG.out HO.out (by simp only [List.length_append,List.length_map,List.length_nil,List.length_reverse];have:=HTL.out;have:=HML.out;have h1_:=raiseG_len wd (top.map (goalOf l));have h2_:=moveG_len ((top.map (goalOf l)).map (upG wd));have h3_:=lowerG_len ((top.map (goalOf l)).map (upG wd)).reverse;simp only [List.length_map,List.length_reverse] at h1_ h2_ h3_;omega)).mono ?_;rintro e w32 ⟨rfl,vo1,hbk,hg1,ho1,hb⟩;clear BK HG HB HO;have BK:=Aside0.mk hbk;have HG:=Aside0.mk hg1;have HO:=Aside0.mk ho1;have HB:=Aside0.mk hb;clear hbk hg1 ho1 hb)|(go_at_call 96;refine (planLower_calls w _ b _ _ wd ((top.map (goalOf l)).map (upG wd)) _ BK.out GE.out HB.out HG.out HO.out (by simp only [List.length_append,List.length_map,List.length_nil,List.length_reverse];have:=HTL.out;have:=HML.out;have h1_:=raiseG_len wd (top.map (goalOf l));have h2_:=moveG_len ((top.map (goalOf l)).map (upG wd));have h3_:=lowerG_len ((top.map (goalOf l)).map (upG wd)).reverse;simp only [List.length_map,List.length_reverse] at h1_ h2_ h3_;omega)).mono ?_;rintro e w33 ⟨rfl,vo1,hbk,hg1,ho1,hb⟩;clear BK HG HB HO;have BK:=Aside0.mk hbk;have HG:=Aside0.mk hg1;have HO:=Aside0.mk ho1;have HB:=Aside0.mk hb;clear hbk hg1 ho1 hb)|(go_at_call 97;refine (planDrop_calls w _ b _ _ wd ((top.map (goalOf l)).map (upG wd)) _ Am cm ms Al cl l HM.out HCM.out HC.out HCL.out (by have:=HLL.out;omega) BK.out GE.out HB.out HG.out HO.out (by simp only [List.length_append,List.length_map,List.length_nil,List.length_reverse];have:=HTL.out;have:=HML.out;have h1_:=raiseG_len wd (top.map (goalOf l));have h2_:=moveG_len ((top.map (goalOf l)).map (upG wd));have h3_:=lowerG_len ((top.map (goalOf l)).map (upG wd)).reverse;simp only [List.length_map,List.length_reverse] at h1_ h2_ h3_;omega)).mono ?_;rintro e w34 ⟨rfl,ns,vo1,hgo,hbk,ho1,hb⟩;clear BK HG HB HO;have BK:=Aside0.mk hbk;have HO:=Aside0.mk ho1;have HB:=Aside0.mk hb;have GO:=Aside0.mk hgo;clear hbk ho1 hb hgo;have cb2:=zz_ BK 2))
      go_ret2
      refine ⟨_,_,0,rfl, ?_,HO.out,HB.out⟩;have HW2:=HWD.out;unfold PlanIs;rw [if_pos HCE.out,HTP2.out,HW2];exact ⟨rfl,ns,GO.out,by rw [List.nil_append]⟩
    | cons y post =>
      have hn:top.length=pre.length+(post.length+1):=by rw [htop,List.length_append,List.length_cons]
      have c1:decide ((pre.length:Int)<(top.length:Int))=true:=decide_eq_true (by omega);have p6:(0:Int)≤((pre.length:Nat):Int):=by omega
      have q6:((pre.length:Nat):Int)<(top.length:Int):=by omega
      obtain ⟨ad0,e6,k0,k1_,k2,k3,k4⟩:=at_T39 (Kd.R_reads' HT.out).2.2 ((pre.length:Nat):Int) p6 q6;subst e6
      have em:rd_T39 top ((pre.length:Nat):Int)=y:=by
        rw [rd_want,Int.toNat_natCast,htop,List.getD_eq_getElem?_getD,List.getElem?_append_right (Nat.le_refl _),Nat.sub_self]
        rfl
      rw [em] at k0 k1_ k2 k3 k4;simp only [Int.toNat_natCast] at k0 k1_ k2 k3 k4;have HTP:=Aside0.mk htop;have HKQ:=Aside0.mk hkq;have HN:=Aside0.mk hn;clear htop hkq hn em;replace p6:=eq_true p6;replace q6:=eq_true q6
      go_upto_if 35 with (first|((with_reducible refine gate_dst (N:=11) rfl ?_);refine bx_ (N:=11) (cs:=#[.string ⟨#[]⟩, .string ⟨#[]⟩, .int .i64 0, .int .i64 0, .int .i64 0]) (t:=39) ?_;intro gb11 hg w11 hbox hb;have NE11_BK:=am_ (show _≠gb11 from by have:=blk_lt BK.out;rw [hg];exact Nat.ne_of_lt this);have OL11_HG:=am_ (show some gb11≠(Value.slice Au (pre.map (goalOf l)).length cu).ownBlock from fun e=>by have q:=Kd.R_lt HG.out gb11 e.symm;rw [hg] at q;exact Nat.lt_irrefl _ q);have OL11_HT:=am_ (show some gb11≠(Value.slice (some ad0) top.length ct).ownBlock from fun e=>by have q:=Kd.R_lt HT.out gb11 e.symm;rw [hg] at q;exact Nat.lt_irrefl _ q);have GE11:=am_ (show w.heap.size≤gb11 from by rw [hg];exact below_size HB.out);replace HG:=am_ (Kd.R_below HG.out hb);replace HT:=am_ (Kd.R_below HT.out hb);replace BK:=am_ (blk_below BK.out hb);replace HB:=am_ (below_step HB.out hb);have B11:=Aside0.mk hbox;clear hbox hb hg)|((with_reducible refine gate_store (t:=39) (p:=11) (v:= .tmp 27) rfl ?_);refine store_all B11.out 39 (.tmp 11) (.tmp 27) rfl rfl rfl (.agg #[.string y.f0, .string y.f1, .int .i64 y.f2.f0, .int .i64 y.f2.f1, .int .i64 y.f2.f2]) [.string y.f0, .string y.f1, .int .i64 y.f2.f0, .int .i64 y.f2.f1, .int .i64 y.f2.f2] rfl rfl rfl (by kernel_rfl) rfl (by intro q hq;simp only [List.mem_cons,List.not_mem_nil,or_false] at hq;rcases hq with rfl|rfl|rfl|rfl|rfl<;>rfl) ?_;intro w112 hbk hg;replace HG:=am_ (R_elder HG.out hg OL11_HG.out);replace HT:=am_ (R_elder HT.out hg OL11_HT.out);replace BK:=am_ (blk_put_other BK.out hg NE11_BK.out);replace HB:=am_ (below_put HB.out (below_size HB.out) hg GE11.out);replace B11:=am_ (hbk);clear hbk hg k0 k1_ k2 k3 k4;have d0:=zz_ B11 0;have d1:=zz_ B11 1;have d2:=zz_ B11 2;have d3:=zz_ B11 3;have d4:=zz_ B11 4)|((with_reducible refine gate_dst (N:=12) rfl ?_);refine bx_ (N:=12) (cs:=#[.string ⟨#[]⟩, .string ⟨#[]⟩, .int .i64 0, .int .i64 0, .int .i64 0, .string ⟨#[]⟩, .string ⟨#[]⟩, .int .i64 0, .int .i64 0, .int .i64 0, .int .i64 0, .int .i64 0, .int .i64 0, .int .i64 0, .int .i64 0, .int .i64 0, .int .i64 0, .bool false, .int .i64 0, .int .i64 0, .int .i64 0]) (t:=141) ?_;intro gb12 hg w12 hbox hb;have NE12_BK:=am_ (show _≠gb12 from by have:=blk_lt BK.out;rw [hg];exact Nat.ne_of_lt this);have NE12_B11:=am_ (show _≠gb12 from by have:=blk_lt B11.out;rw [hg];exact Nat.ne_of_lt this);have OL12_HG:=am_ (show some gb12≠(Value.slice Au (pre.map (goalOf l)).length cu).ownBlock from fun e=>by have q:=Kd.R_lt HG.out gb12 e.symm;rw [hg] at q;exact Nat.lt_irrefl _ q);have OL12_HT:=am_ (show some gb12≠(Value.slice (some ad0) top.length ct).ownBlock from fun e=>by have q:=Kd.R_lt HT.out gb12 e.symm;rw [hg] at q;exact Nat.lt_irrefl _ q);have GE12:=am_ (show w.heap.size≤gb12 from by rw [hg];exact below_size HB.out);replace HG:=am_ (Kd.R_below HG.out hb);replace HT:=am_ (Kd.R_below HT.out hb);replace BK:=am_ (blk_below BK.out hb);replace B11:=am_ (blk_below B11.out hb);replace HB:=am_ (below_step HB.out hb);have B12:=Aside0.mk hbox;clear d0 d1 d2 d3 d4;clear hbox hb hg)|((with_reducible refine gate_store (t:=141) (p:=12) (v:= .tmp 29) rfl ?_);refine store_all B12.out 141 (.tmp 12) (.tmp 29) rfl rfl rfl (.agg (goalCells (gzero y)).toArray) (goalCells (gzero y)) rfl rfl rfl goalCells_info rfl (goalCells_one _) ?_;intro w122 hbk hg;replace HG:=am_ (R_elder HG.out hg OL12_HG.out);replace HT:=am_ (R_elder HT.out hg OL12_HT.out);replace BK:=am_ (blk_put_other BK.out hg NE12_BK.out);replace B11:=am_ (blk_put_other B11.out hg NE12_B11.out);replace HB:=am_ (below_put HB.out (below_size HB.out) hg GE12.out);replace B12:=am_ (hbk);clear hbk hg;have d0:=zz_ B11 0)|(go_at_call 91;refine (tree_Find.calls Al cl l y.f0 (fnd l y.f0) _ (Kd.C_below HC.out HB.out) HCL.out rfl).mono ?_;rintro e w13 ⟨rfl,hb⟩;replace HG:=am_ (Kd.R_below HG.out hb);replace HT:=am_ (Kd.R_below HT.out hb);replace BK:=am_ (blk_below BK.out hb);replace B11:=am_ (blk_below B11.out hb);replace B12:=am_ (blk_below B12.out hb);replace HB:=am_ (below_step HB.out hb);clear hb d0))
      go_cut [] (fun wc=>Aside0 (wc.heap[b]?=some (Obj.cells #[.slice Au (pre.map (goalOf l)).length cu, .bool wd, .slice none 0 0] 139 (0,0)))∧Aside0 (wc.heap[gb11]?=some (Obj.cells #[.string y.f0, .string y.f1, .int .i64 y.f2.f0, .int .i64 y.f2.f1, .int .i64 y.f2.f2] 39 (0,0)))∧Aside0 (wc.heap[gb12]?=some (Obj.cells (goalCells (goalOf l y)).toArray 141 (0,0)))∧Aside0 (Kd.R k141 141 wc w.heap.size (fun _=>True) (.slice Au (pre.map (goalOf l)).length cu) (pre.map (goalOf l)))∧Aside0 (Kd.R k39 39 wc w.heap.size (fun _=>True) (.slice (some ad0) top.length ct) top)∧Aside0 (Below w.heap.size w wc))
      case first=>
        cases hlk:look l y.f0 with
        | none =>
          have HGE:Aside0 (goalOf l y=gzero y):=⟨by unfold goalOf;rw [hlk]⟩;have c2:decide (0≤fnd l y.f0)=false:=decide_eq_false (Int.not_le.2 (fnd_neg.2 hlk));clear hlk;rw [c2];go_wp2_with fail
          go_meet
          case rel=>exact ⟨BK,B11,⟨by rw [HGE.out];exact B12.out⟩,HG,HT,HB⟩
        | some x =>
          have HGE:Aside0 (goalOf l y=⟨y,x,true,⟨0,0,0⟩⟩):=⟨by unfold goalOf;rw [hlk]⟩;have p8:0≤fnd l y.f0:=fnd_ge.2 ⟨x,hlk⟩;have q8:=fnd_lt l y.f0;obtain ⟨ad,ea,hLI⟩:=at_item (Kd.C_below HC.out HB.out) p8 q8 (fnd_rd hlk);have LI:=Aside0.mk hLI;have c2:decide (0≤fnd l y.f0)=true:=decide_eq_true p8;clear hlk hLI;subst ea;rw [c2];clear c2;replace p8:=eq_true p8;replace q8:=eq_true q8
          go_wp2_with (first|((with_reducible refine gate_dst (N:=39) rfl ?_);refine load_ad (itemRow x) rfl (.tmp 38) rfl (ad:=ad.add ((fnd l y.f0).toNat*12)) rfl _ hu79 rfl itemRow_info LI.out ?_)|((with_reducible refine gate_store (t:=79) (p:=40) (v:= .tmp 39) rfl ?_);refine store_part B12.out 79 (.tmp 40) (.tmp 39) rfl rfl rfl 5 (.agg (itemRow x).toArray) (itemRow x) (goalCells ⟨y,x,false,⟨0,0,0⟩⟩) rfl rfl rfl (by kernel_rfl) (show (17:Nat)≤21 from by decide) ?one rfl ?_;(case one=>first|exact itemRow_one x|(intro q hq;simp only [List.mem_cons,List.not_mem_nil,or_false] at hq;rcases hq with rfl;rfl));intro w40 hbk hg;replace HG:=am_ (R_elder HG.out hg OL12_HG.out);replace HT:=am_ (R_elder HT.out hg OL12_HT.out);replace BK:=am_ (blk_put_other BK.out hg NE12_BK.out);replace B11:=am_ (blk_put_other B11.out hg NE12_B11.out);replace HB:=am_ (below_put HB.out (below_size HB.out) hg GE12.out);replace B12:=am_ (hbk);clear hbk hg)|((with_reducible refine gate_store (t:=4) (p:=41) (v:= .const (.bool true)) rfl ?_);refine store_part B12.out 4 (.tmp 41) (.const (.bool true)) rfl rfl rfl 17 (.bool true) ([.bool true]) (goalCells ⟨y,x,true,⟨0,0,0⟩⟩) rfl rfl rfl (by kernel_rfl) (show (18:Nat)≤21 from by decide) ?one rfl ?_;(case one=>first|exact itemRow_one x|(intro q hq;simp only [List.mem_cons,List.not_mem_nil,or_false] at hq;rcases hq with rfl;rfl));intro w41 hbk hg;replace HG:=am_ (R_elder HG.out hg OL12_HG.out);replace HT:=am_ (R_elder HT.out hg OL12_HT.out);replace BK:=am_ (blk_put_other BK.out hg NE12_BK.out);replace B11:=am_ (blk_put_other B11.out hg NE12_B11.out);replace HB:=am_ (below_put HB.out (below_size HB.out) hg GE12.out);replace B12:=am_ (hbk);clear hbk hg))
          go_meet
          case rel=>exact ⟨BK,B11,⟨by rw [HGE.out];exact B12.out⟩,HG,HT,HB⟩
      case rest=>
        clear BK B11 B12 HG HT HB;obtain ⟨BK,B11,B12,HG,HT,HB⟩:=hcut
        rename_i hK0
        refine hK0 _ _ ?_;refine wp_seq_k ?_;intro K1 hK1;go_cut [] (fun wc=>Aside0 (badW l ms y=false)∧Aside0 (wc.heap[b]?=some (Obj.cells #[.slice Au (pre.map (goalOf l)).length cu, .bool wd, .slice none 0 0] 139 (0,0)))∧Aside0 (wc.heap[gb12]?=some (Obj.cells (goalCells (goalOf l y)).toArray 141 (0,0)))∧Aside0 (Kd.R k141 141 wc w.heap.size (fun _=>True) (.slice Au (pre.map (goalOf l)).length cu) (pre.map (goalOf l)))∧Aside0 (Kd.R k39 39 wc w.heap.size (fun _=>True) (.slice (some ad0) top.length ct) top)∧Aside0 (Below w.heap.size w wc))
        case first=>
          cases hlk:look l y.f0 with
          | none =>
            have HBD:Aside0 (badW l ms y=false):=⟨by unfold badW;rw [hlk];rfl⟩;have c17:wc.cell? ⟨gb12,17,none⟩=some (.bool false):=(blk_cell B12.out 17).trans (by unfold goalOf;rw [hlk];rfl);clear hlk;go_wp2_with fail
            go_meet
            case rel=>exact ⟨HBD,BK,B12,HG,HT,HB⟩
          | some x =>
            have c17:wc.cell? ⟨gb12,17,none⟩=some (.bool true):=(blk_cell B12.out 17).trans (by unfold goalOf;rw [hlk];rfl)
            cases hmk:ms.any (fun m=>m.f0.toList==y.f0.toList) with
            | false =>
              have HBD:Aside0 (badW l ms y=true):=⟨by unfold badW;rw [hlk,hmk];rfl⟩;clear hlk;go_wp2_with (first|(go_at_call 92;refine (hasMark_calls 93 #[.pointer (some ⟨gb11,0,none⟩)] (fun m=>m.f0.toList==y.f0.toList) (enters_of Try.func93 (by kernel_rfl) rfl) _ (fun W' m hb=>stepsHas_calls W' gb11 y m (blk_below B11.out hb)) Am cm ms (Kd.C_below HM.out HB.out) HCM.out).mono ?_;rintro e w47 ⟨rfl,hb⟩;try rw [hmk];replace HG:=am_ (Kd.R_below HG.out hb);replace HT:=am_ (Kd.R_below HT.out hb);replace BK:=am_ (blk_below BK.out hb);replace B11:=am_ (blk_below B11.out hb);replace B12:=am_ (blk_below B12.out hb);replace HB:=am_ (below_step HB.out hb);clear hb))
              go_ret2
              refine ⟨_,[],3,rfl, ?_,Kd.R_nil _ _ _ _ _,HB.out⟩;unfold PlanIs;rw [if_pos HCE.out,HTP2.out,HWD.out];unfold wideP;rw [if_pos HBD.out];exact ⟨rfl,rfl⟩
            | true =>
              have HBD:Aside0 (badW l ms y=false):=⟨by unfold badW;rw [hmk,Bool.not_true,Bool.and_false]⟩;clear hlk;go_wp2_with (first|(go_at_call 92;refine (hasMark_calls 93 #[.pointer (some ⟨gb11,0,none⟩)] (fun m=>m.f0.toList==y.f0.toList) (enters_of Try.func93 (by kernel_rfl) rfl) _ (fun W' m hb=>stepsHas_calls W' gb11 y m (blk_below B11.out hb)) Am cm ms (Kd.C_below HM.out HB.out) HCM.out).mono ?_;rintro e w47 ⟨rfl,hb⟩;try rw [hmk];replace HG:=am_ (Kd.R_below HG.out hb);replace HT:=am_ (Kd.R_below HT.out hb);replace BK:=am_ (blk_below BK.out hb);replace B11:=am_ (blk_below B11.out hb);replace B12:=am_ (blk_below B12.out hb);replace HB:=am_ (below_step HB.out hb);clear hb))
              go_meet
              case rel=>exact ⟨HBD,BK,B12,HG,HT,HB⟩
        case rest=>
          clear BK B11 B12 HG HT HB;obtain ⟨HBD,BK,B12,HG,HT,HB⟩:=hcut;refine hK1 _ _ ?_;refine wp_seq_k ?_;intro K2 hK2;go_cut [] (fun wc=>Aside0 (wc.heap[b]?=some (Obj.cells #[.slice Au (pre.map (goalOf l)).length cu, .bool (wd||wideOf l y), .slice none 0 0] 139 (0,0)))∧Aside0 (wc.heap[gb12]?=some (Obj.cells (goalCells (goalOf l y)).toArray 141 (0,0)))∧Aside0 (Kd.R k141 141 wc w.heap.size (fun _=>True) (.slice Au (pre.map (goalOf l)).length cu) (pre.map (goalOf l)))∧Aside0 (Kd.R k39 39 wc w.heap.size (fun _=>True) (.slice (some ad0) top.length ct) top)∧Aside0 (Below w.heap.size w wc))
          case first=>
            have b1:=zz_ BK 1
            cases wd with
            | true =>
              go_wp2_with (first|((with_reducible refine gate_store (t:=4) (p:=69) (v:= .tmp 67) rfl ?_);refine store_part BK.out 4 (.tmp 69) (.tmp 67) rfl rfl rfl 1 (.bool true) [.bool true] [.slice Au (pre.map (goalOf l)).length cu, .bool true, .slice none 0 0] rfl rfl rfl (by kernel_rfl) (show (2:Nat)≤3 from by decide) (by intro q hq;simp only [List.mem_cons,List.not_mem_nil,or_false] at hq;rcases hq with rfl;rfl) rfl ?_;intro w69 hbk hg;replace HG:=am_ (R_put HG.out BK.out (by decide) hg);replace HT:=am_ (R_put HT.out BK.out (by decide) hg);replace B12:=am_ (blk_put_other B12.out hg (Ne.symm NE12_BK.out));replace HB:=am_ (below_put HB.out (below_size HB.out) hg GE.out);replace BK:=am_ (hbk);clear hbk hg))
              go_meet
              case rel=>exact ⟨⟨by rw [Bool.true_or];exact BK.out⟩,B12,HG,HT,HB⟩
            | false =>
              cases hlk:look l y.f0 with
              | none =>
                have HWI:Aside0 (wideOf l y=false):=⟨by unfold wideOf;rw [hlk]⟩;have c17:wc.cell? ⟨gb12,17,none⟩=some (.bool false):=(blk_cell B12.out 17).trans (by unfold goalOf;rw [hlk];rfl);clear hlk;go_wp2_with (first|((with_reducible refine gate_store (t:=4) (p:=69) (v:= .tmp 67) rfl ?_);refine store_part BK.out 4 (.tmp 69) (.tmp 67) rfl rfl rfl 1 (.bool false) [.bool false] [.slice Au (pre.map (goalOf l)).length cu, .bool false, .slice none 0 0] rfl rfl rfl (by kernel_rfl) (show (2:Nat)≤3 from by decide) (by intro q hq;simp only [List.mem_cons,List.not_mem_nil,or_false] at hq;rcases hq with rfl;rfl) rfl ?_;intro w69 hbk hg;replace HG:=am_ (R_put HG.out BK.out (by decide) hg);replace HT:=am_ (R_put HT.out BK.out (by decide) hg);replace B12:=am_ (blk_put_other B12.out hg (Ne.symm NE12_BK.out));replace HB:=am_ (below_put HB.out (below_size HB.out) hg GE.out);replace BK:=am_ (hbk);clear hbk hg))
                go_meet
                case rel=>exact ⟨⟨by rw [Bool.false_or,HWI.out];exact BK.out⟩,B12,HG,HT,HB⟩
              | some x =>
                have c17:wc.cell? ⟨gb12,17,none⟩=some (.bool true):=(blk_cell B12.out 17).trans (by unfold goalOf;rw [hlk];rfl);have c6:wc.cell? ⟨gb12,5+1,none⟩=some (.string x.f1):=(blk_cell B12.out 6).trans (by unfold goalOf;rw [hlk];rfl);have c1_:wc.cell? ⟨gb12,1,none⟩=some (.string y.f1):=(blk_cell B12.out 1).trans (by unfold goalOf;rw [hlk];rfl)
                cases hne:(x.f1.toList !=y.f1.toList) with
                | true =>
                  have HWI:Aside0 (wideOf l y=true):=⟨by unfold wideOf;rw [hlk];exact hne⟩;have hp1:(x.f1.toList==y.f1.toList)=false:=by simpa using hne
                  clear hlk;go_wp2_with (first|((with_reducible refine gate_store (t:=4) (p:=69) (v:= .tmp 67) rfl ?_);refine store_part BK.out 4 (.tmp 69) (.tmp 67) rfl rfl rfl 1 (.bool true) [.bool true] [.slice Au (pre.map (goalOf l)).length cu, .bool true, .slice none 0 0] rfl rfl rfl (by kernel_rfl) (show (2:Nat)≤3 from by decide) (by intro q hq;simp only [List.mem_cons,List.not_mem_nil,or_false] at hq;rcases hq with rfl;rfl) rfl ?_;intro w69 hbk hg;replace HG:=am_ (R_put HG.out BK.out (by decide) hg);replace HT:=am_ (R_put HT.out BK.out (by decide) hg);replace B12:=am_ (blk_put_other B12.out hg (Ne.symm NE12_BK.out));replace HB:=am_ (below_put HB.out (below_size HB.out) hg GE.out);replace BK:=am_ (hbk);clear hbk hg))
                  go_meet
                  case rel=>exact ⟨⟨by rw [Bool.false_or,HWI.out];exact BK.out⟩,B12,HG,HT,HB⟩
                | false =>
                  have HWI:Aside0 (wideOf l y=false):=⟨by unfold wideOf;rw [hlk];exact hne⟩;have hp1:(x.f1.toList==y.f1.toList)=true:=by simpa using hne
                  clear hlk;go_wp2_with (first|((with_reducible refine gate_store (t:=4) (p:=69) (v:= .tmp 67) rfl ?_);refine store_part BK.out 4 (.tmp 69) (.tmp 67) rfl rfl rfl 1 (.bool false) [.bool false] [.slice Au (pre.map (goalOf l)).length cu, .bool false, .slice none 0 0] rfl rfl rfl (by kernel_rfl) (show (2:Nat)≤3 from by decide) (by intro q hq;simp only [List.mem_cons,List.not_mem_nil,or_false] at hq;rcases hq with rfl;rfl) rfl ?_;intro w69 hbk hg;replace HG:=am_ (R_put HG.out BK.out (by decide) hg);replace HT:=am_ (R_put HT.out BK.out (by decide) hg);replace B12:=am_ (blk_put_other B12.out hg (Ne.symm NE12_BK.out));replace HB:=am_ (below_put HB.out (below_size HB.out) hg GE.out);replace BK:=am_ (hbk);clear hbk hg))
                  go_meet
                  case rel=>exact ⟨⟨by rw [Bool.false_or,HWI.out];exact BK.out⟩,B12,HG,HT,HB⟩
          case rest=>
            clear BK B12 HG HT HB;obtain ⟨BK,B12,HG,HT,HB⟩:=hcut;have HWD2:Aside0 (wideP l ms false top=wideP l ms (wd||wideOf l y) post):=⟨by rw [HWD.out];show (if badW l ms y=true then none else _)=_;rw [if_neg (by rw [HBD.out];simp)]⟩;generalize (wd||wideOf l y)=wd2 at BK HWD2;obtain ⟨z,hz⟩: ∃z,goalOf l y=z:=⟨_,rfl⟩;have HZ:=Aside0.mk hz;rw [hz] at B12;clear hz;refine hK2 _ _ ?_;have cb0:=zz_ BK 0;replace HG:=am_ (Kd.R_drew HG.out);replace HT:=am_ (Kd.R_drew HT.out);replace BK:=am_ (blk_drew BK.out);replace B12:=am_ (blk_drew B12.out);replace HB:=am_ (below_drew1 HB.out);refine start_ (n:=11) (S:=fun w'=>w'.cell? ⟨b,0,none⟩=some (.slice Au (pre.map (goalOf l)).length cu)∧w'.heap[gb12]?=some (Obj.cells (goalCells z).toArray 141 (0,0))) (ds:=[10]) (bt_ 11 0) (by kernel_rfl) rfl rfl ⟨(blk_cell BK.out 0).trans rfl,B12.out⟩ (fun hHeld=> ?_);generalize wc.drew=w15 at BK HG HT HB B12 hHeld ⊢;refine pv_ (i:=0) (N:=some 70) (bt_ 11 1) ?_;refine pv_ (i:=1) (N:=some 71) (bt_ 11 3) ?_;refine pv_ (i:=2) (N:=some 72) (bt_ 11 7) ?_;refine pv_ (i:=3) (N:=some 73) (bt_ 11 15) ?_;refine tv_ (i:=4) (N:=some 74) (bt_ 11 31) hHeld ?_
            refine take_ (i:=5) (N:=some 75) (v:= .agg (goalCells z).toArray) (a':= ?_) (bt_ 11 63) rfl rfl (by kernel_rfl) (fun _ _ _ h=>h) (Or.inl ⟨by rfl, ?_⟩) hHeld ?_ ?_;(rintro w' ⟨s0,s1⟩;exact load_exec (goalCells z) (.tmp 12) rfl (g:=gb12) (off:=0) rfl _ hu141 rfl goalCells_info (fun j v hv=>by rw [Nat.zero_add];exact (blk_cell s1 j).trans (by rw [List.getElem?_toArray];exact hv)));rotate_left;(simp only [Act.put,List.setIfInBounds_toArray,List.set_cons_zero,List.set_cons_succ,i64_w,i32_w];rfl);refine one_ (i:=6) (N:=some 76) (bt_ 11 127) rfl rfl (by kernel_rfl) (by decide) (fun K hK=> ?_);refine event_step (by rfl) (v:= .slice (some ⟨w15.heap.size,0,none⟩) 1 1) (w1:=w15.alloc (.cells (goalCells z).toArray 141)) ?hr ?_;(case hr=>exact goalLit_exec z rfl rfl w15);refine hK.out _ _ ⟨(World.cell?_alloc_lt _ _ _ (World.block_lt_of_cell? _ _ ((blk_cell BK.out 0).trans rfl))).trans ((blk_cell BK.out 0).trans rfl),blk_alloc B12.out _⟩ (fun hHeld=> ?_);clear hK K;refine norm_ (a':= ?_) ?_ ?_;rotate_left
            · show Act.put _ (some 76) _ = _
              simp only [Act.put,List.setIfInBounds_toArray,List.set_cons_zero,List.set_cons_succ,i64_w,i32_w]
              rfl
            refine one_ (i:=7) (N:=some 77) (bt_ 11 255) rfl rfl (by kernel_rfl) (by decide) (fun K hK=> ?_);refine Kd.R_append_step k141 (w0:=w) w.heap.size (by rfl) (.tmp 74) (.tmp 76) 137 141 (.agg #[.string ⟨#[]⟩, .string ⟨#[]⟩, .int .i64 0, .int .i64 0, .int .i64 0, .string ⟨#[]⟩, .string ⟨#[]⟩, .int .i64 0, .int .i64 0, .int .i64 0, .int .i64 0, .int .i64 0, .int .i64 0, .int .i64 0, .int .i64 0, .int .i64 0, .int .i64 0, .bool false, .int .i64 0, .int .i64 0, .int .i64 0]) 200 rfl Try.underlying137 infoGoal rfl (by decide) (by omega) _ (pre.map (goalOf l)) z (goalCells z) (fun _=>True) (fun _=>False) rfl rfl ?aP (fun _ hk=>hk.elim) (fun _ _=>trivial) (show Kd.R k141 141 w15 w.heap.size (fun _=>True) (.slice Au pre.length cu) (pre.map (goalOf l)) from by have h_:=HG.out;rw [List.length_map] at h_;exact h_) HB.out (below_size HB.out) (by rw [List.length_map];have:=HTL.out;have:=HN.out;omega) ?_;(case aP=>exact k141_mkM _ _ _ z);intro v1 w77 ho hb hg hat;replace hg:w15.grownBy w77 (Value.slice Au pre.length cu).ownBlock:=hg;rw [show pre.length=(pre.map (goalOf l)).length from (List.length_map _).symm] at hg
            have OWN: ∀k,(Value.slice Au (pre.map (goalOf l)).length cu).ownBlock=some k→ ∃cells,w15.heap[k]?=some (Obj.cells cells 141 (0,0)):=fun k hk=>by
              obtain ⟨inner,h⟩:=Kd.R_own HG.out;exact own_typed h k hk
            have n0_:=am_ (blk_row BK.out OWN (by decide) hg);have n1_:=am_ (Kd.R_mono (Kd.R_grown (Kd.R_types2 HT.out OWN (by decide)) hg (fun k hk e=>hk e)) (fun _ _=>trivial));have n2_:=Aside0.mk ho;have n3_:=Aside0.mk hb;have n4_:=am_ (blk_put_other2 B12.out hg (fun e=>OL12_HG.out (by rw [e])));clear BK HT HG HB B12 ho hb hat OWN;have BK:=n0_;have HT:=n1_;have HG:=n2_;have HB:=n3_;have B12:=n4_;clear n0_ n1_ n2_ n3_ n4_;obtain ⟨A1,c1,e1⟩:=Kd.R_slice HG.out;subst e1;refine hK.out _ _ ⟨(blk_cell BK.out 0).trans rfl,B12.out⟩ (fun hHeld=> ?_);clear hK K hg;refine norm_ (a':= ?_) ?_ ?_;rotate_left
            · show Act.put _ (some 77) _ = _
              simp only [Act.put,List.setIfInBounds_toArray,List.set_cons_zero,List.set_cons_succ,i64_w,i32_w]
              rfl
            refine pv_ (i:=8) (N:=some 78) (bt_ 11 511) ?_;refine pv_ (i:=9) (N:=some 79) (bt_ 11 1023) ?_;refine last_ (i:=10) (N:=none) (bt_ 11 2047) rfl rfl (by kernel_rfl) (by decide) (fun K hK=> ?_);refine store_part_step BK.out (by rfl) 137 (.tmp 79) (.tmp 77) rfl rfl 0 (.slice A1 (pre.map (goalOf l)++ [z]).length c1) [.slice A1 (pre.map (goalOf l)++ [z]).length c1] [.slice A1 (pre.map (goalOf l)++ [z]).length c1, .bool wd2, .slice none 0 0] rfl rfl rfl (by kernel_rfl) (show (1:Nat)≤3 from by decide) (by intro q hq;simp only [List.mem_cons,List.not_mem_nil,or_false] at hq;rcases hq with rfl;rfl) rfl ?_;intro w78 hbk hg;have n0_:=am_ (R_put HG.out BK.out (by decide) hg);have n1_:=am_ (below_put HB.out (below_size HB.out) hg GE.out);have n2_:=am_ (R_put HT.out BK.out (by decide) hg);have n3_:=Aside0.mk hbk;clear HG HB HT BK hbk hg B12;have HG:=n0_;have HB:=n1_;have HT:=n2_;have BK:=n3_;clear n0_ n1_ n2_ n3_;refine hK.out _ _ ?_;clear hK K hHeld;refine done_ (by kernel_rfl) ?_;go_wp2_with fail
            go_roundg post.length
            case measure=>have:=HKQ.out;rw [this,List.length_cons];omega
            case rel=>exact ⟨pre++ [y],post,_,wd2,by rw [HTP.out,List.append_assoc];rfl,rfl,by rw [List.length_append,List.length_singleton,nx_nat (n:=top.length) (by have:=HN.out;omega) (by have:=HTL.out;omega)],HWD2,BK,⟨by rw [List.map_append];show Kd.R _ _ _ _ _ _ (_++ [goalOf l y]);rw [HZ.out];exact HG.out⟩,HT,HB⟩
end Go.Proofs.Ytahidkjncljkaaa.Print

namespace Go.Proofs.Ytahidkjncljkaaa.Print
open Go.RowKit Go.Proofs.YtahidkjncljkaaaW.PrintWords Go.Proofs.YtahidkjncljkaaaW.PrintLast Go.Proofs.YtahidkjncljkaaaW.PrintMore
attribute [local go_sem] max2_int min2_int max_two min_two max_three min_three max_four min_four

noncomputable def plan_Steps.f (l0:List (S39)) (l1:List (S84)) (l2:List (S79)):Option (List (S76)×Int):=open Classical in if h:(smallW l0∧l2.length<10000∧l1.length<10000)∧ ∃p:List (S76)×Int,PlanIs l0 (topR l0) l1 l2 p.1 p.2∧ ∀q:List (S76)×Int,PlanIs l0 (topR l0) l1 l2 q.1 q.2→q=p then some h.2.choose else none
theorem plan_Steps.calls (A0:Option Addr) (c0:Nat) (l0:List (S39)) (A1:Option Addr) (c1:Nat) (l1:List (S84)) (A2:Option Addr) (c2:Nat) (l2:List (S79)) (r1:List (S76)) (r2:Int) (w:World) (hr0:Kd.C k39 w A0 l0.length l0) (hc0:l0.length≤c0) (hr1:Kd.C k84 w A1 l1.length l1) (hc1:l1.length≤c1) (hr2:Kd.C k79 w A2 l2.length l2) (hc2:l2.length≤c2) (h:plan_Steps.f l0 l1 l2=some (r1,r2)):
    Calls Try.prog 48 #[.slice A0 l0.length c0, .slice A1 l1.length c1, .slice A2 l2.length c2] w fun e w'=> ∃v0_:Value,e= .returned (.tuple #[v0_, .int .i64 r2])∧Kd.R k76 76 w' w.heap.size (fun _=>True) v0_ r1∧Below w.heap.size w w':=by
  unfold plan_Steps.f at h
  split at h
  rotate_left
  · cases h


  rename_i hh
  have UQ: ∀q:List (S76)×Int,PlanIs l0 (topR l0) l1 l2 q.1 q.2→q=(r1,r2):=by
    have q:=Option.some.inj h;rw [←q];exact hh.2.choose_spec.2
  obtain ⟨⟨hs,hl,hm⟩,_⟩:=hh;refine (planSteps_raw A0 c0 l0 A1 c1 l1 A2 c2 l2 w hr0 hc0 hr1 hc1 hr2 hc2 hs hl hm).mono ?_;rintro e w' ⟨v,r,q,rfl,hp,ho,hb⟩;have e:=UQ (r,q) hp;injection e with e1 e2;subst e1 e2;exact ⟨v,rfl,ho,hb⟩
theorem eqA76 (d:Nat) (w:World) (x0 y0:Int) (x1 y1:ByteArray) (x2 y2:ByteArray) (x3 y3:Int) (x4 y4:Int) (x5 y5:Int):
  (Op.equalIn (d+3) 76 (.agg #[.int .i64 x0, .string x1, .string x2, .int .i64 x3, .int .i64 x4, .int .i64 x5]) (.agg #[.int .i64 y0, .string y1, .string y2, .int .i64 y3, .int .i64 y4, .int .i64 y5])).run Try.prog w= .ok (x0==y0 && (x1.toList==y1.toList && (x2.toList==y2.toList && ((x3==y3 && (x4==y4 && (x5==y5))))))) w:=by
 refine eqA_of Try.underlying76 (by kernel_rfl) ?_;refine eqf_cons (by rfl) (by go_simp;rfl) (by go_simp;rfl) (by go_simp) ?_;refine eqf_cons (by rfl) (by go_simp;rfl) (by go_simp;rfl) (by go_simp) ?_;refine eqf_cons (by rfl) (by go_simp;rfl) (by go_simp;rfl) (by go_simp) ?_;exact eqf_last (by rfl) (by go_simp) (by go_simp) (eqA37 (d+0) w _ _ _ _ _ _)
attribute [local go_sem high] eqA76
def r16_SameSteps.l0:Nat→List (S76)→List (S76)→Int→Option (Bool)
 |0,_,_,_=>none
 |k+1,x0,x1,x5=>if x5<(x0.length:Int) then (if 0≤x5 then (if x5<(x1.length:Int) then (if (!(((rd_T76 x0 x5).f0)==((rd_T76 x1 x5).f0))||(!((((rd_T76 x0 x5).f1).toList)==(((rd_T76 x1 x5).f1).toList))||(!((((rd_T76 x0 x5).f2).toList)==(((rd_T76 x1 x5).f2).toList))||((!(((rd_T76 x0 x5).f3.f0)==((rd_T76 x1 x5).f3.f0))||(!(((rd_T76 x0 x5).f3.f1)==((rd_T76 x1 x5).f3.f1))||(!(((rd_T76 x0 x5).f3.f2)==((rd_T76 x1 x5).f3.f2)))))))))=true then (some false) else (r16_SameSteps.l0 k x0 x1 (wrap64 (x5+1)))) else (none)) else (none)) else (some true)
def r16_SameSteps.f (k:Nat) (l0:List (S76)) (l1:List (S76)):Option (Bool):=if (l0.length:Int)=(l1.length:Int) then (r16_SameSteps.l0 k l0 l1 0) else (some false)
theorem r16_SameSteps.mono_l: ∀k,(∀y0 y1 y2,LeO (r16_SameSteps.l0 k y0 y1 y2) (r16_SameSteps.l0 (k+1) y0 y1 y2))
 |0=>fun _ _ _ r h=>by simp [r16_SameSteps.l0] at h
 |k+1=>by
  have ih0:=r16_SameSteps.mono_l k;intro y0 y1 y2;unfold r16_SameSteps.l0
  repeat' with_reducible first|apply ih0|apply LeO.refl|apply LeO.none|apply LeO.ite|refine LeO.bind ?_ fun _=> ?_
theorem r16_SameSteps.mono: ∀a0 a1 k,LeO (r16_SameSteps.f k a0 a1) (r16_SameSteps.f (k+1) a0 a1):=by
 intro a0 a1 k;have ih0:=r16_SameSteps.mono_l k;unfold r16_SameSteps.f
 repeat' with_reducible first|apply ih0|apply LeO.refl|apply LeO.none|apply LeO.ite|refine LeO.bind ?_ fun _=> ?_
set_option maxHeartbeats 8000000 in
set_option maxRecDepth 100000 in
theorem r16_SameSteps.calls (k:Nat) (A0:Option Addr) (c0:Nat) (l0:List (S76)) (A1:Option Addr) (c1:Nat) (l1:List (S76)) (r:Bool) (w:World) (hr0:Kd.C k76 w A0 l0.length l0) (hc0:l0.length≤c0) (hr1:Kd.C k76 w A1 l1.length l1) (hc1:l1.length≤c1) (h:r16_SameSteps.f k l0 l1=some r):
  Calls Try.prog 49 #[.slice A0 l0.length c0, .slice A1 l1.length c1] w fun e w'=>e= .returned (.bool r)∧Drawn0 w w':=by
 have hu76:=Try.underlying76;have HR0:=Aside0.mk hr0;have HC0:=Aside0.mk hc0;clear hr0 hc0;have HR1:=Aside0.mk hr1;have HC1:=Aside0.mk hc1;clear hr1 hc1;have H:(if (l0.length:Int)=(l1.length:Int) then (r16_SameSteps.l0 k l0 l1 0) else (some false))=some r:=h;clear h;by_cases c3:(l0.length:Int)=(l1.length:Int);rotate_left
 ·rw [if_neg c3] at H;have c3b0:=beq_eq_false_iff_ne.mpr c3;have c3b1:=bne_iff_ne.mpr c3;have c3b2:(l0.length==l1.length)=false:=by first|simpa using c3|(simp at c3 ⊢;omega)
  obtain rfl:=Option.some.inj H;go_enter Try.func49,Try.ntmps49;go_wp2
  repeat (go_quiet (fail);try go_wp2)
  go_ret
  exact ⟨by first|rfl|(simp;done)|(simp [*];done),by repeat (first|exact Drawn0.refl _|apply Drawn0.step)⟩

 rw [if_pos c3] at H;have c3b0:=beq_iff_eq.mpr c3;have c3b1:=bne_eq_false_iff_eq.mpr c3;have c3b2:(l0.length==l1.length)=true:=by first|simpa using c3|(simp at c3 ⊢;omega)
 clear c3;have H':=Aside0.mk H;clear H;go_enter Try.func49,Try.ntmps49;go_wp2
 repeat (go_quiet (fail);try go_wp2)
 go_loopg [5] k (fun kq v5 w'=> ∃(x5_1:Int),v5= .int .i64 x5_1∧Aside0 (r16_SameSteps.l0 kq l0 l1 x5_1=some r)∧Aside0 (kq≤k)∧Drawn0 w w')
 case atStart=>exact ⟨(0),rf_,H',⟨Nat.le_refl _⟩,by repeat (first|exact Drawn0.refl _|apply Drawn0.step)⟩
 case round=>
  clear H';obtain ⟨x5_1,rfl,HA,HK1,⟨m1,rfl⟩⟩:=hrel
  cases gk with
  |zero=>exact absurd HA.out (by simp [r16_SameSteps.l0])
  |succ k1=>
   have H:=HA.out;clear HA;simp only [r16_SameSteps.l0] at H;by_cases c4:x5_1<(l0.length:Int);rotate_left
   ·rw [if_neg c4] at H;have c4b0:=decide_eq_false c4;clear c4;obtain rfl:=Option.some.inj H;go_wp2
    repeat (go_quiet (fail);try go_wp2)
    go_ret
    exact ⟨by first|rfl|(simp;done)|(simp [*];done),by repeat (first|exact Drawn0.refl _|apply Drawn0.step)⟩
   rw [if_pos c4] at H;have c4b0:=decide_eq_true c4;clear c4;replace H:=zif_ H;obtain ⟨c5,H⟩:=H;have c5b0:=decide_eq_true c5;clear c5;replace H:=zif_ H;obtain ⟨c6,H⟩:=H;have c6b0:=decide_eq_true c6;clear c6;by_cases c7:(!(((rd_T76 l0 x5_1).f0)==((rd_T76 l1 x5_1).f0))||(!((((rd_T76 l0 x5_1).f1).toList)==(((rd_T76 l1 x5_1).f1).toList))||(!((((rd_T76 l0 x5_1).f2).toList)==(((rd_T76 l1 x5_1).f2).toList))||((!(((rd_T76 l0 x5_1).f3.f0)==((rd_T76 l1 x5_1).f3.f0))||(!(((rd_T76 l0 x5_1).f3.f1)==((rd_T76 l1 x5_1).f3.f1))||(!(((rd_T76 l0 x5_1).f3.f2)==((rd_T76 l1 x5_1).f3.f2)))))))))=true
   ·rw [if_pos c7] at H;have c7b0:(!(((rd_T76 l0 x5_1).f0)==((rd_T76 l1 x5_1).f0))||(!((((rd_T76 l0 x5_1).f1).toList)==(((rd_T76 l1 x5_1).f1).toList))||(!((((rd_T76 l0 x5_1).f2).toList)==(((rd_T76 l1 x5_1).f2).toList))||((!(((rd_T76 l0 x5_1).f3.f0)==((rd_T76 l1 x5_1).f3.f0))||(!(((rd_T76 l0 x5_1).f3.f1)==((rd_T76 l1 x5_1).f3.f1))||(!(((rd_T76 l0 x5_1).f3.f2)==((rd_T76 l1 x5_1).f3.f2)))))))))=true:=c7;clear c7;obtain rfl:=Option.some.inj H;obtain ⟨p1,q1,ad1,e1,hx1_0,hx1_1,hx1_2,hx1_3,hx1_4,hx1_5⟩:=zat_ (at_T76 HR0.out x5_1);cases e1;obtain ⟨p2,q2,ad2,e2,hx2_0,hx2_1,hx2_2,hx2_3,hx2_4,hx2_5⟩:=zat_ (at_T76 HR1.out x5_1);cases e2;go_wp2
    repeat (go_quiet (fail);try go_wp2)
    go_ret
    exact ⟨by first|rfl|(simp;done)|(simp [*];done),by repeat (first|exact Drawn0.refl _|apply Drawn0.step)⟩
   rw [if_neg c7] at H;have c7b0:(!(((rd_T76 l0 x5_1).f0)==((rd_T76 l1 x5_1).f0))||(!((((rd_T76 l0 x5_1).f1).toList)==(((rd_T76 l1 x5_1).f1).toList))||(!((((rd_T76 l0 x5_1).f2).toList)==(((rd_T76 l1 x5_1).f2).toList))||((!(((rd_T76 l0 x5_1).f3.f0)==((rd_T76 l1 x5_1).f3.f0))||(!(((rd_T76 l0 x5_1).f3.f1)==((rd_T76 l1 x5_1).f3.f1))||(!(((rd_T76 l0 x5_1).f3.f2)==((rd_T76 l1 x5_1).f3.f2)))))))))=false:=by simpa using c7
   clear c7;have H':=Aside0.mk H;clear H;obtain ⟨p1,q1,ad1,e1,hx1_0,hx1_1,hx1_2,hx1_3,hx1_4,hx1_5⟩:=zat_ (at_T76 HR0.out x5_1);cases e1;obtain ⟨p2,q2,ad2,e2,hx2_0,hx2_1,hx2_2,hx2_3,hx2_4,hx2_5⟩:=zat_ (at_T76 HR1.out x5_1);cases e2;go_wp2
   repeat (go_quiet (fail);try go_wp2)
   go_roundg k1
   case measure=>have:=HK1.out;omega
   case rel=>exact ⟨(wrap64 (x5_1+1)),rf_,H',⟨by have:=HK1.out;omega⟩,by repeat (first|exact Drawn0.refl _|apply Drawn0.step)⟩
mutual
def law12_Great.l0:Nat→List (S79)→Int→Option (Bool)
 |0,_,_=>none
 |k+1,x0,x3=>if x3<(x0.length:Int) then (law12_Great.j1 k x0 x3 (decide (x3<150))) else (law12_Great.j1 k x0 x3 false)
def law12_Great.j1:Nat→List (S79)→Int→Bool→Option (Bool)
 |0,_,_,_=>none
 |k+1,x0,x3,x11=>if x11=true then (if 0≤x3 then (if x3<(x0.length:Int) then (if (((rd_T79 x0 x3).f0).size:Int)>100 then (some true) else (if (((rd_T79 x0 x3).f1).size:Int)>100 then (some true) else (law12_Great.l0 k x0 (wrap64 (x3+1))))) else (none)) else (none)) else (some (decide ((x0.length:Int)>130)))
end
def law12_Great.f (k:Nat) (l0:List (S79)):Option (Bool):=law12_Great.l0 k l0 0
theorem law12_Great.mono_l: ∀k,(∀y0 y1,LeO (law12_Great.l0 k y0 y1) (law12_Great.l0 (k+1) y0 y1))∧(∀y0 y1 y2,LeO (law12_Great.j1 k y0 y1 y2) (law12_Great.j1 (k+1) y0 y1 y2))
 |0=>⟨fun _ _ r h=>by simp [law12_Great.l0] at h,fun _ _ _ r h=>by simp [law12_Great.j1] at h⟩
 |k+1=>by
  obtain ⟨ih0,ih1⟩:=law12_Great.mono_l k;refine ⟨?_, ?_⟩<;>(intros;first|unfold law12_Great.l0|unfold law12_Great.j1)<;>repeat' with_reducible first|apply ih0|apply ih1|apply LeO.refl|apply LeO.none|apply LeO.ite|refine LeO.bind ?_ fun _=> ?_
theorem law12_Great.mono: ∀a0 k,LeO (law12_Great.f k a0) (law12_Great.f (k+1) a0):=by
 intro a0 k;obtain ⟨ih0,ih1⟩:=law12_Great.mono_l k;unfold law12_Great.f
 repeat' with_reducible first|apply ih0|apply ih1|apply LeO.refl|apply LeO.none|apply LeO.ite|refine LeO.bind ?_ fun _=> ?_
set_option maxHeartbeats 8000000 in
set_option maxRecDepth 100000 in
theorem law12_Great.calls (k:Nat) (A0:Option Addr) (c0:Nat) (l0:List (S79)) (r:Bool) (w:World) (hr0:Kd.C k79 w A0 l0.length l0) (hc0:l0.length≤c0) (h:law12_Great.f k l0=some r):
  Calls Try.prog 43 #[.slice A0 l0.length c0] w fun e w'=>e= .returned (.bool r)∧Drawn0 w w':=by
 have HR0:=Aside0.mk hr0;have HC0:=Aside0.mk hc0;clear hr0 hc0;have H:(law12_Great.l0 k l0 0)=some r:=h;clear h;have H':=Aside0.mk H;clear H;go_enter Try.func43,Try.ntmps43;go_wp2
 go_loopg [3] k (fun kq v3 w'=> ∃(x3_1:Int),v3= .int .i64 x3_1∧Aside0 (law12_Great.l0 kq l0 x3_1=some r)∧Aside0 (kq≤k)∧Drawn0 w w')
 case atStart=>exact ⟨(0),rf_,H',⟨Nat.le_refl _⟩,by repeat (first|exact Drawn0.refl _|apply Drawn0.step)⟩
 case round=>
  clear H';obtain ⟨x3_1,rfl,HA,HK1,⟨m1,rfl⟩⟩:=hrel
  cases gk with
  |zero=>exact absurd HA.out (by simp [law12_Great.l0])
  |succ k1=>
   have H:=HA.out;clear HA;simp only [law12_Great.l0] at H;have HC2:=Aside0.mk H;clear H;go_upto_region 2 with (fail)
   go_cut [11] (fun v11 wc=> ∃(kq:Nat) (x11_1:Bool),v11= .bool x11_1∧Aside0 (law12_Great.j1 kq l0 x3_1 x11_1=some r)∧Aside0 (kq≤k1)∧Drawn0 w wc)
   case first=>
    have H:=HC2.out;clear HC2;by_cases c3:x3_1<(l0.length:Int)
    ·rw [if_pos c3] at H;have c3b0:=decide_eq_true c3;clear c3;(first|rw [c3b0]|(simp only [i64_w,i32_w];rw [c3b0])|skip);have H':=Aside0.mk H;clear H;go_wp2
     go_meet
     case rel=>exact ⟨_,(decide (x3_1<150)),rf_,H',⟨by have:=HK1.out;first|omega|exact Nat.le_refl _⟩,by repeat (first|exact Drawn0.refl _|apply Drawn0.step)⟩
    rw [if_neg c3] at H;have c3b0:=decide_eq_false c3;clear c3;(first|rw [c3b0]|(simp only [i64_w,i32_w];rw [c3b0])|skip);have H':=Aside0.mk H;clear H;go_wp2
    go_meet
    case rel=>exact ⟨_,(false),rf_,H',⟨by have:=HK1.out;first|omega|exact Nat.le_refl _⟩,by repeat (first|exact Drawn0.refl _|apply Drawn0.step)⟩
   case rest=>
    clear HC2;obtain ⟨kq,x11_1,rfl,HA,HJ1,⟨mc1,rfl⟩⟩:=hcut
    cases kq with
    |zero=>exact absurd HA.out (by simp [law12_Great.j1])
    |succ kj1=>
     have H:=HA.out;clear HA;simp only [law12_Great.j1] at H;by_cases c4:x11_1=true;rotate_left
     ·replace c4:=Bool.eq_false_iff.mpr c4;subst c4;rw [if_neg (show¬(false=true) by decide)] at H;obtain rfl:=Option.some.inj H;go_wp2
      go_ret
      exact ⟨by first|rfl|(simp;done)|(simp [*];done),by repeat (first|exact Drawn0.refl _|apply Drawn0.step)⟩

     subst c4;rw [if_pos rfl] at H;replace H:=zif_ H;obtain ⟨c5,H⟩:=H;have c5b0:=decide_eq_true c5;clear c5;replace H:=zif_ H;obtain ⟨c6,H⟩:=H;have c6b0:=decide_eq_true c6;clear c6;by_cases c7:(((rd_T79 l0 x3_1).f0).size:Int)>100
     ·rw [if_pos c7] at H;have c7b0:decide (100<(((rd_T79 l0 x3_1).f0).size:Int))=true:=decide_eq_true c7;have c7b1:decide (100<((rd_T79 l0 x3_1).f0).size)=true:=decide_eq_true (by omega);clear c7;obtain rfl:=Option.some.inj H;obtain ⟨p1,q1,ad1,e1,hx1_0,hx1_1,hx1_2,hx1_3,hx1_4,hx1_5,hx1_6,hx1_7,hx1_8,hx1_9,hx1_10,hx1_11⟩:=zat_ (at_T79 HR0.out x3_1);cases e1;go_wp2
      go_ret
      exact ⟨by first|rfl|(simp;done)|(simp [*];done),by repeat (first|exact Drawn0.refl _|apply Drawn0.step)⟩
     rw [if_neg c7] at H;have c7b0:decide (100<(((rd_T79 l0 x3_1).f0).size:Int))=false:=decide_eq_false c7;have c7b1:decide (100<((rd_T79 l0 x3_1).f0).size)=false:=decide_eq_false (by omega);clear c7;by_cases c8:(((rd_T79 l0 x3_1).f1).size:Int)>100
     ·rw [if_pos c8] at H;have c8b0:decide (100<(((rd_T79 l0 x3_1).f1).size:Int))=true:=decide_eq_true c8;have c8b1:decide (100<((rd_T79 l0 x3_1).f1).size)=true:=decide_eq_true (by omega);clear c8;obtain rfl:=Option.some.inj H;obtain ⟨p1,q1,ad1,e1,hx1_0,hx1_1,hx1_2,hx1_3,hx1_4,hx1_5,hx1_6,hx1_7,hx1_8,hx1_9,hx1_10,hx1_11⟩:=zat_ (at_T79 HR0.out x3_1);cases e1;obtain ⟨p2,q2,ad2,e2,hx2_0,hx2_1,hx2_2,hx2_3,hx2_4,hx2_5,hx2_6,hx2_7,hx2_8,hx2_9,hx2_10,hx2_11⟩:=zat_ (at_T79 HR0.out x3_1);obtain rfl:ad1=ad2:=(by injection e2);go_wp2
      go_ret
      exact ⟨by first|rfl|(simp;done)|(simp [*];done),by repeat (first|exact Drawn0.refl _|apply Drawn0.step)⟩
     rw [if_neg c8] at H;have c8b0:decide (100<(((rd_T79 l0 x3_1).f1).size:Int))=false:=decide_eq_false c8;have c8b1:decide (100<((rd_T79 l0 x3_1).f1).size)=false:=decide_eq_false (by omega);clear c8;have H':=Aside0.mk H;clear H;obtain ⟨p1,q1,ad1,e1,hx1_0,hx1_1,hx1_2,hx1_3,hx1_4,hx1_5,hx1_6,hx1_7,hx1_8,hx1_9,hx1_10,hx1_11⟩:=zat_ (at_T79 HR0.out x3_1);cases e1;obtain ⟨p2,q2,ad2,e2,hx2_0,hx2_1,hx2_2,hx2_3,hx2_4,hx2_5,hx2_6,hx2_7,hx2_8,hx2_9,hx2_10,hx2_11⟩:=zat_ (at_T79 HR0.out x3_1);obtain rfl:ad1=ad2:=(by injection e2);go_wp2
     go_roundg kj1
     case measure=>have:=HK1.out;have:=HJ1.out;omega
     case rel=>exact ⟨(wrap64 (x3_1+1)),rf_,H',⟨by have:=HK1.out;have:=HJ1.out;omega⟩,by repeat (first|exact Drawn0.refl _|apply Drawn0.step)⟩
mutual
def law16_Great.l0:Nat→Int→List (S84)→List (S76)→Int→Option (Bool)
 |0,_,_,_,_=>none
 |k+1,x3,x2000,x2001,x2002=>if x3<(x2000.length:Int) then (law16_Great.j1 k x3 (decide (x3<300)) x2000 x2001 x2002) else (law16_Great.j1 k x3 false x2000 x2001 x2002)
def law16_Great.j1:Nat→Int→Bool→List (S84)→List (S76)→Int→Option (Bool)
 |0,_,_,_,_,_=>none
 |k+1,x3,x13,x2000,x2001,x2002=>if x13=true then (if 0≤x3 then (if x3<(x2000.length:Int) then (if (((rd_T84 x2000 x3).f0).size:Int)>100 then (some true) else (if (((rd_T84 x2000 x3).f1).size:Int)>100 then (some true) else (law16_Great.l0 k (wrap64 (x3+1)) x2000 x2001 x2002))) else (none)) else (none)) else (law16_Great.l1 k 0 x2000 x2001 x2002)
def law16_Great.l1:Nat→Int→List (S84)→List (S76)→Int→Option (Bool)
 |0,_,_,_,_=>none
 |k+1,x4,x2000,x2001,x2002=>if x4<(x2001.length:Int) then (law16_Great.j3 k x4 (decide (x4<600)) x2000 x2001 x2002) else (law16_Great.j3 k x4 false x2000 x2001 x2002)
def law16_Great.j3:Nat→Int→Bool→List (S84)→List (S76)→Int→Option (Bool)
 |0,_,_,_,_,_=>none
 |k+1,x4,x42,x2000,x2001,x2002=>if x42=true then (if 0≤x4 then (if x4<(x2001.length:Int) then (if (((rd_T76 x2001 x4).f1).size:Int)>100 then (some true) else (if (((rd_T76 x2001 x4).f2).size:Int)>100 then (some true) else (law16_Great.l1 k (wrap64 (x4+1)) x2000 x2001 x2002))) else (none)) else (none)) else (if (x2000.length:Int)>260 then (some true) else (some (decide ((x2001.length:Int)>500))))
end
def law16_Great.f (k:Nat) (l0_0:List (S84)) (l0_1:List (S76)) (a0_2:Int):Option (Bool):=law16_Great.l0 k 0 l0_0 l0_1 a0_2
theorem law16_Great.mono_l: ∀k,(∀y0 y1 y2 y3,LeO (law16_Great.l0 k y0 y1 y2 y3) (law16_Great.l0 (k+1) y0 y1 y2 y3))∧(∀y0 y1 y2 y3 y4,LeO (law16_Great.j1 k y0 y1 y2 y3 y4) (law16_Great.j1 (k+1) y0 y1 y2 y3 y4))∧(∀y0 y1 y2 y3,LeO (law16_Great.l1 k y0 y1 y2 y3) (law16_Great.l1 (k+1) y0 y1 y2 y3))∧(∀y0 y1 y2 y3 y4,LeO (law16_Great.j3 k y0 y1 y2 y3 y4) (law16_Great.j3 (k+1) y0 y1 y2 y3 y4))
 |0=>⟨fun _ _ _ _ r h=>by simp [law16_Great.l0] at h,fun _ _ _ _ _ r h=>by simp [law16_Great.j1] at h,fun _ _ _ _ r h=>by simp [law16_Great.l1] at h,fun _ _ _ _ _ r h=>by simp [law16_Great.j3] at h⟩
 |k+1=>by
  obtain ⟨ih0,ih1,ih2,ih3⟩:=law16_Great.mono_l k;refine ⟨?_, ?_, ?_, ?_⟩<;>(intros;first|unfold law16_Great.l0|unfold law16_Great.j1|unfold law16_Great.l1|unfold law16_Great.j3)<;>repeat' with_reducible first|apply ih0|apply ih1|apply ih2|apply ih3|apply LeO.refl|apply LeO.none|apply LeO.ite|refine LeO.bind ?_ fun _=> ?_
theorem law16_Great.mono: ∀a0 a1 a2 k,LeO (law16_Great.f k a0 a1 a2) (law16_Great.f (k+1) a0 a1 a2):=by
 intro a0 a1 a2 k;obtain ⟨ih0,ih1,ih2,ih3⟩:=law16_Great.mono_l k;unfold law16_Great.f
 repeat' with_reducible first|apply ih0|apply ih1|apply ih2|apply ih3|apply LeO.refl|apply LeO.none|apply LeO.ite|refine LeO.bind ?_ fun _=> ?_
set_option maxHeartbeats 8000000 in
set_option maxRecDepth 100000 in
theorem law16_Great.calls (k:Nat) (A0_0:Option Addr) (c0_0:Nat) (l0_0:List (S84)) (A0_1:Option Addr) (c0_1:Nat) (l0_1:List (S76)) (a0_2:Int) (r:Bool) (w:World) (hr0_0:Kd.C k84 w A0_0 l0_0.length l0_0) (hc0_0:l0_0.length≤c0_0) (hr0_1:Kd.C k76 w A0_1 l0_1.length l0_1) (hc0_1:l0_1.length≤c0_1) (h:law16_Great.f k l0_0 l0_1 a0_2=some r):
  Calls Try.prog 45 #[.agg #[.slice A0_0 l0_0.length c0_0, .slice A0_1 l0_1.length c0_1, .int .i64 a0_2]] w fun e w'=>e= .returned (.bool r)∧Below w.heap.size w w':=by
 have hu63:=Try.underlying63;have HR0_0:=Aside0.mk hr0_0;have HC0_0:=Aside0.mk hc0_0;clear hr0_0 hc0_0;have HR0_1:=Aside0.mk hr0_1;have HC0_1:=Aside0.mk hc0_1;clear hr0_1 hc0_1;have HB:=am_ (Below.refl w.heap.size w);have H:(law16_Great.l0 k 0 l0_0 l0_1 a0_2)=some r:=h;clear h;have H':=Aside0.mk H;clear H;go_enter Try.func45,Try.ntmps45;go_wp2_with (first|((with_reducible refine gate_dst (N:=1) rfl ?_);(try (refine gate_guard (by rfl) ?_;dsimp only));refine bx_ (N:=1) (cs:=#[.slice A0_0 l0_0.length c0_0, .slice A0_1 l0_1.length c0_1, .int .i64 a0_2]) (t:=63) ?_;intro gb1 hg w2 hbox hb;have BK1:=am_ (hbox);have GE1:=am_ ((zg0_ HB hg:w.heap.size≤gb1));replace HB:=am_ (below_step (zl0_ HB) hb);clear hb hbox hg))
 go_loopg [3] k (fun kq v3 w'=> ∃(x3_1:Int),v3= .int .i64 x3_1∧Aside0 (law16_Great.l0 kq x3_1 l0_0 l0_1 a0_2=some r)∧Aside0 (kq≤k)∧Aside0 (w'.heap[gb1]?=some (.cells #[(.slice A0_0 l0_0.length c0_0),(.slice A0_1 l0_1.length c0_1), .int .i64 a0_2] 63 (0,0)))∧Aside0 (Below w.heap.size w w'))
 case atStart=>exact ⟨(0),rf_,H',⟨Nat.le_refl _⟩,am_ (zb_ BK1),⟨zl1_ HB GE1⟩⟩
 case round=>
  clear H';obtain ⟨x3_1,rfl,HA,HK1,BK1,HB⟩:=hrel
  cases gk with
  |zero=>exact absurd HA.out (by simp [law16_Great.l0])
  |succ k1=>
   have H:=HA.out;clear HA;simp only [law16_Great.l0] at H;have HC3:=Aside0.mk H;clear H;go_upto_region 2 with (fail)
   go_cut [13] (fun v13 wc=> ∃(kq:Nat) (x13_2:Bool),v13= .bool x13_2∧Aside0 (law16_Great.j1 kq x3_1 x13_2 l0_0 l0_1 a0_2=some r)∧Aside0 (kq≤k1)∧Aside0 (wc.heap[gb1]?=some (.cells #[(.slice A0_0 l0_0.length c0_0),(.slice A0_1 l0_1.length c0_1), .int .i64 a0_2] 63 (0,0)))∧Aside0 (Below w.heap.size w wc))
   case first=>
    have H:=HC3.out;clear HC3;by_cases c4:x3_1<(l0_0.length:Int)
    ·rw [if_pos c4] at H;have c4b0:=decide_eq_true c4;clear c4;(first|rw [c4b0]|(simp only [i64_w,i32_w];rw [c4b0])|skip);have H':=Aside0.mk H;clear H;obtain ⟨hcz5_0,hcz5_1,hcz5_2,hfz5_0,hfz5_1,hfz5_2⟩:=y3_ BK1;go_wp2
     go_meet
     case rel=>exact ⟨_,(decide (x3_1<300)),rf_,H',⟨by have:=HK1.out;first|omega|exact Nat.le_refl _⟩,am_ (zb_ BK1),⟨zl1_ HB GE1⟩⟩
    rw [if_neg c4] at H;have c4b0:=decide_eq_false c4;clear c4;(first|rw [c4b0]|(simp only [i64_w,i32_w];rw [c4b0])|skip);have H':=Aside0.mk H;clear H;obtain ⟨hcz6_0,hcz6_1,hcz6_2,hfz6_0,hfz6_1,hfz6_2⟩:=y3_ BK1;go_wp2
    go_meet
    case rel=>exact ⟨_,(false),rf_,H',⟨by have:=HK1.out;first|omega|exact Nat.le_refl _⟩,am_ (zb_ BK1),⟨zl1_ HB GE1⟩⟩
   case rest=>
    clear HC3;obtain ⟨kq,x13_2,rfl,HA,HJ2,BK1,HB⟩:=hcut
    cases kq with
    |zero=>exact absurd HA.out (by simp [law16_Great.j1])
    |succ kj2=>
     have H:=HA.out;clear HA;simp only [law16_Great.j1] at H;by_cases c7:x13_2=true
     ·subst c7;rw [if_pos rfl] at H;replace H:=zif_ H;obtain ⟨c8,H⟩:=H;have c8b0:=decide_eq_true c8;clear c8;replace H:=zif_ H;obtain ⟨c9,H⟩:=H;have c9b0:=decide_eq_true c9;clear c9;by_cases c10:(((rd_T84 l0_0 x3_1).f0).size:Int)>100
      ·rw [if_pos c10] at H;have c10b0:decide (100<(((rd_T84 l0_0 x3_1).f0).size:Int))=true:=decide_eq_true c10;have c10b1:decide (100<((rd_T84 l0_0 x3_1).f0).size)=true:=decide_eq_true (by omega);clear c10;obtain rfl:=Option.some.inj H;obtain ⟨hcz11_0,hcz11_1,hcz11_2,hfz11_0,hfz11_1,hfz11_2⟩:=y3_ BK1;obtain ⟨p2,q2,ad2,e2,hx2_0,hx2_1,hx2_2,hx2_3,hx2_4,hx2_5⟩:=zat_ (at_T84 HR0_0.out x3_1);cases e2;replace hx2_0:=zx6_ HB hx2_0 hx2_1 hx2_2 hx2_3 hx2_4 hx2_5;clear hx2_1 hx2_2 hx2_3 hx2_4 hx2_5;obtain ⟨hx2_0,hx2_1,hx2_2,hx2_3,hx2_4,hx2_5⟩:=hx2_0;go_wp2
       go_ret
       exact ⟨by first|rfl|(simp [errW_none,errW_some]<;>rfl)|(simp [*,errW_none,errW_some]<;>rfl),zl1_ HB GE1⟩
      rw [if_neg c10] at H;have c10b0:decide (100<(((rd_T84 l0_0 x3_1).f0).size:Int))=false:=decide_eq_false c10;have c10b1:decide (100<((rd_T84 l0_0 x3_1).f0).size)=false:=decide_eq_false (by omega);clear c10;by_cases c12:(((rd_T84 l0_0 x3_1).f1).size:Int)>100
      ·rw [if_pos c12] at H;have c12b0:decide (100<(((rd_T84 l0_0 x3_1).f1).size:Int))=true:=decide_eq_true c12;have c12b1:decide (100<((rd_T84 l0_0 x3_1).f1).size)=true:=decide_eq_true (by omega);clear c12;obtain rfl:=Option.some.inj H;obtain ⟨hcz13_0,hcz13_1,hcz13_2,hfz13_0,hfz13_1,hfz13_2⟩:=y3_ BK1;obtain ⟨p2,q2,ad2,e2,hx2_0,hx2_1,hx2_2,hx2_3,hx2_4,hx2_5⟩:=zat_ (at_T84 HR0_0.out x3_1);cases e2;replace hx2_0:=zx6_ HB hx2_0 hx2_1 hx2_2 hx2_3 hx2_4 hx2_5;clear hx2_1 hx2_2 hx2_3 hx2_4 hx2_5;obtain ⟨hx2_0,hx2_1,hx2_2,hx2_3,hx2_4,hx2_5⟩:=hx2_0;obtain ⟨p3,q3,ad3,e3,hx3_0,hx3_1,hx3_2,hx3_3,hx3_4,hx3_5⟩:=zat_ (at_T84 HR0_0.out x3_1);obtain rfl:ad2=ad3:=(by injection e3);replace hx3_0:=zx6_ HB hx3_0 hx3_1 hx3_2 hx3_3 hx3_4 hx3_5;clear hx3_1 hx3_2 hx3_3 hx3_4 hx3_5;obtain ⟨hx3_0,hx3_1,hx3_2,hx3_3,hx3_4,hx3_5⟩:=hx3_0;go_wp2
       go_ret
       exact ⟨by first|rfl|(simp [errW_none,errW_some]<;>rfl)|(simp [*,errW_none,errW_some]<;>rfl),zl1_ HB GE1⟩
      rw [if_neg c12] at H;have c12b0:decide (100<(((rd_T84 l0_0 x3_1).f1).size:Int))=false:=decide_eq_false c12;have c12b1:decide (100<((rd_T84 l0_0 x3_1).f1).size)=false:=decide_eq_false (by omega);clear c12;have H':=Aside0.mk H;clear H;obtain ⟨hcz14_0,hcz14_1,hcz14_2,hfz14_0,hfz14_1,hfz14_2⟩:=y3_ BK1;obtain ⟨p2,q2,ad2,e2,hx2_0,hx2_1,hx2_2,hx2_3,hx2_4,hx2_5⟩:=zat_ (at_T84 HR0_0.out x3_1);cases e2;replace hx2_0:=zx6_ HB hx2_0 hx2_1 hx2_2 hx2_3 hx2_4 hx2_5;clear hx2_1 hx2_2 hx2_3 hx2_4 hx2_5;obtain ⟨hx2_0,hx2_1,hx2_2,hx2_3,hx2_4,hx2_5⟩:=hx2_0;obtain ⟨p3,q3,ad3,e3,hx3_0,hx3_1,hx3_2,hx3_3,hx3_4,hx3_5⟩:=zat_ (at_T84 HR0_0.out x3_1);obtain rfl:ad2=ad3:=(by injection e3);replace hx3_0:=zx6_ HB hx3_0 hx3_1 hx3_2 hx3_3 hx3_4 hx3_5;clear hx3_1 hx3_2 hx3_3 hx3_4 hx3_5;obtain ⟨hx3_0,hx3_1,hx3_2,hx3_3,hx3_4,hx3_5⟩:=hx3_0;go_wp2
      go_roundg kj2
      case measure=>have:=HK1.out;have:=HJ2.out;omega
      case rel=>exact ⟨(wrap64 (x3_1+1)),rf_,H',⟨by have:=HK1.out;have:=HJ2.out;omega⟩,am_ (zb_ BK1),⟨zl1_ HB GE1⟩⟩
     replace c7:=Bool.eq_false_iff.mpr c7;subst c7;rw [if_neg (show¬(false=true) by decide)] at H;have H':=Aside0.mk H;clear H;go_wp2
     go_loopg [4] kj2 (fun kq v4 w'=> ∃(x4_3:Int),v4= .int .i64 x4_3∧Aside0 (law16_Great.l1 kq x4_3 l0_0 l0_1 a0_2=some r)∧Aside0 (kq≤kj2)∧Aside0 (w'.heap[gb1]?=some (.cells #[(.slice A0_0 l0_0.length c0_0),(.slice A0_1 l0_1.length c0_1), .int .i64 a0_2] 63 (0,0)))∧Aside0 (Below w.heap.size w w'))
     case atStart=>exact ⟨(0),rf_,H',⟨Nat.le_refl _⟩,am_ (zb_ BK1),⟨zl1_ HB GE1⟩⟩
     case round=>
      clear H';obtain ⟨x4_3,rfl,HA,HK3,BK1,HB⟩:=hrel
      cases gk with
      |zero=>exact absurd HA.out (by simp [law16_Great.l1])
      |succ k3=>
       have H:=HA.out;clear HA;simp only [law16_Great.l1] at H;have HC15:=Aside0.mk H;clear H;go_upto_region 7 with (fail)
       go_cut [42] (fun v42 wc=> ∃(kq:Nat) (x42_14:Bool),v42= .bool x42_14∧Aside0 (law16_Great.j3 kq x4_3 x42_14 l0_0 l0_1 a0_2=some r)∧Aside0 (kq≤k3)∧Aside0 (wc.heap[gb1]?=some (.cells #[(.slice A0_0 l0_0.length c0_0),(.slice A0_1 l0_1.length c0_1), .int .i64 a0_2] 63 (0,0)))∧Aside0 (Below w.heap.size w wc))
       case first=>
        have H:=HC15.out;clear HC15;by_cases c16:x4_3<(l0_1.length:Int)
        ·rw [if_pos c16] at H;have c16b0:=decide_eq_true c16;clear c16;(first|rw [c16b0]|(simp only [i64_w,i32_w];rw [c16b0])|skip);have H':=Aside0.mk H;clear H;obtain ⟨hcz17_0,hcz17_1,hcz17_2,hfz17_0,hfz17_1,hfz17_2⟩:=y3_ BK1;go_wp2
         go_meet
         case rel=>exact ⟨_,(decide (x4_3<600)),rf_,H',⟨by have:=HK1.out;have:=HJ2.out;have:=HK3.out;first|omega|exact Nat.le_refl _⟩,am_ (zb_ BK1),⟨zl1_ HB GE1⟩⟩
        rw [if_neg c16] at H;have c16b0:=decide_eq_false c16;clear c16;(first|rw [c16b0]|(simp only [i64_w,i32_w];rw [c16b0])|skip);have H':=Aside0.mk H;clear H;obtain ⟨hcz18_0,hcz18_1,hcz18_2,hfz18_0,hfz18_1,hfz18_2⟩:=y3_ BK1;go_wp2
        go_meet
        case rel=>exact ⟨_,(false),rf_,H',⟨by have:=HK1.out;have:=HJ2.out;have:=HK3.out;first|omega|exact Nat.le_refl _⟩,am_ (zb_ BK1),⟨zl1_ HB GE1⟩⟩
       case rest=>
        clear HC15;obtain ⟨kq,x42_14,rfl,HA,HJ14,BK1,HB⟩:=hcut
        cases kq with
        |zero=>exact absurd HA.out (by simp [law16_Great.j3])
        |succ kj14=>
         have H:=HA.out;clear HA;simp only [law16_Great.j3] at H;by_cases c19:x42_14=true;rotate_left
         ·replace c19:=Bool.eq_false_iff.mpr c19;subst c19;rw [if_neg (show¬(false=true) by decide)] at H;by_cases c27:(l0_0.length:Int)>260
          ·rw [if_pos c27] at H;have c27b0:decide (260<(l0_0.length:Int))=true:=decide_eq_true c27;have c27b1:decide (260<l0_0.length)=true:=decide_eq_true (by omega);clear c27;obtain rfl:=Option.some.inj H;obtain ⟨hcz28_0,hcz28_1,hcz28_2,hfz28_0,hfz28_1,hfz28_2⟩:=y3_ BK1;go_wp2
           go_ret
           exact ⟨by first|rfl|(simp [errW_none,errW_some]<;>rfl)|(simp [*,errW_none,errW_some]<;>rfl),zl1_ HB GE1⟩
          rw [if_neg c27] at H;have c27b0:decide (260<(l0_0.length:Int))=false:=decide_eq_false c27;have c27b1:decide (260<l0_0.length)=false:=decide_eq_false (by omega);clear c27;obtain rfl:=Option.some.inj H;obtain ⟨hcz29_0,hcz29_1,hcz29_2,hfz29_0,hfz29_1,hfz29_2⟩:=y3_ BK1;go_wp2
          go_ret
          exact ⟨by first|rfl|(simp [errW_none,errW_some]<;>rfl)|(simp [*,errW_none,errW_some]<;>rfl),zl1_ HB GE1⟩

         subst c19;rw [if_pos rfl] at H;replace H:=zif_ H;obtain ⟨c20,H⟩:=H;have c20b0:=decide_eq_true c20;clear c20;replace H:=zif_ H;obtain ⟨c21,H⟩:=H;have c21b0:=decide_eq_true c21;clear c21;by_cases c22:(((rd_T76 l0_1 x4_3).f1).size:Int)>100
         ·rw [if_pos c22] at H;have c22b0:decide (100<(((rd_T76 l0_1 x4_3).f1).size:Int))=true:=decide_eq_true c22;have c22b1:decide (100<((rd_T76 l0_1 x4_3).f1).size)=true:=decide_eq_true (by omega);clear c22;obtain rfl:=Option.some.inj H;obtain ⟨hcz23_0,hcz23_1,hcz23_2,hfz23_0,hfz23_1,hfz23_2⟩:=y3_ BK1;obtain ⟨p4,q4,ad4,e4,hx4_0,hx4_1,hx4_2,hx4_3,hx4_4,hx4_5⟩:=zat_ (at_T76 HR0_1.out x4_3);cases e4;replace hx4_0:=zx6_ HB hx4_0 hx4_1 hx4_2 hx4_3 hx4_4 hx4_5;clear hx4_1 hx4_2 hx4_3 hx4_4 hx4_5;obtain ⟨hx4_0,hx4_1,hx4_2,hx4_3,hx4_4,hx4_5⟩:=hx4_0;go_wp2
          go_ret
          exact ⟨by first|rfl|(simp [errW_none,errW_some]<;>rfl)|(simp [*,errW_none,errW_some]<;>rfl),zl1_ HB GE1⟩
         rw [if_neg c22] at H;have c22b0:decide (100<(((rd_T76 l0_1 x4_3).f1).size:Int))=false:=decide_eq_false c22;have c22b1:decide (100<((rd_T76 l0_1 x4_3).f1).size)=false:=decide_eq_false (by omega);clear c22;by_cases c24:(((rd_T76 l0_1 x4_3).f2).size:Int)>100
         ·rw [if_pos c24] at H;have c24b0:decide (100<(((rd_T76 l0_1 x4_3).f2).size:Int))=true:=decide_eq_true c24;have c24b1:decide (100<((rd_T76 l0_1 x4_3).f2).size)=true:=decide_eq_true (by omega);clear c24;obtain rfl:=Option.some.inj H;obtain ⟨hcz25_0,hcz25_1,hcz25_2,hfz25_0,hfz25_1,hfz25_2⟩:=y3_ BK1;obtain ⟨p4,q4,ad4,e4,hx4_0,hx4_1,hx4_2,hx4_3,hx4_4,hx4_5⟩:=zat_ (at_T76 HR0_1.out x4_3);cases e4;replace hx4_0:=zx6_ HB hx4_0 hx4_1 hx4_2 hx4_3 hx4_4 hx4_5;clear hx4_1 hx4_2 hx4_3 hx4_4 hx4_5;obtain ⟨hx4_0,hx4_1,hx4_2,hx4_3,hx4_4,hx4_5⟩:=hx4_0;obtain ⟨p5,q5,ad5,e5,hx5_0,hx5_1,hx5_2,hx5_3,hx5_4,hx5_5⟩:=zat_ (at_T76 HR0_1.out x4_3);obtain rfl:ad4=ad5:=(by injection e5);replace hx5_0:=zx6_ HB hx5_0 hx5_1 hx5_2 hx5_3 hx5_4 hx5_5;clear hx5_1 hx5_2 hx5_3 hx5_4 hx5_5;obtain ⟨hx5_0,hx5_1,hx5_2,hx5_3,hx5_4,hx5_5⟩:=hx5_0;go_wp2
          go_ret
          exact ⟨by first|rfl|(simp [errW_none,errW_some]<;>rfl)|(simp [*,errW_none,errW_some]<;>rfl),zl1_ HB GE1⟩
         rw [if_neg c24] at H;have c24b0:decide (100<(((rd_T76 l0_1 x4_3).f2).size:Int))=false:=decide_eq_false c24;have c24b1:decide (100<((rd_T76 l0_1 x4_3).f2).size)=false:=decide_eq_false (by omega);clear c24;have H':=Aside0.mk H;clear H;obtain ⟨hcz26_0,hcz26_1,hcz26_2,hfz26_0,hfz26_1,hfz26_2⟩:=y3_ BK1;obtain ⟨p4,q4,ad4,e4,hx4_0,hx4_1,hx4_2,hx4_3,hx4_4,hx4_5⟩:=zat_ (at_T76 HR0_1.out x4_3);cases e4;replace hx4_0:=zx6_ HB hx4_0 hx4_1 hx4_2 hx4_3 hx4_4 hx4_5;clear hx4_1 hx4_2 hx4_3 hx4_4 hx4_5;obtain ⟨hx4_0,hx4_1,hx4_2,hx4_3,hx4_4,hx4_5⟩:=hx4_0;obtain ⟨p5,q5,ad5,e5,hx5_0,hx5_1,hx5_2,hx5_3,hx5_4,hx5_5⟩:=zat_ (at_T76 HR0_1.out x4_3);obtain rfl:ad4=ad5:=(by injection e5);replace hx5_0:=zx6_ HB hx5_0 hx5_1 hx5_2 hx5_3 hx5_4 hx5_5;clear hx5_1 hx5_2 hx5_3 hx5_4 hx5_5;obtain ⟨hx5_0,hx5_1,hx5_2,hx5_3,hx5_4,hx5_5⟩:=hx5_0;go_wp2
         go_roundg kj14
         case measure=>have:=HK1.out;have:=HJ2.out;have:=HK3.out;have:=HJ14.out;omega
         case rel=>exact ⟨(wrap64 (x4_3+1)),rf_,H',⟨by have:=HK1.out;have:=HJ2.out;have:=HK3.out;have:=HJ14.out;omega⟩,am_ (zb_ BK1),⟨zl1_ HB GE1⟩⟩
attribute [local go_sem high] eqA76
noncomputable def law18_awake.f:Option (Bool):=(plan_Steps.f (([(⟨(⟨#[97]⟩:ByteArray),(⟨#[]⟩:ByteArray),(⟨0,0,0⟩:S37)⟩:S39)]:List (S39))) ([]:List (S84)) ([]:List (S79))).bind fun bt4=>((plan_Steps.f ([]:List (S39)) ([]:List (S84)) ([]:List (S79))).bind fun bt8=>((law1_Num.f bt4.2).bind fun t12=>(if t12=0 then (if (bt4.1.length:Int)=1 then (if 0<(bt4.1.length:Int) then (if (((rd_T76 bt4.1 0).f0)==1 && ((((rd_T76 bt4.1 0).f1).toList)==([97]:List UInt8) && ((((rd_T76 bt4.1 0).f2).toList)==([]:List UInt8) && ((((rd_T76 bt4.1 0).f3.f0)==0 && (((rd_T76 bt4.1 0).f3.f1)==0 && (((rd_T76 bt4.1 0).f3.f2)==0)))))))=true then ((law1_Num.f bt8.2).bind fun t14=>(if t14=0 then (some ((bt8.1.length:Int)==0)) else (some false))) else (some false)) else (none)) else (some false)) else (some false))))
set_option maxHeartbeats 8000000 in
set_option maxRecDepth 100000 in
theorem law18_awake.calls (r:Bool) (w:World) (h:law18_awake.f=some r):
  Calls Try.prog 47 #[] w fun e w'=>e= .returned (.bool r)∧Below w.heap.size w w':=by
 have hu39:=Try.underlying39;have hu76:=Try.underlying76;have HB:=am_ (Below.refl w.heap.size w);have H:((plan_Steps.f (([(⟨(⟨#[97]⟩:ByteArray),(⟨#[]⟩:ByteArray),(⟨0,0,0⟩:S37)⟩:S39)]:List (S39))) ([]:List (S84)) ([]:List (S79))).bind fun bt4=>((plan_Steps.f ([]:List (S39)) ([]:List (S84)) ([]:List (S79))).bind fun bt8=>((law1_Num.f bt4.2).bind fun t12=>(if t12=0 then (if (bt4.1.length:Int)=1 then (if 0<(bt4.1.length:Int) then (if (((rd_T76 bt4.1 0).f0)==1 && ((((rd_T76 bt4.1 0).f1).toList)==([97]:List UInt8) && ((((rd_T76 bt4.1 0).f2).toList)==([]:List UInt8) && ((((rd_T76 bt4.1 0).f3.f0)==0 && (((rd_T76 bt4.1 0).f3.f1)==0 && (((rd_T76 bt4.1 0).f3.f2)==0)))))))=true then ((law1_Num.f bt8.2).bind fun t14=>(if t14=0 then (some ((bt8.1.length:Int)==0)) else (some false))) else (some false)) else (none)) else (some false)) else (some false)))))=some r:=h;clear h;obtain ⟨y1,hy1⟩: ∃y_:List (S39),y_=(([(⟨(⟨#[97]⟩:ByteArray),(⟨#[]⟩:ByteArray),(⟨0,0,0⟩:S37)⟩:S39)]:List (S39))):=⟨_,rfl⟩;(first|replace H:=zsb_ hy1 H|rw [←hy1] at H);have Ny1:=Aside0.mk hy1;clear hy1;replace H:=zbd_ H;obtain ⟨⟨t4,t5⟩,A1,H⟩:=H;try dsimp only at H
 replace H:=zbd_ H;obtain ⟨⟨t8,t9⟩,A2,H⟩:=H;try dsimp only at H
 replace H:=zbd_ H;obtain ⟨t12,A3,H⟩:=H;try dsimp only at H
 by_cases c4:t12=0;rotate_left
 ·rw [if_neg c4] at H;have c4b0:=beq_eq_false_iff_ne.mpr c4;have c4b1:=bne_iff_ne.mpr c4;obtain rfl:=Option.some.inj H;go_enter Try.func47,Try.ntmps47
  go_wp2_with (first|((with_reducible refine gate_dst (N:=7) rfl ?_);(try (refine gate_guard (by rfl) ?_;dsimp only));refine Kd.R_lit k39 _ 39 ?hg (N:=7) ?hd (xs:=([(⟨(⟨#[97]⟩:ByteArray),(⟨#[]⟩:ByteArray),(⟨0,0,0⟩:S37)⟩:S39)]:List (S39))) (inner:=[.string (⟨#[97]⟩:ByteArray), .string (⟨#[]⟩:ByteArray), .int .i64 0, .int .i64 0, .int .i64 0]) (ok:=fun _=>True) (okp:=fun _=>True) ?hr ?hp (fun _ hk=>hk) trivial (Below.refl _ _) (Nat.le_refl _) (by simp) ?_;(case hd=>rfl);(case hg=>rfl);(case hr=>first|(go_simp;done)|(go_simp;rfl));(case hp=>exact (Reps.c5 (show Kd.M k39 _ _ _ (⟨(⟨#[97]⟩:ByteArray),(⟨#[]⟩:ByteArray),(⟨0,0,0⟩:S37)⟩:S39) [.string (⟨#[97]⟩:ByteArray), .string (⟨#[]⟩:ByteArray), .int .i64 0, .int .i64 0, .int .i64 0] from (k39_mkM _ _ _ (⟨(⟨#[97]⟩:ByteArray),(⟨#[]⟩:ByteArray),(⟨0,0,0⟩:S37)⟩:S39))) (Reps.none _ _)));intro v2 w35 ho36 hb hg_ hnew_;clear hg_ hnew_;(first|rw [←Ny1.out] at ho36|(simp only [Int.reduceToNat] at ho36;rw [←Ny1.out] at ho36));have HO3:=am_ (Kd.R_lower ho36 (below_size (zl0_ HB)));replace HB:=am_ (below_step (zl0_ HB) hb);clear hb ho36;obtain ⟨Ao37,co37,eo37⟩:=Kd.R_slice HO3.out;subst eo37)|((with_reducible refine gate_callee (f:=48) rfl ?_);refine gl_ (some 8) Try.func48 #[.slice Ao37 y1.length co37, .slice none 0 0, .slice none 0 0] ?_;(refine (plan_Steps.calls _ _ y1 _ _ ([]:List (S84)) _ _ ([]:List (S79)) t4 t5 _ ?side1 ?side2 ?side3 ?side4 ?side5 ?side6 A1.out).mono ?_);(case side1=>exact zc_ (Kd.R_reads' HO3.out).2.2);(case side2=>exact (Kd.R_reads' HO3.out).2.1);(case side3=>exact Kd.C_nil _ _);(case side4=>exact Nat.le_refl _);(case side5=>exact Kd.C_nil _ _);(case side6=>exact Nat.le_refl _);rintro e w38 ⟨v6,rfl,ho0,hb⟩;refine ⟨_,rfl, ?_⟩;replace HO3:=ob_ HO3 hb;have HO7:=am_ (Kd.R_lower ho0 (below_size (zl0_ HB)));replace HB:=am_ (below_step (zl0_ HB) hb);(try clear hb ho0))|((with_reducible refine gate_callee (f:=48) rfl ?_);refine gl_ (some 12) Try.func48 #[.slice none 0 0, .slice none 0 0, .slice none 0 0] ?_;(refine (plan_Steps.calls _ _ ([]:List (S39)) _ _ ([]:List (S84)) _ _ ([]:List (S79)) t8 t9 _ ?side1 ?side2 ?side3 ?side4 ?side5 ?side6 A2.out).mono ?_);(case side1=>exact Kd.C_nil _ _);(case side2=>exact Nat.le_refl _);(case side3=>exact Kd.C_nil _ _);(case side4=>exact Nat.le_refl _);(case side5=>exact Kd.C_nil _ _);(case side6=>exact Nat.le_refl _);rintro e w39 ⟨v10,rfl,ho0,hb⟩;refine ⟨_,rfl, ?_⟩;replace HO3:=ob_ HO3 hb;have HO11:=am_ (Kd.R_lower (Kd.R_new' ho0 (Kd.R_lt (zr_ HO7))) (below_size (zl0_ HB)));replace HO7:=am_ (Kd.R_elder' (zr_ HO7) (Kd.R_base ho0) hb);replace HB:=am_ (below_step (zl0_ HB) hb);(try clear hb ho0))|((with_reducible refine gate_callee (f:=25) rfl ?_);refine gl_ (some 16) Try.func25 #[.int .i64 t5] ?_;(with_reducible refine (law1_Num.calls t5 t12 _ A3.out).mono ?_);rintro e w' ⟨rfl,⟨nd,rfl⟩⟩;refine ⟨_,rfl, ?_⟩))
  go_ret
  exact ⟨by first|rfl|(simp [errW_none,errW_some]<;>rfl)|(simp [*,errW_none,errW_some]<;>rfl),zl0_ HB⟩

 rw [if_pos c4] at H;have c4b0:=beq_iff_eq.mpr c4;have c4b1:=bne_eq_false_iff_eq.mpr c4;clear c4;by_cases c5:(t4.length:Int)=1;rotate_left
 ·rw [if_neg c5] at H;have c5b0:=beq_eq_false_iff_ne.mpr c5;have c5b1:=bne_iff_ne.mpr c5;obtain rfl:=Option.some.inj H;go_enter Try.func47,Try.ntmps47
  go_wp2_with (first|((with_reducible refine gate_dst (N:=7) rfl ?_);(try (refine gate_guard (by rfl) ?_;dsimp only));refine Kd.R_lit k39 _ 39 ?hg (N:=7) ?hd (xs:=([(⟨(⟨#[97]⟩:ByteArray),(⟨#[]⟩:ByteArray),(⟨0,0,0⟩:S37)⟩:S39)]:List (S39))) (inner:=[.string (⟨#[97]⟩:ByteArray), .string (⟨#[]⟩:ByteArray), .int .i64 0, .int .i64 0, .int .i64 0]) (ok:=fun _=>True) (okp:=fun _=>True) ?hr ?hp (fun _ hk=>hk) trivial (Below.refl _ _) (Nat.le_refl _) (by simp) ?_;(case hd=>rfl);(case hg=>rfl);(case hr=>first|(go_simp;done)|(go_simp;rfl));(case hp=>exact (Reps.c5 (show Kd.M k39 _ _ _ (⟨(⟨#[97]⟩:ByteArray),(⟨#[]⟩:ByteArray),(⟨0,0,0⟩:S37)⟩:S39) [.string (⟨#[97]⟩:ByteArray), .string (⟨#[]⟩:ByteArray), .int .i64 0, .int .i64 0, .int .i64 0] from (k39_mkM _ _ _ (⟨(⟨#[97]⟩:ByteArray),(⟨#[]⟩:ByteArray),(⟨0,0,0⟩:S37)⟩:S39))) (Reps.none _ _)));intro v2 w29 ho30 hb hg_ hnew_;clear hg_ hnew_;(first|rw [←Ny1.out] at ho30|(simp only [Int.reduceToNat] at ho30;rw [←Ny1.out] at ho30));have HO3:=am_ (Kd.R_lower ho30 (below_size (zl0_ HB)));replace HB:=am_ (below_step (zl0_ HB) hb);clear hb ho30;obtain ⟨Ao31,co31,eo31⟩:=Kd.R_slice HO3.out;subst eo31)|((with_reducible refine gate_callee (f:=48) rfl ?_);refine gl_ (some 8) Try.func48 #[.slice Ao31 y1.length co31, .slice none 0 0, .slice none 0 0] ?_;(refine (plan_Steps.calls _ _ y1 _ _ ([]:List (S84)) _ _ ([]:List (S79)) t4 t5 _ ?side1 ?side2 ?side3 ?side4 ?side5 ?side6 A1.out).mono ?_);(case side1=>exact zc_ (Kd.R_reads' HO3.out).2.2);(case side2=>exact (Kd.R_reads' HO3.out).2.1);(case side3=>exact Kd.C_nil _ _);(case side4=>exact Nat.le_refl _);(case side5=>exact Kd.C_nil _ _);(case side6=>exact Nat.le_refl _);rintro e w32 ⟨v6,rfl,ho0,hb⟩;refine ⟨_,rfl, ?_⟩;replace HO3:=ob_ HO3 hb;have HO7:=am_ (Kd.R_lower ho0 (below_size (zl0_ HB)));replace HB:=am_ (below_step (zl0_ HB) hb);(try clear hb ho0))|((with_reducible refine gate_callee (f:=48) rfl ?_);refine gl_ (some 12) Try.func48 #[.slice none 0 0, .slice none 0 0, .slice none 0 0] ?_;(refine (plan_Steps.calls _ _ ([]:List (S39)) _ _ ([]:List (S84)) _ _ ([]:List (S79)) t8 t9 _ ?side1 ?side2 ?side3 ?side4 ?side5 ?side6 A2.out).mono ?_);(case side1=>exact Kd.C_nil _ _);(case side2=>exact Nat.le_refl _);(case side3=>exact Kd.C_nil _ _);(case side4=>exact Nat.le_refl _);(case side5=>exact Kd.C_nil _ _);(case side6=>exact Nat.le_refl _);rintro e w33 ⟨v10,rfl,ho0,hb⟩;refine ⟨_,rfl, ?_⟩;replace HO3:=ob_ HO3 hb;have HO11:=am_ (Kd.R_lower (Kd.R_new' ho0 (Kd.R_lt (zr_ HO7))) (below_size (zl0_ HB)));replace HO7:=am_ (Kd.R_elder' (zr_ HO7) (Kd.R_base ho0) hb);replace HB:=am_ (below_step (zl0_ HB) hb);(try clear hb ho0))|((with_reducible refine gate_callee (f:=25) rfl ?_);refine gl_ (some 16) Try.func25 #[.int .i64 t5] ?_;(with_reducible refine (law1_Num.calls t5 t12 _ A3.out).mono ?_);rintro e w' ⟨rfl,⟨nd,rfl⟩⟩;refine ⟨_,rfl, ?_⟩;obtain ⟨Ao34,co34,eo34⟩:=Kd.R_slice HO7.out;subst eo34))
  go_ret
  exact ⟨by first|rfl|(simp [errW_none,errW_some]<;>rfl)|(simp [*,errW_none,errW_some]<;>rfl),zl0_ HB⟩
 rw [if_pos c5] at H;have c5b0:=beq_iff_eq.mpr c5;have c5b1:=bne_eq_false_iff_eq.mpr c5;clear c5;replace H:=zif_ H;obtain ⟨c6,H⟩:=H;have c6b0:=decide_eq_true c6;have c6b1:decide (0<t4.length)=true:=decide_eq_true (by omega);clear c6;by_cases c7:(((rd_T76 t4 0).f0)==1 && ((((rd_T76 t4 0).f1).toList)==([97]:List UInt8) && ((((rd_T76 t4 0).f2).toList)==([]:List UInt8) && ((((rd_T76 t4 0).f3.f0)==0 && (((rd_T76 t4 0).f3.f1)==0 && (((rd_T76 t4 0).f3.f2)==0)))))))=true;rotate_left
 ·rw [if_neg c7] at H;have c7b0:(((rd_T76 t4 0).f0)==1 && ((((rd_T76 t4 0).f1).toList)==([97]:List UInt8) && ((((rd_T76 t4 0).f2).toList)==([]:List UInt8) && ((((rd_T76 t4 0).f3.f0)==0 && (((rd_T76 t4 0).f3.f1)==0 && (((rd_T76 t4 0).f3.f2)==0)))))))=false:=by simpa using c7
  have c7b9:(((rd_T76 t4 0).f0)==1 && ((((rd_T76 t4 0).f1).toList)==([97]:List UInt8) && ((((rd_T76 t4 0).f2).toList).isEmpty && ((((rd_T76 t4 0).f3.f0)==0 && (((rd_T76 t4 0).f3.f1)==0 && (((rd_T76 t4 0).f3.f2)==0)))))))=false:=by
    have e_: ∀l:List UInt8,l.isEmpty=(l==([]:List UInt8)):=fun l=>by cases l<;>rfl
    rw [e_];exact c7b0
  (try (have c7b1:decide (((rd_T76 t4 0).f0)=1 && ((((rd_T76 t4 0).f1).toList)==([97]:List UInt8) && ((((rd_T76 t4 0).f2).toList)==([]:List UInt8) && ((((rd_T76 t4 0).f3.f0)==0 && (((rd_T76 t4 0).f3.f1)==0 && (((rd_T76 t4 0).f3.f2)==0)))))))=false:=by simpa using c7));(try (have c7b2:(((rd_T76 t4 0).f0)==1 && ((((rd_T76 t4 0).f1).toList)==([97]:List UInt8) && ((((rd_T76 t4 0).f2).toList)==([]:List UInt8) && ((((rd_T76 t4 0).f3.f0)==0 && (((rd_T76 t4 0).f3.f1)==0 && (((rd_T76 t4 0).f3.f2)==0)))))))=false:=by simpa using c7));(try (have c7b3: ¬(((rd_T76 t4 0).f0)=1 && ((((rd_T76 t4 0).f1).toList)==([97]:List UInt8) && ((((rd_T76 t4 0).f2).toList)==([]:List UInt8) && ((((rd_T76 t4 0).f3.f0)==0 && (((rd_T76 t4 0).f3.f1)==0 && (((rd_T76 t4 0).f3.f2)==0))))))):=by simpa using c7));clear c7;obtain rfl:=Option.some.inj H;go_enter Try.func47,Try.ntmps47
  go_wp2_with (first|((with_reducible refine gate_dst (N:=7) rfl ?_);(try (refine gate_guard (by rfl) ?_;dsimp only));refine Kd.R_lit k39 _ 39 ?hg (N:=7) ?hd (xs:=([(⟨(⟨#[97]⟩:ByteArray),(⟨#[]⟩:ByteArray),(⟨0,0,0⟩:S37)⟩:S39)]:List (S39))) (inner:=[.string (⟨#[97]⟩:ByteArray), .string (⟨#[]⟩:ByteArray), .int .i64 0, .int .i64 0, .int .i64 0]) (ok:=fun _=>True) (okp:=fun _=>True) ?hr ?hp (fun _ hk=>hk) trivial (Below.refl _ _) (Nat.le_refl _) (by simp) ?_;(case hd=>rfl);(case hg=>rfl);(case hr=>first|(go_simp;done)|(go_simp;rfl));(case hp=>exact (Reps.c5 (show Kd.M k39 _ _ _ (⟨(⟨#[97]⟩:ByteArray),(⟨#[]⟩:ByteArray),(⟨0,0,0⟩:S37)⟩:S39) [.string (⟨#[97]⟩:ByteArray), .string (⟨#[]⟩:ByteArray), .int .i64 0, .int .i64 0, .int .i64 0] from (k39_mkM _ _ _ (⟨(⟨#[97]⟩:ByteArray),(⟨#[]⟩:ByteArray),(⟨0,0,0⟩:S37)⟩:S39))) (Reps.none _ _)));intro v2 w23 ho24 hb hg_ hnew_;clear hg_ hnew_;(first|rw [←Ny1.out] at ho24|(simp only [Int.reduceToNat] at ho24;rw [←Ny1.out] at ho24));have HO3:=am_ (Kd.R_lower ho24 (below_size (zl0_ HB)));replace HB:=am_ (below_step (zl0_ HB) hb);clear hb ho24;obtain ⟨Ao25,co25,eo25⟩:=Kd.R_slice HO3.out;subst eo25)|((with_reducible refine gate_callee (f:=48) rfl ?_);refine gl_ (some 8) Try.func48 #[.slice Ao25 y1.length co25, .slice none 0 0, .slice none 0 0] ?_;(refine (plan_Steps.calls _ _ y1 _ _ ([]:List (S84)) _ _ ([]:List (S79)) t4 t5 _ ?side1 ?side2 ?side3 ?side4 ?side5 ?side6 A1.out).mono ?_);(case side1=>exact zc_ (Kd.R_reads' HO3.out).2.2);(case side2=>exact (Kd.R_reads' HO3.out).2.1);(case side3=>exact Kd.C_nil _ _);(case side4=>exact Nat.le_refl _);(case side5=>exact Kd.C_nil _ _);(case side6=>exact Nat.le_refl _);rintro e w26 ⟨v6,rfl,ho0,hb⟩;refine ⟨_,rfl, ?_⟩;replace HO3:=ob_ HO3 hb;have HO7:=am_ (Kd.R_lower ho0 (below_size (zl0_ HB)));replace HB:=am_ (below_step (zl0_ HB) hb);(try clear hb ho0))|((with_reducible refine gate_callee (f:=48) rfl ?_);refine gl_ (some 12) Try.func48 #[.slice none 0 0, .slice none 0 0, .slice none 0 0] ?_;(refine (plan_Steps.calls _ _ ([]:List (S39)) _ _ ([]:List (S84)) _ _ ([]:List (S79)) t8 t9 _ ?side1 ?side2 ?side3 ?side4 ?side5 ?side6 A2.out).mono ?_);(case side1=>exact Kd.C_nil _ _);(case side2=>exact Nat.le_refl _);(case side3=>exact Kd.C_nil _ _);(case side4=>exact Nat.le_refl _);(case side5=>exact Kd.C_nil _ _);(case side6=>exact Nat.le_refl _);rintro e w27 ⟨v10,rfl,ho0,hb⟩;refine ⟨_,rfl, ?_⟩;replace HO3:=ob_ HO3 hb;have HO11:=am_ (Kd.R_lower (Kd.R_new' ho0 (Kd.R_lt (zr_ HO7))) (below_size (zl0_ HB)));replace HO7:=am_ (Kd.R_elder' (zr_ HO7) (Kd.R_base ho0) hb);replace HB:=am_ (below_step (zl0_ HB) hb);(try clear hb ho0))|((with_reducible refine gate_callee (f:=25) rfl ?_);refine gl_ (some 16) Try.func25 #[.int .i64 t5] ?_;(with_reducible refine (law1_Num.calls t5 t12 _ A3.out).mono ?_);rintro e w' ⟨rfl,⟨nd,rfl⟩⟩;refine ⟨_,rfl, ?_⟩;obtain ⟨Ao28,co28,eo28⟩:=Kd.R_slice HO7.out;subst eo28;have p13:0≤(0:Int):=(by omega);have q13:0<(t4.length:Int):=of_decide_eq_true zq_;obtain ⟨ad13,e13,hx13_0,hx13_1,hx13_2,hx13_3,hx13_4,hx13_5⟩:=at_T76 (Kd.R_reads' HO7.out).2.2 0 p13 q13;cases e13;have qi13:(0<t4.length)=True:=eq_true (by omega);(try rw [show ((0:Int)).toNat=0 from rfl] at hx13_0);(try rw [show 0*6=0 from rfl] at hx13_0);(try rw [Addr.add_zero'] at hx13_0);(try rw [show ((0:Int)).toNat=0 from rfl] at hx13_1);(try rw [show 0*6=0 from rfl] at hx13_1);(try rw [Addr.add_zero'] at hx13_1);(try rw [show ((0:Int)).toNat=0 from rfl] at hx13_2);(try rw [show 0*6=0 from rfl] at hx13_2);(try rw [Addr.add_zero'] at hx13_2);(try rw [show ((0:Int)).toNat=0 from rfl] at hx13_3);(try rw [show 0*6=0 from rfl] at hx13_3);(try rw [Addr.add_zero'] at hx13_3);(try rw [show ((0:Int)).toNat=0 from rfl] at hx13_4);(try rw [show 0*6=0 from rfl] at hx13_4);(try rw [Addr.add_zero'] at hx13_4);(try rw [show ((0:Int)).toNat=0 from rfl] at hx13_5);(try rw [show 0*6=0 from rfl] at hx13_5);(try rw [Addr.add_zero'] at hx13_5);replace p13:=eq_true p13;replace q13:=eq_true q13))
  go_ret
  exact ⟨by first|rfl|(simp [errW_none,errW_some]<;>rfl)|(simp [*,errW_none,errW_some]<;>rfl),zl0_ HB⟩
 rw [if_pos c7] at H;have c7b0:(((rd_T76 t4 0).f0)==1 && ((((rd_T76 t4 0).f1).toList)==([97]:List UInt8) && ((((rd_T76 t4 0).f2).toList)==([]:List UInt8) && ((((rd_T76 t4 0).f3.f0)==0 && (((rd_T76 t4 0).f3.f1)==0 && (((rd_T76 t4 0).f3.f2)==0)))))))=true:=c7
 have c7b9:(((rd_T76 t4 0).f0)==1 && ((((rd_T76 t4 0).f1).toList)==([97]:List UInt8) && ((((rd_T76 t4 0).f2).toList).isEmpty && ((((rd_T76 t4 0).f3.f0)==0 && (((rd_T76 t4 0).f3.f1)==0 && (((rd_T76 t4 0).f3.f2)==0)))))))=true:=by
   have e_: ∀l:List UInt8,l.isEmpty=(l==([]:List UInt8)):=fun l=>by cases l<;>rfl
   rw [e_];exact c7b0
 (try (have c7b1:decide (((rd_T76 t4 0).f0)=1 && ((((rd_T76 t4 0).f1).toList)==([97]:List UInt8) && ((((rd_T76 t4 0).f2).toList)==([]:List UInt8) && ((((rd_T76 t4 0).f3.f0)==0 && (((rd_T76 t4 0).f3.f1)==0 && (((rd_T76 t4 0).f3.f2)==0)))))))=true:=by simpa using c7));(try (have c7b2:(((rd_T76 t4 0).f0)==1 && ((((rd_T76 t4 0).f1).toList)==([97]:List UInt8) && ((((rd_T76 t4 0).f2).toList)==([]:List UInt8) && ((((rd_T76 t4 0).f3.f0)==0 && (((rd_T76 t4 0).f3.f1)==0 && (((rd_T76 t4 0).f3.f2)==0)))))))=true:=by simpa using c7));clear c7;replace H:=zbd_ H;obtain ⟨t14,A8,H⟩:=H;try dsimp only at H
 by_cases c9:t14=0
 ·rw [if_pos c9] at H;have c9b0:=beq_iff_eq.mpr c9;have c9b1:=bne_eq_false_iff_eq.mpr c9;clear c9;obtain rfl:=Option.some.inj H;go_enter Try.func47,Try.ntmps47
  go_wp2_with (first|((with_reducible refine gate_dst (N:=7) rfl ?_);(try (refine gate_guard (by rfl) ?_;dsimp only));refine Kd.R_lit k39 _ 39 ?hg (N:=7) ?hd (xs:=([(⟨(⟨#[97]⟩:ByteArray),(⟨#[]⟩:ByteArray),(⟨0,0,0⟩:S37)⟩:S39)]:List (S39))) (inner:=[.string (⟨#[97]⟩:ByteArray), .string (⟨#[]⟩:ByteArray), .int .i64 0, .int .i64 0, .int .i64 0]) (ok:=fun _=>True) (okp:=fun _=>True) ?hr ?hp (fun _ hk=>hk) trivial (Below.refl _ _) (Nat.le_refl _) (by simp) ?_;(case hd=>rfl);(case hg=>rfl);(case hr=>first|(go_simp;done)|(go_simp;rfl));(case hp=>exact (Reps.c5 (show Kd.M k39 _ _ _ (⟨(⟨#[97]⟩:ByteArray),(⟨#[]⟩:ByteArray),(⟨0,0,0⟩:S37)⟩:S39) [.string (⟨#[97]⟩:ByteArray), .string (⟨#[]⟩:ByteArray), .int .i64 0, .int .i64 0, .int .i64 0] from (k39_mkM _ _ _ (⟨(⟨#[97]⟩:ByteArray),(⟨#[]⟩:ByteArray),(⟨0,0,0⟩:S37)⟩:S39))) (Reps.none _ _)));intro v2 w10 ho11 hb hg_ hnew_;clear hg_ hnew_;(first|rw [←Ny1.out] at ho11|(simp only [Int.reduceToNat] at ho11;rw [←Ny1.out] at ho11));have HO3:=am_ (Kd.R_lower ho11 (below_size (zl0_ HB)));replace HB:=am_ (below_step (zl0_ HB) hb);clear hb ho11;obtain ⟨Ao12,co12,eo12⟩:=Kd.R_slice HO3.out;subst eo12)|((with_reducible refine gate_callee (f:=48) rfl ?_);refine gl_ (some 8) Try.func48 #[.slice Ao12 y1.length co12, .slice none 0 0, .slice none 0 0] ?_;(refine (plan_Steps.calls _ _ y1 _ _ ([]:List (S84)) _ _ ([]:List (S79)) t4 t5 _ ?side1 ?side2 ?side3 ?side4 ?side5 ?side6 A1.out).mono ?_);(case side1=>exact zc_ (Kd.R_reads' HO3.out).2.2);(case side2=>exact (Kd.R_reads' HO3.out).2.1);(case side3=>exact Kd.C_nil _ _);(case side4=>exact Nat.le_refl _);(case side5=>exact Kd.C_nil _ _);(case side6=>exact Nat.le_refl _);rintro e w13 ⟨v6,rfl,ho0,hb⟩;refine ⟨_,rfl, ?_⟩;replace HO3:=ob_ HO3 hb;have HO7:=am_ (Kd.R_lower ho0 (below_size (zl0_ HB)));replace HB:=am_ (below_step (zl0_ HB) hb);(try clear hb ho0))|((with_reducible refine gate_callee (f:=48) rfl ?_);refine gl_ (some 12) Try.func48 #[.slice none 0 0, .slice none 0 0, .slice none 0 0] ?_;(refine (plan_Steps.calls _ _ ([]:List (S39)) _ _ ([]:List (S84)) _ _ ([]:List (S79)) t8 t9 _ ?side1 ?side2 ?side3 ?side4 ?side5 ?side6 A2.out).mono ?_);(case side1=>exact Kd.C_nil _ _);(case side2=>exact Nat.le_refl _);(case side3=>exact Kd.C_nil _ _);(case side4=>exact Nat.le_refl _);(case side5=>exact Kd.C_nil _ _);(case side6=>exact Nat.le_refl _);rintro e w14 ⟨v10,rfl,ho0,hb⟩;refine ⟨_,rfl, ?_⟩;replace HO3:=ob_ HO3 hb;have HO11:=am_ (Kd.R_lower (Kd.R_new' ho0 (Kd.R_lt (zr_ HO7))) (below_size (zl0_ HB)));replace HO7:=am_ (Kd.R_elder' (zr_ HO7) (Kd.R_base ho0) hb);replace HB:=am_ (below_step (zl0_ HB) hb);(try clear hb ho0))|((with_reducible refine gate_callee (f:=25) rfl ?_);refine gl_ (some 16) Try.func25 #[.int .i64 t5] ?_;(with_reducible refine (law1_Num.calls t5 t12 _ A3.out).mono ?_);rintro e w' ⟨rfl,⟨nd,rfl⟩⟩;refine ⟨_,rfl, ?_⟩;obtain ⟨Ao15,co15,eo15⟩:=Kd.R_slice HO7.out;subst eo15;have p13:0≤(0:Int):=(by omega);have q13:0<(t4.length:Int):=of_decide_eq_true zq_;obtain ⟨ad13,e13,hx13_0,hx13_1,hx13_2,hx13_3,hx13_4,hx13_5⟩:=at_T76 (Kd.R_reads' HO7.out).2.2 0 p13 q13;cases e13;have qi13:(0<t4.length)=True:=eq_true (by omega);(try rw [show ((0:Int)).toNat=0 from rfl] at hx13_0);(try rw [show 0*6=0 from rfl] at hx13_0);(try rw [Addr.add_zero'] at hx13_0);(try rw [show ((0:Int)).toNat=0 from rfl] at hx13_1);(try rw [show 0*6=0 from rfl] at hx13_1);(try rw [Addr.add_zero'] at hx13_1);(try rw [show ((0:Int)).toNat=0 from rfl] at hx13_2);(try rw [show 0*6=0 from rfl] at hx13_2);(try rw [Addr.add_zero'] at hx13_2);(try rw [show ((0:Int)).toNat=0 from rfl] at hx13_3);(try rw [show 0*6=0 from rfl] at hx13_3);(try rw [Addr.add_zero'] at hx13_3);(try rw [show ((0:Int)).toNat=0 from rfl] at hx13_4);(try rw [show 0*6=0 from rfl] at hx13_4);(try rw [Addr.add_zero'] at hx13_4);(try rw [show ((0:Int)).toNat=0 from rfl] at hx13_5);(try rw [show 0*6=0 from rfl] at hx13_5);(try rw [Addr.add_zero'] at hx13_5);replace p13:=eq_true p13;replace q13:=eq_true q13)|(go_at_call 25;(with_reducible refine (law1_Num.calls t9 t14 _ A8.out).mono ?_);rintro e w' ⟨rfl,⟨nd,rfl⟩⟩;obtain ⟨Ao16,co16,eo16⟩:=Kd.R_slice HO11.out;subst eo16))
  go_ret
  exact ⟨by first|rfl|(simp [errW_none,errW_some]<;>rfl)|(simp [*,errW_none,errW_some]<;>rfl),zl0_ HB⟩
 rw [if_neg c9] at H;have c9b0:=beq_eq_false_iff_ne.mpr c9;have c9b1:=bne_iff_ne.mpr c9;obtain rfl:=Option.some.inj H;go_enter Try.func47,Try.ntmps47
 go_wp2_with (first|((with_reducible refine gate_dst (N:=7) rfl ?_);(try (refine gate_guard (by rfl) ?_;dsimp only));refine Kd.R_lit k39 _ 39 ?hg (N:=7) ?hd (xs:=([(⟨(⟨#[97]⟩:ByteArray),(⟨#[]⟩:ByteArray),(⟨0,0,0⟩:S37)⟩:S39)]:List (S39))) (inner:=[.string (⟨#[97]⟩:ByteArray), .string (⟨#[]⟩:ByteArray), .int .i64 0, .int .i64 0, .int .i64 0]) (ok:=fun _=>True) (okp:=fun _=>True) ?hr ?hp (fun _ hk=>hk) trivial (Below.refl _ _) (Nat.le_refl _) (by simp) ?_;(case hd=>rfl);(case hg=>rfl);(case hr=>first|(go_simp;done)|(go_simp;rfl));(case hp=>exact (Reps.c5 (show Kd.M k39 _ _ _ (⟨(⟨#[97]⟩:ByteArray),(⟨#[]⟩:ByteArray),(⟨0,0,0⟩:S37)⟩:S39) [.string (⟨#[97]⟩:ByteArray), .string (⟨#[]⟩:ByteArray), .int .i64 0, .int .i64 0, .int .i64 0] from (k39_mkM _ _ _ (⟨(⟨#[97]⟩:ByteArray),(⟨#[]⟩:ByteArray),(⟨0,0,0⟩:S37)⟩:S39))) (Reps.none _ _)));intro v2 w17 ho18 hb hg_ hnew_;clear hg_ hnew_;(first|rw [←Ny1.out] at ho18|(simp only [Int.reduceToNat] at ho18;rw [←Ny1.out] at ho18));have HO3:=am_ (Kd.R_lower ho18 (below_size (zl0_ HB)));replace HB:=am_ (below_step (zl0_ HB) hb);clear hb ho18;obtain ⟨Ao19,co19,eo19⟩:=Kd.R_slice HO3.out;subst eo19)|((with_reducible refine gate_callee (f:=48) rfl ?_);refine gl_ (some 8) Try.func48 #[.slice Ao19 y1.length co19, .slice none 0 0, .slice none 0 0] ?_;(refine (plan_Steps.calls _ _ y1 _ _ ([]:List (S84)) _ _ ([]:List (S79)) t4 t5 _ ?side1 ?side2 ?side3 ?side4 ?side5 ?side6 A1.out).mono ?_);(case side1=>exact zc_ (Kd.R_reads' HO3.out).2.2);(case side2=>exact (Kd.R_reads' HO3.out).2.1);(case side3=>exact Kd.C_nil _ _);(case side4=>exact Nat.le_refl _);(case side5=>exact Kd.C_nil _ _);(case side6=>exact Nat.le_refl _);rintro e w20 ⟨v6,rfl,ho0,hb⟩;refine ⟨_,rfl, ?_⟩;replace HO3:=ob_ HO3 hb;have HO7:=am_ (Kd.R_lower ho0 (below_size (zl0_ HB)));replace HB:=am_ (below_step (zl0_ HB) hb);(try clear hb ho0))|((with_reducible refine gate_callee (f:=48) rfl ?_);refine gl_ (some 12) Try.func48 #[.slice none 0 0, .slice none 0 0, .slice none 0 0] ?_;(refine (plan_Steps.calls _ _ ([]:List (S39)) _ _ ([]:List (S84)) _ _ ([]:List (S79)) t8 t9 _ ?side1 ?side2 ?side3 ?side4 ?side5 ?side6 A2.out).mono ?_);(case side1=>exact Kd.C_nil _ _);(case side2=>exact Nat.le_refl _);(case side3=>exact Kd.C_nil _ _);(case side4=>exact Nat.le_refl _);(case side5=>exact Kd.C_nil _ _);(case side6=>exact Nat.le_refl _);rintro e w21 ⟨v10,rfl,ho0,hb⟩;refine ⟨_,rfl, ?_⟩;replace HO3:=ob_ HO3 hb;have HO11:=am_ (Kd.R_lower (Kd.R_new' ho0 (Kd.R_lt (zr_ HO7))) (below_size (zl0_ HB)));replace HO7:=am_ (Kd.R_elder' (zr_ HO7) (Kd.R_base ho0) hb);replace HB:=am_ (below_step (zl0_ HB) hb);(try clear hb ho0))|((with_reducible refine gate_callee (f:=25) rfl ?_);refine gl_ (some 16) Try.func25 #[.int .i64 t5] ?_;(with_reducible refine (law1_Num.calls t5 t12 _ A3.out).mono ?_);rintro e w' ⟨rfl,⟨nd,rfl⟩⟩;refine ⟨_,rfl, ?_⟩;obtain ⟨Ao22,co22,eo22⟩:=Kd.R_slice HO7.out;subst eo22;have p13:0≤(0:Int):=(by omega);have q13:0<(t4.length:Int):=of_decide_eq_true zq_;obtain ⟨ad13,e13,hx13_0,hx13_1,hx13_2,hx13_3,hx13_4,hx13_5⟩:=at_T76 (Kd.R_reads' HO7.out).2.2 0 p13 q13;cases e13;have qi13:(0<t4.length)=True:=eq_true (by omega);(try rw [show ((0:Int)).toNat=0 from rfl] at hx13_0);(try rw [show 0*6=0 from rfl] at hx13_0);(try rw [Addr.add_zero'] at hx13_0);(try rw [show ((0:Int)).toNat=0 from rfl] at hx13_1);(try rw [show 0*6=0 from rfl] at hx13_1);(try rw [Addr.add_zero'] at hx13_1);(try rw [show ((0:Int)).toNat=0 from rfl] at hx13_2);(try rw [show 0*6=0 from rfl] at hx13_2);(try rw [Addr.add_zero'] at hx13_2);(try rw [show ((0:Int)).toNat=0 from rfl] at hx13_3);(try rw [show 0*6=0 from rfl] at hx13_3);(try rw [Addr.add_zero'] at hx13_3);(try rw [show ((0:Int)).toNat=0 from rfl] at hx13_4);(try rw [show 0*6=0 from rfl] at hx13_4);(try rw [Addr.add_zero'] at hx13_4);(try rw [show ((0:Int)).toNat=0 from rfl] at hx13_5);(try rw [show 0*6=0 from rfl] at hx13_5);(try rw [Addr.add_zero'] at hx13_5);replace p13:=eq_true p13;replace q13:=eq_true q13)|(go_at_call 25;(with_reducible refine (law1_Num.calls t9 t14 _ A8.out).mono ?_);rintro e w' ⟨rfl,⟨nd,rfl⟩⟩))
 go_ret
 exact ⟨by first|rfl|(simp [errW_none,errW_some]<;>rfl)|(simp [*,errW_none,errW_some]<;>rfl),zl0_ HB⟩
noncomputable def law18_PlanAll.j0:Nat→List (S39)→List (S84)→List (S79)→Bool→Option (Bool)
 |0,_,_,_,_=>none
 |k+1,x0,x1,x2,x30=>if x30=true then ((law18_awake.f).bind fun t6=>(some t6)) else ((plan_Steps.f x0 x1 x2).bind fun bt7=>((r16_Steps.f k x0 x1 x2).bind fun bt11=>((r16_SameSteps.f k bt7.1 bt11.1).bind fun t16=>(if t16=true then ((law1_Num.f bt7.2).bind fun t17=>(if t17=bt11.2 then ((law18_awake.f).bind fun t18=>(some t18)) else (none))) else (none)))))
noncomputable def law18_PlanAll.f (k:Nat) (l0:List (S39)) (l1:List (S84)) (l2:List (S79)):Option (Bool):=(law11_Great.f k l0).bind fun t1=>(if t1=true then (law18_PlanAll.j0 k l0 l1 l2 true) else ((law12_Great.f k l2).bind fun t2=>(if t2=true then (law18_PlanAll.j0 k l0 l1 l2 true) else ((r10_Right.f k l2).bind fun t3=>(if t3=true then ((law16_Great.f k l1 ([]:List (S76)) 0).bind fun t4=>(if t4=true then (law18_PlanAll.j0 k l0 l1 l2 true) else ((r16_MayMarks.f k l1).bind fun t5=>(law18_PlanAll.j0 k l0 l1 l2 (!t5))))) else (law18_PlanAll.j0 k l0 l1 l2 true))))))
theorem law18_PlanAll.mono_l: ∀k,(∀y0 y1 y2 y3,LeO (law18_PlanAll.j0 k y0 y1 y2 y3) (law18_PlanAll.j0 (k+1) y0 y1 y2 y3))
 |0=>fun _ _ _ _ r h=>by simp [law18_PlanAll.j0] at h
 |k+1=>by
  have ih0:=law18_PlanAll.mono_l k;intro y0 y1 y2 y3;unfold law18_PlanAll.j0
  repeat' with_reducible first|apply ih0|apply law11_Great.mono|apply law12_Great.mono|apply law16_Great.mono|apply r10_Right.mono|apply r16_MayMarks.mono|apply r16_SameSteps.mono|apply r16_Steps.mono|apply LeO.refl|apply LeO.none|apply LeO.ite|refine LeO.bind ?_ fun _=> ?_
theorem law18_PlanAll.mono: ∀a0 a1 a2 k,LeO (law18_PlanAll.f k a0 a1 a2) (law18_PlanAll.f (k+1) a0 a1 a2):=by
 intro a0 a1 a2 k;have ih0:=law18_PlanAll.mono_l k;unfold law18_PlanAll.f
 repeat' with_reducible first|apply ih0|apply law11_Great.mono|apply law12_Great.mono|apply law16_Great.mono|apply r10_Right.mono|apply r16_MayMarks.mono|apply r16_SameSteps.mono|apply r16_Steps.mono|apply LeO.refl|apply LeO.none|apply LeO.ite|refine LeO.bind ?_ fun _=> ?_
noncomputable def law18_PlanAll.T5:Bool×List (List Nat×List Nat):=(true,[([],[]),([],[]),([1],[1]),([0,2],[0,2]),([3,3],[3]),([4],[4]),([5,4,4],[4,5]),([4],[4]),([7,4],[4,7]),([6,8,4],[4,6,8]),([4,9],[4,9]),([10,6],[10]),([11,11],[11]),([11,12],[11,12]),([13,12,0,1,2,3,4,5,6,7,8,9,10,11,12,13],[13])])
noncomputable def law18_PlanAll.B5:List Nat:=[0,0,2,7,15,31,63,31,159,511,1023,2047,4095,8191,16383]
theorem law18_PlanAll.tab5:rtab .any (opsOf Try.f9 5)=law18_PlanAll.T5:=by kernel_rfl
theorem law18_PlanAll.bits5:waitsOk law18_PlanAll.T5.2 law18_PlanAll.B5=true:=by kernel_rfl
set_option maxHeartbeats 80000000 in
set_option maxRecDepth 100000 in
theorem law18_PlanAll.calls (k:Nat) (A0:Option Addr) (c0:Nat) (l0:List (S39)) (A1:Option Addr) (c1:Nat) (l1:List (S84)) (A2:Option Addr) (c2:Nat) (l2:List (S79)) (r:Bool) (w:World) (hr0:Kd.C k39 w A0 l0.length l0) (hc0:l0.length≤c0) (hr1:Kd.C k84 w A1 l1.length l1) (hc1:l1.length≤c1) (hr2:Kd.C k79 w A2 l2.length l2) (hc2:l2.length≤c2) (h:law18_PlanAll.f k l0 l1 l2=some r):
  Calls Try.prog 9 #[.slice A0 l0.length c0, .slice A1 l1.length c1, .slice A2 l2.length c2] w fun e w'=>e= .returned (.bool r)∧Below w.heap.size w w':=by
 have hu63:=Try.underlying63;have hu51:=Try.underlying51;have HR0:=Aside0.mk hr0;have HC0:=Aside0.mk hc0;clear hr0 hc0;have HR1:=Aside0.mk hr1;have HC1:=Aside0.mk hc1;clear hr1 hc1;have HR2:=Aside0.mk hr2;have HC2:=Aside0.mk hc2;clear hr2 hc2;have HB:=am_ (Below.refl w.heap.size w);have H:((law11_Great.f k l0).bind fun t1=>(if t1=true then (law18_PlanAll.j0 k l0 l1 l2 true) else ((law12_Great.f k l2).bind fun t2=>(if t2=true then (law18_PlanAll.j0 k l0 l1 l2 true) else ((r10_Right.f k l2).bind fun t3=>(if t3=true then ((law16_Great.f k l1 ([]:List (S76)) 0).bind fun t4=>(if t4=true then (law18_PlanAll.j0 k l0 l1 l2 true) else ((r16_MayMarks.f k l1).bind fun t5=>(law18_PlanAll.j0 k l0 l1 l2 (!t5))))) else (law18_PlanAll.j0 k l0 l1 l2 true)))))))=some r:=h;clear h;have HC4:=Aside0.mk H;clear H;go_enter Try.func9,Try.ntmps9;go_upto_region 1 with (fail)
 go_cut [30] (fun v30 wc=> ∃(kq:Nat) (x30_3:Bool),v30= .bool x30_3∧Aside0 (law18_PlanAll.j0 kq l0 l1 l2 x30_3=some r)∧Aside0 (kq≤k)∧Aside0 (Below w.heap.size w wc))
 case first=>
  have H:=HC4.out;clear HC4;replace H:=zbd_ H;obtain ⟨t1,A5,H⟩:=H;try dsimp only at H
  by_cases c6:t1=true
  ·subst c6;rw [if_pos rfl] at H;have H':=Aside0.mk H;clear H;go_wp2_with (first|((with_reducible refine gate_callee (f:=22) rfl ?_);refine gl_ (some 11) Try.func22 #[.slice A0 l0.length c0] ?_;(with_reducible refine (law11_Great.calls k _ _ l0 true _ ?side1 ?side2 A5.out).mono ?_);(case side1=>exact zc_ (Kd.C_below HR0.out HB.out));(case side2=>exact HC0.out);rintro e w' ⟨rfl,⟨nd,rfl⟩⟩;refine ⟨_,rfl, ?_⟩))
   go_meet
   case rel=>exact ⟨_,(true),rf_,H',⟨by first|omega|exact Nat.le_refl _⟩,⟨zl0_ HB⟩⟩
  replace c6:=Bool.eq_false_iff.mpr c6;subst c6;rw [if_neg (show¬(false=true) by decide)] at H;replace H:=zbd_ H;obtain ⟨t2,A7,H⟩:=H;try dsimp only at H
  by_cases c8:t2=true
  ·subst c8;rw [if_pos rfl] at H;have H':=Aside0.mk H;clear H;go_wp2_with (first|((with_reducible refine gate_callee (f:=22) rfl ?_);refine gl_ (some 11) Try.func22 #[.slice A0 l0.length c0] ?_;(with_reducible refine (law11_Great.calls k _ _ l0 false _ ?side1 ?side2 A5.out).mono ?_);(case side1=>exact zc_ (Kd.C_below HR0.out HB.out));(case side2=>exact HC0.out);rintro e w' ⟨rfl,⟨nd,rfl⟩⟩;refine ⟨_,rfl, ?_⟩)|(go_at_call 43;(with_reducible refine (law12_Great.calls k _ _ l2 true _ ?side1 ?side2 A7.out).mono ?_);(case side1=>repeat (first|exact (Kd.C_below HR2.out (zl0_ HB))|(with_reducible refine Kd.C_alloc ?_ _)|(with_reducible refine Kd.C_drewN ?_ _)|(with_reducible refine Kd.C_drew ?_)));(case side2=>exact HC2.out);rintro e w' ⟨rfl,⟨nd,rfl⟩⟩))
   go_meet
   case rel=>exact ⟨_,(true),rf_,H',⟨by first|omega|exact Nat.le_refl _⟩,⟨zl0_ HB⟩⟩
  replace c8:=Bool.eq_false_iff.mpr c8;subst c8;rw [if_neg (show¬(false=true) by decide)] at H;replace H:=zbd_ H;obtain ⟨t3,A9,H⟩:=H;try dsimp only at H
  by_cases c10:t3=true;rotate_left
  ·replace c10:=Bool.eq_false_iff.mpr c10;subst c10;rw [if_neg (show¬(false=true) by decide)] at H;have H':=Aside0.mk H;clear H;go_wp2_with (first|((with_reducible refine gate_callee (f:=22) rfl ?_);refine gl_ (some 11) Try.func22 #[.slice A0 l0.length c0] ?_;(with_reducible refine (law11_Great.calls k _ _ l0 false _ ?side1 ?side2 A5.out).mono ?_);(case side1=>exact zc_ (Kd.C_below HR0.out HB.out));(case side2=>exact HC0.out);rintro e w' ⟨rfl,⟨nd,rfl⟩⟩;refine ⟨_,rfl, ?_⟩)|(go_at_call 43;(with_reducible refine (law12_Great.calls k _ _ l2 false _ ?side1 ?side2 A7.out).mono ?_);(case side1=>repeat (first|exact (Kd.C_below HR2.out (zl0_ HB))|(with_reducible refine Kd.C_alloc ?_ _)|(with_reducible refine Kd.C_drewN ?_ _)|(with_reducible refine Kd.C_drew ?_)));(case side2=>exact HC2.out);rintro e w' ⟨rfl,⟨nd,rfl⟩⟩)|(go_at_call 44;(with_reducible refine (r10_Right.calls k _ _ l2 false _ ?side1 ?side2 A9.out).mono ?_);(case side1=>repeat (first|exact (Kd.C_below HR2.out (zl0_ HB))|(with_reducible refine Kd.C_alloc ?_ _)|(with_reducible refine Kd.C_drewN ?_ _)|(with_reducible refine Kd.C_drew ?_)));(case side2=>exact HC2.out);rintro e w19 ⟨rfl,hb⟩;replace HB:=am_ (below_step (zl0_ HB) hb);(try clear hb)))
   go_meet
   case rel=>exact ⟨_,(true),rf_,H',⟨by first|omega|exact Nat.le_refl _⟩,⟨zl0_ HB⟩⟩
  subst c10;rw [if_pos rfl] at H;replace H:=zbd_ H;obtain ⟨t4,A11,H⟩:=H;try dsimp only at H
  by_cases c12:t4=true
  ·subst c12;rw [if_pos rfl] at H;have H':=Aside0.mk H;clear H
   go_wp2_with (first|((with_reducible refine gate_callee (f:=22) rfl ?_);refine gl_ (some 11) Try.func22 #[.slice A0 l0.length c0] ?_;(with_reducible refine (law11_Great.calls k _ _ l0 false _ ?side1 ?side2 A5.out).mono ?_);(case side1=>exact zc_ (Kd.C_below HR0.out HB.out));(case side2=>exact HC0.out);rintro e w' ⟨rfl,⟨nd,rfl⟩⟩;refine ⟨_,rfl, ?_⟩)|(go_at_call 43;(with_reducible refine (law12_Great.calls k _ _ l2 false _ ?side1 ?side2 A7.out).mono ?_);(case side1=>repeat (first|exact (Kd.C_below HR2.out (zl0_ HB))|(with_reducible refine Kd.C_alloc ?_ _)|(with_reducible refine Kd.C_drewN ?_ _)|(with_reducible refine Kd.C_drew ?_)));(case side2=>exact HC2.out);rintro e w' ⟨rfl,⟨nd,rfl⟩⟩)|(go_at_call 44;(with_reducible refine (r10_Right.calls k _ _ l2 true _ ?side1 ?side2 A9.out).mono ?_);(case side1=>repeat (first|exact (Kd.C_below HR2.out (zl0_ HB))|(with_reducible refine Kd.C_alloc ?_ _)|(with_reducible refine Kd.C_drewN ?_ _)|(with_reducible refine Kd.C_drew ?_)));(case side2=>exact HC2.out);rintro e w13 ⟨rfl,hb⟩;replace HB:=am_ (below_step (zl0_ HB) hb);(try clear hb))|(go_at_call 45;(refine (law16_Great.calls k _ _ l1 _ _ ([]:List (S76)) 0 true _ ?side1 ?side2 ?side3 ?side4 A11.out).mono ?_);(case side1=>exact zc_ (Kd.C_below HR1.out HB.out));(case side2=>exact HC1.out);(case side3=>exact Kd.C_nil _ _);(case side4=>exact Nat.le_refl _);rintro e w14 ⟨rfl,hb⟩;replace HB:=am_ (below_step (zl0_ HB) hb);(try clear hb)))
   go_meet
   case rel=>exact ⟨_,(true),rf_,H',⟨by first|omega|exact Nat.le_refl _⟩,⟨zl0_ HB⟩⟩
  replace c12:=Bool.eq_false_iff.mpr c12;subst c12;rw [if_neg (show¬(false=true) by decide)] at H;replace H:=zbd_ H;obtain ⟨t5,A15,H⟩:=H;try dsimp only at H
  have H':=Aside0.mk H;clear H
  go_wp2_with (first|((with_reducible refine gate_callee (f:=22) rfl ?_);refine gl_ (some 11) Try.func22 #[.slice A0 l0.length c0] ?_;(with_reducible refine (law11_Great.calls k _ _ l0 false _ ?side1 ?side2 A5.out).mono ?_);(case side1=>exact zc_ (Kd.C_below HR0.out HB.out));(case side2=>exact HC0.out);rintro e w' ⟨rfl,⟨nd,rfl⟩⟩;refine ⟨_,rfl, ?_⟩)|(go_at_call 43;(with_reducible refine (law12_Great.calls k _ _ l2 false _ ?side1 ?side2 A7.out).mono ?_);(case side1=>repeat (first|exact (Kd.C_below HR2.out (zl0_ HB))|(with_reducible refine Kd.C_alloc ?_ _)|(with_reducible refine Kd.C_drewN ?_ _)|(with_reducible refine Kd.C_drew ?_)));(case side2=>exact HC2.out);rintro e w' ⟨rfl,⟨nd,rfl⟩⟩)|(go_at_call 44;(with_reducible refine (r10_Right.calls k _ _ l2 true _ ?side1 ?side2 A9.out).mono ?_);(case side1=>repeat (first|exact (Kd.C_below HR2.out (zl0_ HB))|(with_reducible refine Kd.C_alloc ?_ _)|(with_reducible refine Kd.C_drewN ?_ _)|(with_reducible refine Kd.C_drew ?_)));(case side2=>exact HC2.out);rintro e w16 ⟨rfl,hb⟩;replace HB:=am_ (below_step (zl0_ HB) hb);(try clear hb))|(go_at_call 45;(refine (law16_Great.calls k _ _ l1 _ _ ([]:List (S76)) 0 false _ ?side1 ?side2 ?side3 ?side4 A11.out).mono ?_);(case side1=>exact zc_ (Kd.C_below HR1.out HB.out));(case side2=>exact HC1.out);(case side3=>exact Kd.C_nil _ _);(case side4=>exact Nat.le_refl _);rintro e w17 ⟨rfl,hb⟩;replace HB:=am_ (below_step (zl0_ HB) hb);(try clear hb))|(go_at_call 46;(with_reducible refine (r16_MayMarks.calls k _ _ l1 t5 _ ?side1 ?side2 A15.out).mono ?_);(case side1=>exact zc_ (Kd.C_below HR1.out HB.out));(case side2=>exact HC1.out);rintro e w18 ⟨rfl,hb⟩;replace HB:=am_ (below_step (zl0_ HB) hb);(try clear hb)))
  go_meet
  case rel=>exact ⟨_,(!t5),rf_,H',⟨by first|omega|exact Nat.le_refl _⟩,⟨zl0_ HB⟩⟩
 case rest=>
  clear HC4;obtain ⟨kq,x30_3,rfl,HA,HJ3,HB⟩:=hcut
  cases kq with
  |zero=>exact absurd HA.out (by simp [law18_PlanAll.j0])
  |succ kj3=>
   have H:=HA.out;clear HA;simp only [law18_PlanAll.j0] at H;by_cases c20:x30_3=true
   ·subst c20;rw [if_pos rfl] at H;replace H:=zbd_ H;obtain ⟨t6,A21,H⟩:=H;try dsimp only at H
    obtain rfl:=Option.some.inj H;go_wp2_with (first|((with_reducible refine gate_callee (f:=47) rfl ?_);refine gl_ (some 31) Try.func47 #[] ?_;(with_reducible refine (law18_awake.calls t6 _ A21.out).mono ?_);rintro e w22 ⟨rfl,hb⟩;refine ⟨_,rfl, ?_⟩;replace HB:=am_ (below_step (zl0_ HB) hb);(try clear hb)))
    go_ret
    exact ⟨by first|rfl|(simp [errW_none,errW_some]<;>rfl)|(simp [*,errW_none,errW_some]<;>rfl),zl0_ HB⟩
   replace c20:=Bool.eq_false_iff.mpr c20;subst c20;rw [if_neg (show¬(false=true) by decide)] at H;replace H:=zbd_ H;obtain ⟨⟨t7,t8⟩,A23,H⟩:=H;try dsimp only at H
   replace H:=zbd_ H;obtain ⟨⟨t11,t14⟩,A24,H⟩:=H;try dsimp only at H
   replace H:=zbd_ H;obtain ⟨t16,A25,H⟩:=H;try dsimp only at H
   by_cases c26:t16=true;rotate_left
   ·replace c26:=Bool.eq_false_iff.mpr c26;subst c26;have H1:(none)=some r:=by rw [if_neg (show¬(false=true) by decide)] at H;exact H
    cases H1

   subst c26;rw [if_pos rfl] at H;replace H:=zbd_ H;obtain ⟨t17,A27,H⟩:=H;try dsimp only at H
   by_cases c28:t17=t14;rotate_left
   ·rw [if_neg c28] at H;cases H
   rw [if_pos c28] at H;have c28b0:=beq_iff_eq.mpr c28;have c28b1:=bne_eq_false_iff_eq.mpr c28;clear c28;replace H:=zbd_ H;obtain ⟨t18,A29,H⟩:=H;try dsimp only at H
   obtain rfl:=Option.some.inj H
   try go_wp2_with (first|((with_reducible refine gate_callee (f:=48) rfl ?_);refine gl_ (some 36) Try.func48 #[.slice A0 l0.length c0, .slice A1 l1.length c1, .slice A2 l2.length c2] ?_;(with_reducible refine (plan_Steps.calls _ _ l0 _ _ l1 _ _ l2 t7 t8 _ ?side1 ?side2 ?side3 ?side4 ?side5 ?side6 A23.out).mono ?_);(case side1=>exact zc_ (Kd.C_below HR0.out HB.out));(case side2=>exact HC0.out);(case side3=>exact zc_ (Kd.C_below HR1.out HB.out));(case side4=>exact HC1.out);(case side5=>exact zc_ (Kd.C_below HR2.out HB.out));(case side6=>exact HC2.out);rintro e w30 ⟨v9,rfl,ho0,hb⟩;refine ⟨_,rfl, ?_⟩;have HO10:=am_ (Kd.R_lower ho0 (below_size (zl0_ HB)));replace HB:=am_ (below_step (zl0_ HB) hb);(try clear hb ho0))|((with_reducible refine gate_callee (f:=39) rfl ?_);refine gl_ (some 42) Try.func39 #[.slice A0 l0.length c0, .slice A1 l1.length c1, .slice A2 l2.length c2] ?_;(with_reducible refine (r16_Steps.calls kj3 _ _ l0 _ _ l1 _ _ l2 t11 t14 _ ?side1 ?side2 ?side3 ?side4 ?side5 ?side6 A24.out).mono ?_);(case side1=>exact zc_ (Kd.C_below HR0.out HB.out));(case side2=>exact HC0.out);(case side3=>exact zc_ (Kd.C_below HR1.out HB.out));(case side4=>exact HC1.out);(case side5=>exact zc_ (Kd.C_below HR2.out HB.out));(case side6=>exact HC2.out);rintro e w31 ⟨v12,rfl,ho0,hb⟩;refine ⟨_,rfl, ?_⟩;have HO13:=am_ (Kd.R_lower (Kd.R_new' ho0 (Kd.R_lt (zr_ HO10))) (below_size (zl0_ HB)));replace HO10:=am_ (Kd.R_elder' (zr_ HO10) (Kd.R_base ho0) hb);replace HB:=am_ (below_step (zl0_ HB) hb);(try clear hb ho0))|((with_reducible refine gate_dst (N:=9) rfl ?_);refine bx_ (N:=9) (cs:=#[.slice none 0 0, .int .i64 0]) (t:=51) ?_;intro gb15 hg w32 hbox hb;replace HO10:=ob_ HO10 hb;replace HO13:=ob_ HO13 hb;have BK15:=am_ (hbox);have GE15:=am_ ((zg0_ HB hg:w.heap.size≤gb15));replace HB:=am_ (below_step (zl0_ HB) hb);clear hb hbox hg;obtain ⟨Ao33,co33,eo33⟩:=Kd.R_slice HO13.out;subst eo33;obtain ⟨hcz34_0,hcz34_1⟩:=x2_ BK15;have hfz34_0:=blk_frozen BK15.out 0;have hfz34_1:=blk_frozen BK15.out 1))
   have n0_:Aside0 (Kd.R k76 76 ((w32.setCell ⟨gb15,0,none⟩ (.slice Ao33 t11.length co33)).setCell ⟨gb15,1,none⟩ (.int .i64 t14)) w.heap.size (fun k_=>some k_≠(.slice Ao33 t11.length co33:Value).ownBlock) v9 t7):=⟨by (with_reducible repeat (first|apply Kd.R_alloc|apply Kd.R_drewN|apply Kd.R_drew));exact Kd.R_mono (Kd.R_far (p:=⟨gb15,1,none⟩) (Kd.R_far (p:=⟨gb15,0,none⟩) (Kd.R_types HO10.out BK15.out (by decide)) (fun _ hk=>hk.2) (.slice Ao33 t11.length co33)) (fun _ hk=>hk.2) (.int .i64 t14)) (fun _ hk=>hk.1.2)⟩;have n1_:Aside0 (Kd.R k76 76 ((w32.setCell ⟨gb15,0,none⟩ (.slice Ao33 t11.length co33)).setCell ⟨gb15,1,none⟩ (.int .i64 t14)) w.heap.size (fun k_=>some k_≠(v9:Value).ownBlock) (.slice Ao33 t11.length co33) t11):=⟨by (with_reducible repeat (first|apply Kd.R_alloc|apply Kd.R_drewN|apply Kd.R_drew));exact Kd.R_mono (Kd.R_far (p:=⟨gb15,1,none⟩) (Kd.R_far (p:=⟨gb15,0,none⟩) (Kd.R_types HO13.out BK15.out (by decide)) (fun _ hk=>hk.2) (.slice Ao33 t11.length co33)) (fun _ hk=>hk.2) (.int .i64 t14)) (fun _ hk=>hk.1.2)⟩;have n2_:Aside0 (((w32.setCell ⟨gb15,0,none⟩ (.slice Ao33 t11.length co33)).setCell ⟨gb15,1,none⟩ (.int .i64 t14)).heap[gb15]?=some (.cells #[.slice Ao33 t11.length co33, .int .i64 t14] 51 (0,0))):=⟨zw_ BK15⟩;have n3_:Aside0 (Below w.heap.size w ((w32.setCell ⟨gb15,0,none⟩ (.slice Ao33 t11.length co33)).setCell ⟨gb15,1,none⟩ (.int .i64 t14))):=⟨zl1_ HB GE15⟩
   generalize ((w32.setCell ⟨gb15,0,none⟩ (.slice Ao33 t11.length co33)).setCell ⟨gb15,1,none⟩ (.int .i64 t14))=w35 at n0_ n1_ n2_ n3_ ⊢;have HO10:=n0_;have HO13:=n1_;have BK15:=n2_;have HB:=n3_;clear n0_ n1_ n2_ n3_;replace HO10:=am_ (Kd.R_drew HO10.out);replace HO13:=am_ (Kd.R_drew HO13.out);replace BK15:=am_ (blk_drew BK15.out);replace HB:=am_ (below_drew1 HB.out);obtain ⟨Ao37,co37,eo37⟩:=Kd.R_slice HO10.out;(first|subst eo37|cases eo37);refine start_ (n:=15) (S:=fun w'=>w'.cell? ⟨gb15,0,none⟩=some (.slice Ao33 t11.length co33)∧w'.cell? ⟨gb15,1,none⟩=some (.int .i64 t14)) (ds:=[]) (bt_ 15 0) (by kernel_rfl) rfl rfl ⟨(blk_cell BK15.out 0).trans rfl,(blk_cell BK15.out 1).trans rfl⟩ (fun hHeld=> ?_);refine with_tabW law18_PlanAll.tab5 law18_PlanAll.bits5 (fun HT_ HW_=> ?_);generalize w35.drew=w36 at HO10 HO13 BK15 HB hHeld ⊢;refine ru_ 0 HT_ ?_;refine ru_ 1 HT_ ?_;refine rk_ 2 HT_ HW_ hHeld ?_;refine on_ (i:=3) (N:=some 46) (bt_ 15 15) HT_ (fun K hK=> ?_);refine gs_ Try.func49 #[.slice Ao37 t7.length co37, .slice Ao33 t11.length co33] ?_
   with_reducible refine (r16_SameSteps.calls kj3 _ _ t7 _ _ t11 true _ ?side1 ?side2 ?side3 ?side4 A25.out).mono ?_
   (case side1=>exact zc_ (Kd.R_reads' HO10.out).2.2);(case side2=>exact (Kd.R_reads' HO10.out).2.1);(case side3=>exact zc_ (Kd.R_reads' HO13.out).2.2);(case side4=>exact (Kd.R_reads' HO13.out).2.1);rintro e w' ⟨rfl,⟨nd,rfl⟩⟩;refine ⟨_,rfl, ?_⟩;refine hK.out _ _ ⟨(blk_cell BK15.out 0).trans rfl,(blk_cell BK15.out 1).trans rfl⟩ (fun hHeld=> ?_);clear hK K;refine no_ (N:=some 46) ?_;refine ru_ 4 HT_ ?_;refine ru_ 5 HT_ ?_;refine ru_ 7 HT_ ?_;refine rk_ 8 HT_ HW_ hHeld ?_;refine on_ (i:=6) (N:=some 49) (bt_ 15 511) HT_ (fun K hK=> ?_);refine gs_ Try.func25 #[.int .i64 t8] ?_
   with_reducible refine (law1_Num.calls t8 t17 _ A27.out).mono ?_
   rintro e w' ⟨rfl,⟨nd,rfl⟩⟩;refine ⟨_,rfl, ?_⟩;refine hK.out _ _ ⟨(blk_cell BK15.out 0).trans rfl,(blk_cell BK15.out 1).trans rfl⟩ (fun hHeld=> ?_);clear hK K;refine no_ (N:=some 49) ?_;refine ru_ 9 HT_ ?_;refine ru_ 10 HT_ ?_;refine ru_ 11 HT_ ?_;refine on_ (i:=12) (N:=some 55) (bt_ 15 8191) HT_ (fun K hK=> ?_);refine gs_ Try.func47 #[] ?_
   with_reducible refine (law18_awake.calls t18 _ A29.out).mono ?_
   rintro e w38 ⟨rfl,hb⟩;refine ⟨_,rfl, ?_⟩;replace HO10:=ob_ HO10 hb;replace HO13:=ob_ HO13 hb;replace BK15:=bb_ BK15 hb;replace HB:=am_ (below_step (zl1_ HB GE15) hb);(try clear hb);refine hK.out _ _ ⟨(blk_cell BK15.out 0).trans rfl,(blk_cell BK15.out 1).trans rfl⟩ (fun hHeld=> ?_);clear hK K;refine no_ (N:=some 55) ?_;refine ru_ 13 HT_ ?_;refine ru_ 14 HT_ ?_;refine done_ (done_of HT_.out (by kernel_rfl)) ?_;try go_wp2
   go_ret
   exact ⟨by first|rfl|(simp [errW_none,errW_some]<;>rfl)|(simp [*,errW_none,errW_some]<;>rfl),zl1_ HB GE15⟩
end Go.Proofs.Ytahidkjncljkaaa.Print

namespace Go.Proofs.Ytahidkjncljkaaa.Print
open Go.RowKit Go.Proofs.YtahidkjncljkaaaW.PrintWords Go.Proofs.YtahidkjncljkaaaW.PrintLast
open Go.ChangeShapes Go.WideShapes Go.Deep
section
variable {H:Type} {enc:TypeId×Value→H} {w:World} {base:Nat} {spare:Nat→Bool} {held:Bool}
theorem cells_i:Try.prog.cellsOf 3=1:=by kernel_rfl
theorem cells_s:Try.prog.cellsOf 9=1:=by kernel_rfl
theorem cells_v:Try.prog.cellsOf 37=3:=by kernel_rfl
theorem cells_it:Try.prog.cellsOf 79=12:=by kernel_rfl
theorem open_i {fuel:Nat} {c:Value} {x:DataW H×List MemPlace} (h:DataW.trod enc Try.prog w base spare held fuel 3 [c]=some x): ∃n:Int,c= .int .i64 n:=by
 obtain ⟨n,e,_,_⟩:=DataW.trod_int Try.underlying3 h;exact ⟨n,(List.cons.inj e).1⟩
theorem open_s {fuel:Nat} {c:Value} {x:DataW H×List MemPlace} (h:DataW.trod enc Try.prog w base spare held fuel 9 [c]=some x): ∃s:ByteArray,c= .string s:=by
 obtain ⟨n,e,_,_⟩:=DataW.trod_string Try.underlying9 h;exact ⟨n,(List.cons.inj e).1⟩
theorem open_vec {fuel:Nat} {cs:List Value} {x:DataW H×List MemPlace} (h:DataW.trod enc Try.prog w base spare held fuel 37 cs=some x): ∃v:Vec,cs=[.int .i64 v.f0, .int .i64 v.f1, .int .i64 v.f2]:=by
 obtain ⟨xs,n,_,hx,hl,hlen,hf⟩:=DataW.trod_struct Try.underlying37 h
 replace hl:cs.length=3:=hl.trans cells_v
 replace hlen:xs.length=3:=hlen
 clear h hx
 obtain ⟨c0,c1,c2,rfl⟩: ∃c0 c1 c2,cs=[c0,c1,c2]:=by
  clear hf
  match cs,hl with
  |[c0,c1,c2],_=>exact ⟨_,_,_,rfl⟩
 obtain ⟨y0,y1,y2,rfl⟩: ∃y0 y1 y2,xs=[y0,y1,y2]:=by
  clear hf
  match xs,hlen with
  |[y0,y1,y2],_=>exact ⟨_,_,_,rfl⟩
 have g0:DataW.trod enc Try.prog w base spare held n 3 (List.take (Try.prog.cellsOf 3) (List.drop 0 [c0,c1,c2]))=some y0:=hf 0 _ rfl
 have g1:DataW.trod enc Try.prog w base spare held n 3 (List.take (Try.prog.cellsOf 3) (List.drop 1 [c0,c1,c2]))=some y1:=hf 1 _ rfl
 have g2:DataW.trod enc Try.prog w base spare held n 3 (List.take (Try.prog.cellsOf 3) (List.drop 2 [c0,c1,c2]))=some y2:=hf 2 _ rfl
 rw [cells_i] at g0 g1 g2
 obtain ⟨n0,rfl⟩:=open_i (c:=c0) g0
 obtain ⟨n1,rfl⟩:=open_i (c:=c1) g1
 obtain ⟨n2,rfl⟩:=open_i (c:=c2) g2
 exact ⟨⟨n0,n1,n2⟩,rfl⟩
theorem open_item {fuel:Nat} {cs:List Value} {x:DataW H×List MemPlace} (h:DataW.trod enc Try.prog w base spare held fuel 79 cs=some x): ∃it:Item,cs=[.string it.f0, .string it.f1, .int .i64 it.f2.f0, .int .i64 it.f2.f1, .int .i64 it.f2.f2, .int .i64 it.f3.f0, .int .i64 it.f3.f1, .int .i64 it.f3.f2, .int .i64 it.f4.f0, .int .i64 it.f4.f1, .int .i64 it.f4.f2, .int .i64 it.f5]:=by
 obtain ⟨xs,n,_,hx,hl,hlen,hf⟩:=DataW.trod_struct Try.underlying79 h
 replace hl:cs.length=12:=hl.trans cells_it
 replace hlen:xs.length=6:=hlen
 clear h hx
 obtain ⟨c0,c1,c2,c3,c4,c5,c6,c7,c8,c9,c10,c11,rfl⟩: ∃c0 c1 c2 c3 c4 c5 c6 c7 c8 c9 c10 c11,cs=[c0,c1,c2,c3,c4,c5,c6,c7,c8,c9,c10,c11]:=by
  clear hf
  match cs,hl with
  |[c0,c1,c2,c3,c4,c5,c6,c7,c8,c9,c10,c11],_=>exact ⟨_,_,_,_,_,_,_,_,_,_,_,_,rfl⟩
 obtain ⟨y0,y1,y2,y3,y4,y5,rfl⟩: ∃y0 y1 y2 y3 y4 y5,xs=[y0,y1,y2,y3,y4,y5]:=by
  clear hf
  match xs,hlen with
  |[y0,y1,y2,y3,y4,y5],_=>exact ⟨_,_,_,_,_,_,rfl⟩
 have g0:DataW.trod enc Try.prog w base spare held n 9 (List.take (Try.prog.cellsOf 9) (List.drop 0 [c0,c1,c2,c3,c4,c5,c6,c7,c8,c9,c10,c11]))=some y0:=hf 0 _ rfl
 have g1:DataW.trod enc Try.prog w base spare held n 9 (List.take (Try.prog.cellsOf 9) (List.drop 1 [c0,c1,c2,c3,c4,c5,c6,c7,c8,c9,c10,c11]))=some y1:=hf 1 _ rfl
 have g2:DataW.trod enc Try.prog w base spare held n 37 (List.take (Try.prog.cellsOf 37) (List.drop 2 [c0,c1,c2,c3,c4,c5,c6,c7,c8,c9,c10,c11]))=some y2:=hf 2 _ rfl
 have g3:DataW.trod enc Try.prog w base spare held n 37 (List.take (Try.prog.cellsOf 37) (List.drop 5 [c0,c1,c2,c3,c4,c5,c6,c7,c8,c9,c10,c11]))=some y3:=hf 3 _ rfl
 have g4:DataW.trod enc Try.prog w base spare held n 37 (List.take (Try.prog.cellsOf 37) (List.drop 8 [c0,c1,c2,c3,c4,c5,c6,c7,c8,c9,c10,c11]))=some y4:=hf 4 _ rfl
 have g5:DataW.trod enc Try.prog w base spare held n 3 (List.take (Try.prog.cellsOf 3) (List.drop 11 [c0,c1,c2,c3,c4,c5,c6,c7,c8,c9,c10,c11]))=some y5:=hf 5 _ rfl
 rw [cells_s] at g0 g1
 rw [cells_v] at g2 g3 g4
 rw [cells_i] at g5
 obtain ⟨n0,rfl⟩:=open_s (c:=c0) g0
 obtain ⟨n1,rfl⟩:=open_s (c:=c1) g1
 obtain ⟨v2,e2⟩:=open_vec (cs:=[c2,c3,c4]) g2
 obtain ⟨v3,e3⟩:=open_vec (cs:=[c5,c6,c7]) g3
 obtain ⟨v4,e4⟩:=open_vec (cs:=[c8,c9,c10]) g4
 obtain ⟨n5,rfl⟩:=open_i (c:=c11) g5
 simp only [List.cons.injEq,and_true] at e2 e3 e4
 obtain ⟨rfl,rfl,rfl⟩:=e2
 obtain ⟨rfl,rfl,rfl⟩:=e3
 obtain ⟨rfl,rfl,rfl⟩:=e4
 exact ⟨⟨n0,n1,v2,v3,v4,n5⟩,rfl⟩
theorem open_items {t:TypeId} (ht:Try.prog.underlying t=some (.slice 79)) {v:Value} {d:DataW H} {p:List MemPlace} {A:Option Addr} {len cap:Nat} (hv:v= .slice A len cap) (h:DataW.Trod enc Try.prog w base spare held t v d p):
    ∃zs:List Item,len=zs.length∧len≤cap∧Kd.C k79 w A zs.length zs:=by
  subst hv
  obtain ⟨fuel,hf⟩:=h
  rcases open_slice ht hf with ⟨e,_⟩|⟨a,len',cap',m,n,D,Pl,e,_,hl,hm,hmm,_,hi⟩
  · simp only [Value.cells, List.cons.injEq, Value.slice.injEq, and_true] at e
    obtain ⟨rfl,rfl,rfl⟩:=e
    exact ⟨[],rfl,Nat.le_refl _,Kd.C_nil _ _⟩
  simp only [Value.cells,List.cons.injEq,Value.slice.injEq,and_true] at e
  obtain ⟨rfl,rfl,rfl⟩:=e
  have hlm:len≤m:=by rw [hmm];split<;>omega
  have key: ∀i,i<len→ ∃it:Item,∀j u,[Value.string it.f0, .string it.f1, .int .i64 it.f2.f0, .int .i64 it.f2.f1, .int .i64 it.f2.f2, .int .i64 it.f3.f0, .int .i64 it.f3.f1, .int .i64 it.f3.f2, .int .i64 it.f4.f0, .int .i64 it.f4.f1, .int .i64 it.f4.f2, .int .i64 it.f5][j]?=some u→w.cell? (a.add (i*12+j))=some u:=by
    intro i hil
    obtain ⟨cs',h1,h2⟩:=hi i (by omega)
    rw [cells_it] at h1
    obtain ⟨_,hcl,hat⟩:=World.cells?_some h1
    obtain ⟨it,rfl⟩:=open_item h2
    refine ⟨it,fun j u hj=> ?_⟩
    have hj12:j<12:=by
      have:=(List.getElem?_eq_some_iff.1 hj).1
      simpa using this
    have:=hat j hj12
    rw [Go.Deep.add_add,hj] at this
    exact this
  have hg: ∃g:Nat→Item,∀i,i<len→ ∀j u,[Value.string (g i).f0, .string (g i).f1, .int .i64 (g i).f2.f0, .int .i64 (g i).f2.f1, .int .i64 (g i).f2.f2, .int .i64 (g i).f3.f0, .int .i64 (g i).f3.f1, .int .i64 (g i).f3.f2, .int .i64 (g i).f4.f0, .int .i64 (g i).f4.f1, .int .i64 (g i).f4.f2, .int .i64 (g i).f5][j]?=some u→w.cell? (a.add (i*12+j))=some u:=by
    refine ⟨fun i=>if q:i<len then Classical.choose (key i q) else zItem,fun i q=> ?_⟩
    have:=Classical.choose_spec (key i q)
    simp only [q,dif_pos]
    exact this
  obtain ⟨g,hg⟩:=hg
  refine ⟨(List.range len).map g,by simp,hl, ?_⟩
  have hml:maxLen=9223372036854775807:=rfl
  refine ⟨rfl,by simp;omega,fun _=>⟨a,rfl,fun j p hj=> ?_⟩⟩
  rw [List.getElem?_map] at hj
  obtain ⟨i,hi1,rfl⟩:=Option.map_eq_some_iff.1 hj
  obtain ⟨hjl,e⟩:=List.getElem?_eq_some_iff.1 hi1
  rw [List.getElem_range] at e
  subst e
  rw [List.length_range] at hjl
  exact ⟨_,rfl,k79_mk w (g j),fun i u hu=>hg j hjl i u hu⟩
end
section
variable {H:Type} {enc:TypeId×Value→H} {w:World} {base:Nat} {spare:Nat→Bool} {held:Bool}
theorem cells_mark:Try.prog.cellsOf 84=6:=by kernel_rfl
theorem open_mark {fuel:Nat} {cs:List Value} {x:DataW H×List MemPlace} (h:DataW.trod enc Try.prog w base spare held fuel 84 cs=some x): ∃it:S84,cs=[Value.string it.f0, .string it.f1, .int .i64 it.f2.f0, .int .i64 it.f2.f1, .int .i64 it.f2.f2, .int .i64 it.f3]:=by
 obtain ⟨xs,n,_,hx,hl,hlen,hf⟩:=DataW.trod_struct Try.underlying84 h;replace hl:cs.length=6:=hl.trans cells_mark;replace hlen:xs.length=4:=hlen;clear h hx
 obtain ⟨c0,c1,c2,c3,c4,c5,rfl⟩: ∃c0 c1 c2 c3 c4 c5,cs=[c0,c1,c2,c3,c4,c5]:=by
  clear hf
  match cs,hl with
  |[c0,c1,c2,c3,c4,c5],_=>exact ⟨_,_,_,_,_,_,rfl⟩
 obtain ⟨y0,y1,y2,y3,rfl⟩: ∃y0 y1 y2 y3,xs=[y0,y1,y2,y3]:=by
  clear hf
  match xs,hlen with
  |[y0,y1,y2,y3],_=>exact ⟨_,_,_,_,rfl⟩
 have g0:DataW.trod enc Try.prog w base spare held n 9 (List.take (Try.prog.cellsOf 9) (List.drop 0 [c0,c1,c2,c3,c4,c5]))=some y0:=hf 0 _ rfl;have g1:DataW.trod enc Try.prog w base spare held n 9 (List.take (Try.prog.cellsOf 9) (List.drop 1 [c0,c1,c2,c3,c4,c5]))=some y1:=hf 1 _ rfl;have g2:DataW.trod enc Try.prog w base spare held n 37 (List.take (Try.prog.cellsOf 37) (List.drop 2 [c0,c1,c2,c3,c4,c5]))=some y2:=hf 2 _ rfl;have g3:DataW.trod enc Try.prog w base spare held n 3 (List.take (Try.prog.cellsOf 3) (List.drop 5 [c0,c1,c2,c3,c4,c5]))=some y3:=hf 3 _ rfl;rw [cells_s] at g0 g1;rw [cells_i] at g3;rw [cells_v] at g2;obtain ⟨n0,rfl⟩:=open_s (c:=c0) g0;obtain ⟨n1,rfl⟩:=open_s (c:=c1) g1;obtain ⟨v2,e2⟩:=open_vec (cs:=[c2,c3,c4]) g2;simp only [List.cons.injEq,and_true] at e2;obtain ⟨rfl,rfl,rfl⟩:=e2;obtain ⟨n3,rfl⟩:=open_i (c:=c5) g3;exact ⟨⟨n0,n1,v2,n3⟩,rfl⟩
theorem open_marks {t:TypeId} (ht:Try.prog.underlying t=some (.slice 84)) {v:Value} {d:DataW H} {p:List MemPlace} {A:Option Addr} {len cap:Nat} (hv:v= .slice A len cap) (h:DataW.Trod enc Try.prog w base spare held t v d p):
    ∃zs:List S84,len=zs.length∧len≤cap∧Kd.C k84 w A zs.length zs:=by
  subst hv;obtain ⟨fuel,hf⟩:=h
  rcases open_slice ht hf with ⟨e,_⟩|⟨a,len',cap',m,n,D,Pl,e,_,hl,hm,hmm,_,hi⟩
  · simp only [Value.cells, List.cons.injEq, Value.slice.injEq, and_true] at e
    obtain ⟨rfl,rfl,rfl⟩:=e
    exact ⟨[],rfl,Nat.le_refl _,Kd.C_nil _ _⟩
  simp only [Value.cells,List.cons.injEq,Value.slice.injEq,and_true] at e;obtain ⟨rfl,rfl,rfl⟩:=e;have hlm:len≤m:=by rw [hmm];split<;>omega
  have key: ∀i,i<len→ ∃it:S84,∀j u,[Value.string it.f0, .string it.f1, .int .i64 it.f2.f0, .int .i64 it.f2.f1, .int .i64 it.f2.f2, .int .i64 it.f3][j]?=some u→w.cell? (a.add (i*6+j))=some u:=by
    intro i hil;obtain ⟨cs',h1,h2⟩:=hi i (by omega);rw [cells_mark] at h1;obtain ⟨_,hcl,hat⟩:=World.cells?_some h1;obtain ⟨it,rfl⟩:=open_mark h2;refine ⟨it,fun j u hj=> ?_⟩
    have hj12:j<6:=by
      have:=(List.getElem?_eq_some_iff.1 hj).1
      simpa using this
    have:=hat j hj12
    rw [Go.Deep.add_add,hj] at this;exact this
  have hg: ∃g:Nat→S84,∀i,i<len→ ∀j u,[Value.string (g i).f0, .string (g i).f1, .int .i64 (g i).f2.f0, .int .i64 (g i).f2.f1, .int .i64 (g i).f2.f2, .int .i64 (g i).f3][j]?=some u→w.cell? (a.add (i*6+j))=some u:=by
    refine ⟨fun i=>if q:i<len then Classical.choose (key i q) else z84,fun i q=> ?_⟩;have:=Classical.choose_spec (key i q)
    simp only [q,dif_pos];exact this
  obtain ⟨g,hg⟩:=hg;refine ⟨(List.range len).map g,by simp,hl, ?_⟩;have hml:maxLen=9223372036854775807:=rfl;refine ⟨rfl,by simp;omega,fun _=>⟨a,rfl,fun j p hj=> ?_⟩⟩;rw [List.getElem?_map] at hj;obtain ⟨i,hi1,rfl⟩:=Option.map_eq_some_iff.1 hj;obtain ⟨hjl,e⟩:=List.getElem?_eq_some_iff.1 hi1;rw [List.getElem_range] at e;subst e;rw [List.length_range] at hjl;exact ⟨_,rfl,k84_mk w (g j),fun i u hu=>hg j hjl i u hu⟩
end
section
variable {H:Type} {enc:TypeId×Value→H} {w:World} {base:Nat} {spare:Nat→Bool} {held:Bool}
theorem cells_want:Try.prog.cellsOf 39=5:=by kernel_rfl
theorem open_want {fuel:Nat} {cs:List Value} {x:DataW H×List MemPlace} (h:DataW.trod enc Try.prog w base spare held fuel 39 cs=some x): ∃it:S39,cs=[Value.string it.f0, .string it.f1, .int .i64 it.f2.f0, .int .i64 it.f2.f1, .int .i64 it.f2.f2]:=by
 obtain ⟨xs,n,_,hx,hl,hlen,hf⟩:=DataW.trod_struct Try.underlying39 h;replace hl:cs.length=5:=hl.trans cells_want;replace hlen:xs.length=3:=hlen;clear h hx
 obtain ⟨c0,c1,c2,c3,c4,rfl⟩: ∃c0 c1 c2 c3 c4,cs=[c0,c1,c2,c3,c4]:=by
  clear hf
  match cs,hl with
  |[c0,c1,c2,c3,c4],_=>exact ⟨_,_,_,_,_,rfl⟩
 obtain ⟨y0,y1,y2,rfl⟩: ∃y0 y1 y2,xs=[y0,y1,y2]:=by
  clear hf
  match xs,hlen with
  |[y0,y1,y2],_=>exact ⟨_,_,_,rfl⟩
 have g0:DataW.trod enc Try.prog w base spare held n 9 (List.take (Try.prog.cellsOf 9) (List.drop 0 [c0,c1,c2,c3,c4]))=some y0:=hf 0 _ rfl;have g1:DataW.trod enc Try.prog w base spare held n 9 (List.take (Try.prog.cellsOf 9) (List.drop 1 [c0,c1,c2,c3,c4]))=some y1:=hf 1 _ rfl;have g2:DataW.trod enc Try.prog w base spare held n 37 (List.take (Try.prog.cellsOf 37) (List.drop 2 [c0,c1,c2,c3,c4]))=some y2:=hf 2 _ rfl;rw [cells_s] at g0 g1;rw [cells_v] at g2;obtain ⟨n0,rfl⟩:=open_s (c:=c0) g0;obtain ⟨n1,rfl⟩:=open_s (c:=c1) g1;obtain ⟨v2,e2⟩:=open_vec (cs:=[c2,c3,c4]) g2;simp only [List.cons.injEq,and_true] at e2;obtain ⟨rfl,rfl,rfl⟩:=e2;exact ⟨⟨n0,n1,v2⟩,rfl⟩
theorem open_wants {t:TypeId} (ht:Try.prog.underlying t=some (.slice 39)) {v:Value} {d:DataW H} {p:List MemPlace} {A:Option Addr} {len cap:Nat} (hv:v= .slice A len cap) (h:DataW.Trod enc Try.prog w base spare held t v d p):
    ∃zs:List S39,len=zs.length∧len≤cap∧Kd.C k39 w A zs.length zs:=by
  subst hv;obtain ⟨fuel,hf⟩:=h
  rcases open_slice ht hf with ⟨e,_⟩|⟨a,len',cap',m,n,D,Pl,e,_,hl,hm,hmm,_,hi⟩
  · simp only [Value.cells, List.cons.injEq, Value.slice.injEq, and_true] at e
    obtain ⟨rfl,rfl,rfl⟩:=e
    exact ⟨[],rfl,Nat.le_refl _,Kd.C_nil _ _⟩
  simp only [Value.cells,List.cons.injEq,Value.slice.injEq,and_true] at e;obtain ⟨rfl,rfl,rfl⟩:=e;have hlm:len≤m:=by rw [hmm];split<;>omega
  have key: ∀i,i<len→ ∃it:S39,∀j u,[Value.string it.f0, .string it.f1, .int .i64 it.f2.f0, .int .i64 it.f2.f1, .int .i64 it.f2.f2][j]?=some u→w.cell? (a.add (i*5+j))=some u:=by
    intro i hil;obtain ⟨cs',h1,h2⟩:=hi i (by omega);rw [cells_want] at h1;obtain ⟨_,hcl,hat⟩:=World.cells?_some h1;obtain ⟨it,rfl⟩:=open_want h2;refine ⟨it,fun j u hj=> ?_⟩
    have hj12:j<5:=by
      have:=(List.getElem?_eq_some_iff.1 hj).1
      simpa using this
    have:=hat j hj12
    rw [Go.Deep.add_add,hj] at this;exact this
  have hg: ∃g:Nat→S39,∀i,i<len→ ∀j u,[Value.string (g i).f0, .string (g i).f1, .int .i64 (g i).f2.f0, .int .i64 (g i).f2.f1, .int .i64 (g i).f2.f2][j]?=some u→w.cell? (a.add (i*5+j))=some u:=by
    refine ⟨fun i=>if q:i<len then Classical.choose (key i q) else z39,fun i q=> ?_⟩;have:=Classical.choose_spec (key i q)
    simp only [q,dif_pos];exact this
  obtain ⟨g,hg⟩:=hg;refine ⟨(List.range len).map g,by simp,hl, ?_⟩;have hml:maxLen=9223372036854775807:=rfl;refine ⟨rfl,by simp;omega,fun _=>⟨a,rfl,fun j p hj=> ?_⟩⟩;rw [List.getElem?_map] at hj;obtain ⟨i,hi1,rfl⟩:=Option.map_eq_some_iff.1 hj;obtain ⟨hjl,e⟩:=List.getElem?_eq_some_iff.1 hi1;rw [List.getElem_range] at e;subst e;rw [List.length_range] at hjl;exact ⟨_,rfl,k39_mk w (g j),fun i u hu=>hg j hjl i u hu⟩
end
end Go.Proofs.Ytahidkjncljkaaa.Print

namespace Go.Proofs.Ytahidkjncljkaaa.Print
open Go.RowKit Go.Proofs.YtahidkjncljkaaaW.PrintWords Go.Proofs.YtahidkjncljkaaaW.PrintLast Go.Proofs.YtahidkjncljkaaaW.PrintMore
attribute [local go_sem] max2_int min2_int max_two min_two max_three min_three max_four min_four

def slices_Clone_Item.f (l0:List (S79)):Option (List (S79)):=if l0.length<1256584717458 then some l0 else none
def shape_made.f (l0:List (S79)) (a1:ByteArray):Option ((List (S79))×Int):=(slices_Clone_Item.f l0).bind fun t2=>((tree_Find.f l0 a1).bind fun t5=>(some (t2,t5)))
def shape_change_parent.f (l0_0:List (S79)) (a0_1:Int) (a1:ByteArray):Option (Bool):=if a1.toList=([]:List UInt8) then (some true) else ((tree_Find.f l0_0 a1).bind fun t2=>(some (decide (t2≥0))))
def guardF (l:List S79) (j ver:Int):Option Int:=if j<0 then some 2 else if j<(l.length:Int) then (if 0≤ver∧(rd_T79 l j).f5≠ver then some 14 else some 0) else none
def verF (y:S79):S79:=⟨y.f0,y.f1,y.f2,y.f3,y.f4,wrap64 (y.f5+1)⟩
def olderF (l:List S79) (j:Int):Option (Int×List S79):=if 0≤j∧j<(l.length:Int) then (if (rd_T79 l j).f5≥9007199254740992 then some (4,l) else some (0,l.set j.toNat (verF (rd_T79 l j)))) else none
structure Turned (W w':World) (base:Nat) (v:Value):Prop where
 below:Below base W w'
 block: ∀(k:Nat) o,W.heap[k]?=some o→some k≠v.ownBlock→w'.heap[k]?=some o
theorem Turned.of_below {W w':World} {base:Nat} {v:Value} (h:Below W.heap.size W w') (hb:base≤W.heap.size):Turned W w' base v:=⟨⟨h.os,h.tape,h.output,h.size,fun k hk=>h.block k (Nat.lt_of_lt_of_le hk hb)⟩,fun k o hk _=>blk_below hk h⟩
end Go.Proofs.Ytahidkjncljkaaa.Print

namespace Go.Proofs.Ytahidkjncljkaaa.Print
open Go.RowKit Go.Proofs.YtahidkjncljkaaaW.PrintWords Go.Proofs.YtahidkjncljkaaaW.PrintLast Go.Proofs.YtahidkjncljkaaaW.PrintMore
end Go.Proofs.Ytahidkjncljkaaa.Print

namespace Go.Proofs.Ytahidkjncljkaaa.Print
open Go.RowKit Go.Proofs.YtahidkjncljkaaaW.PrintWords Go.Proofs.YtahidkjncljkaaaW.PrintLast Go.Proofs.YtahidkjncljkaaaW.PrintMore
attribute [local go_sem] max2_int min2_int max_two min_two max_three min_three max_four min_four
def placeL (l:List S79) (n:ByteArray):Nat:=(l.takeWhile fun y=>Op.bytesLess y.f0.toList n.toList).length
def shape_Create.f (l0:List (S79)) (a1:ByteArray) (a2:ByteArray) (a3_0:Int) (a3_1:Int) (a3_2:Int):Option ((List (S79))×Int):=
 (shape_made.f l0 a1).bind fun p=>if a1.toList=([]:List UInt8) then some ([],1) else if (a1.size:Int)>24 then some ([],1) else (vec_May.f a3_0 a3_1 a3_2).bind fun m=>if m=false then some ([],1) else
  if p.2≥0 then some ([],3) else (shape_change_parent.f p.1 p.2 a2).bind fun q=>if q=false then some ([],2) else if (l0.length:Int)≥120 then some ([],4) else
   some (p.1.take (placeL l0 a1)++⟨a1,a2,⟨a3_0,a3_1,a3_2⟩,⟨0,0,0⟩,⟨0,0,0⟩,1⟩::p.1.drop (placeL l0 a1),0)
end Go.Proofs.Ytahidkjncljkaaa.Print

namespace Go.Proofs.Ytahidkjncljkaaa.Print
open Go.RowKit Go.Proofs.YtahidkjncljkaaaW.PrintWords Go.Proofs.YtahidkjncljkaaaW.PrintLast Go.Proofs.YtahidkjncljkaaaW.PrintMore
def shSub (op:S37→S37) (y:S79):S79:=⟨y.f0,y.f1,y.f2,y.f3,op y.f4,y.f5⟩
def shiftF (op:S37→S37):List ByteArray→List S79→Option (List S79)
 |[],out=>some out
 |s::us,out=>(tree_Find.f out s).bind fun j=>if 0≤j∧j<(out.length:Int) then shiftF op us (out.set j.toNat (shSub op (rd_T79 out j))) else none
end Go.Proofs.Ytahidkjncljkaaa.Print

namespace Go.Proofs.Ytahidkjncljkaaa.Print
open Go.RowKit Go.Proofs.YtahidkjncljkaaaW.PrintWords Go.Proofs.YtahidkjncljkaaaW.PrintLast Go.Proofs.YtahidkjncljkaaaW.PrintMore
attribute [local go_sem] max2_int min2_int max_two min_two max_three min_three max_four min_four

def limF (v:S37) (y:S79):S79:=⟨y.f0,y.f1,v,y.f3,y.f4,y.f5⟩
def shape_Limit.f (l0:List (S79)) (a1:ByteArray) (a2_0:Int) (a2_1:Int) (a2_2:Int) (a3:Int):Option ((List (S79))×Int):=
 (vec_May.f a2_0 a2_1 a2_2).bind fun m=>if m=false then some ([],1) else (shape_made.f l0 a1).bind fun p=>(guardF p.1 p.2 a3).bind fun e=>if e≠0 then some ([],e) else (olderF p.1 p.2).bind fun q=>if q.1≠0 then some ([],q.1) else
  (vec_Le.f (rd_T79 q.2 p.2).f4.f0 (rd_T79 q.2 p.2).f4.f1 (rd_T79 q.2 p.2).f4.f2 a2_0 a2_1 a2_2).bind fun b=>if b=false then some ([],12) else some (q.2.set p.2.toNat (limF ⟨a2_0,a2_1,a2_2⟩ (rd_T79 q.2 p.2)),0)
def slices_Index_string_string.l0:Nat→List ByteArray→ByteArray→Int→Int→Option (Int)
 |0,_,_,_,_=>none
 |k+1,x0,x1,x7,x8=>if x8<x7 then (if 0≤x8 then (if x8<(x0.length:Int) then (if x1.toList=(rdOf ByteArray.empty x0 x8).toList then (some x8) else (slices_Index_string_string.l0 k x0 x1 x7 (wrap64 (x8+1)))) else (none)) else (none)) else (some (-1))
def slices_Index_string_string.f (k:Nat) (l0:List ByteArray) (a1:ByteArray):Option (Int):=slices_Index_string_string.l0 k l0 a1 (l0.length:Int) 0
theorem slices_Index_string_string.mono_l: ∀k,(∀y0 y1 y2 y3,LeO (slices_Index_string_string.l0 k y0 y1 y2 y3) (slices_Index_string_string.l0 (k+1) y0 y1 y2 y3))
 |0=>fun _ _ _ _ r h=>by simp [slices_Index_string_string.l0] at h
 |k+1=>by
  have ih0:=slices_Index_string_string.mono_l k;intro y0 y1 y2 y3;unfold slices_Index_string_string.l0
  repeat' with_reducible first|apply ih0|apply LeO.refl|apply LeO.none|apply LeO.ite|refine LeO.bind ?_ fun _=> ?_
theorem slices_Index_string_string.mono: ∀a0 a1 k,LeO (slices_Index_string_string.f k a0 a1) (slices_Index_string_string.f (k+1) a0 a1):=by
 intro a0 a1 k;have ih0:=slices_Index_string_string.mono_l k;unfold slices_Index_string_string.f
 repeat' first
  |(with_reducible exact ih0 _ _ _ _)
  |(with_reducible exact LeO.refl _)
  |(with_reducible exact LeO.none _)
  |(with_reducible refine LeO.ite ?_ ?_)
  |(with_reducible refine LeO.bind ?_ (fun _=> ?_))
  |exact ih0 _ _ _ _
  |exact LeO.none _
  |refine LeO.ite ?_ ?_
  |refine LeO.bind ?_ (fun _=> ?_)
def slices_Contains_string_string.f (k:Nat) (l0:List ByteArray) (a1:ByteArray):Option (Bool):=(slices_Index_string_string.f k l0 a1).bind fun t1=>(some (decide (t1≥0)))
theorem slices_Contains_string_string.mono: ∀a0 a1 k,LeO (slices_Contains_string_string.f k a0 a1) (slices_Contains_string_string.f (k+1) a0 a1):=by
 intro a0 a1 k;unfold slices_Contains_string_string.f
 repeat' first
  |(with_reducible exact slices_Index_string_string.mono _ _ _)
  |(with_reducible exact LeO.refl _)
  |(with_reducible exact LeO.none _)
  |(with_reducible refine LeO.ite ?_ ?_)
  |(with_reducible refine LeO.bind ?_ (fun _=> ?_))
  |exact slices_Index_string_string.mono _ _ _
  |exact LeO.none _
  |refine LeO.ite ?_ ?_
  |refine LeO.bind ?_ (fun _=> ?_)
def mvAdd (v u:S37):S37:=⟨((vec_Add.f [u,v]).getD (0,0,0)).1,((vec_Add.f [u,v]).getD (0,0,0)).2.1,((vec_Add.f [u,v]).getD (0,0,0)).2.2⟩
def mvSub (v u:S37):S37:=⟨wrap64 (u.f0 - v.f0),wrap64 (u.f1 - v.f1),wrap64 (u.f2 - v.f2)⟩
def fitsF (k:Nat) (l:List S79) (from_:List ByteArray) (sub:S37):List ByteArray→Option Bool
  |[]=>some true
  | s :: us => (tree_Find.f l s).bind fun j => if 0 ≤ j ∧ j < (l.length : Int) then (slices_Contains_string_string.f k from_ s).bind fun c => if c = true then fitsF k l from_ sub us else
      (vec_Le.f (mvAdd sub (rd_T79 l j).f4).f0 (mvAdd sub (rd_T79 l j).f4).f1 (mvAdd sub (rd_T79 l j).f4).f2 (rd_T79 l j).f2.f0 (rd_T79 l j).f2.f1 (rd_T79 l j).f2.f2).bind fun b=>if b=true then fitsF k l from_ sub us else some false else none
theorem fitsF_mono (l:List S79) (from_:List ByteArray) (sub:S37) (k:Nat): ∀us,LeO (fitsF k l from_ sub us) (fitsF (k+1) l from_ sub us)
  |[]=>LeO.refl _
  | s :: us => by
    unfold fitsF;refine LeO.bind (LeO.refl _) (fun j=>LeO.ite (LeO.bind (slices_Contains_string_string.mono _ _ _) (fun c=>LeO.ite (fitsF_mono l from_ sub k us) (LeO.bind (LeO.refl _) (fun b=>LeO.ite (fitsF_mono l from_ sub k us) (LeO.refl _))))) (LeO.refl _))
def parF (p:ByteArray) (y:S79):S79:=⟨y.f0,p,y.f2,y.f3,y.f4,y.f5⟩
def shape_Move.f (k:Nat) (l0:List (S79)) (a1:ByteArray) (a2:ByteArray) (a3:Int):Option ((List (S79))×Int):=
 (shape_made.f l0 a1).bind fun p=>(guardF p.1 p.2 a3).bind fun e=>if e≠0 then some ([],e) else (tree_Up.f k l0 a2).bind fun ts=>(shape_change_parent.f p.1 p.2 a2).bind fun q=>if q=false then some ([],2) else
  (slices_Contains_string_string.f k ts a1).bind fun c=>if c=true then some ([],10) else (olderF p.1 p.2).bind fun o=>if o.1≠0 then some ([],o.1) else
   (tree_Up.f k l0 (rd_T79 o.2 p.2).f1).bind fun fs=>(fitsF k l0 fs (rd_T79 o.2 p.2).f4 ts).bind fun b=>if b=false then some ([],12) else
    (shiftF (mvSub (rd_T79 o.2 p.2).f4) fs o.2).bind fun l3=>(shiftF (mvAdd (rd_T79 o.2 p.2).f4) ts l3).bind fun l4=>some (l4.set p.2.toNat (parF a2 (rd_T79 l4 p.2)),0)
theorem shape_Move.mono: ∀a0 a1 a2 a3 k,LeO (shape_Move.f k a0 a1 a2 a3) (shape_Move.f (k+1) a0 a1 a2 a3):=by
 intro a0 a1 a2 a3 k;unfold shape_Move.f
 repeat' first
  |(with_reducible exact tree_Up.mono _ _ _)
  |(with_reducible exact slices_Contains_string_string.mono _ _ _)
  |(with_reducible exact fitsF_mono _ _ _ _ _)
  |(with_reducible exact LeO.refl _)
  |(with_reducible exact LeO.none _)
  |(with_reducible refine LeO.ite ?_ ?_)
  |(with_reducible refine LeO.bind ?_ (fun _=> ?_))
def tree_Below.l0:Nat→ByteArray→List ByteArray→List (S79)→Int→Int→Option (List ByteArray)
 |0,_,_,_,_,_=>none
 |k+1,x1,x5,x8,x9,x10=>if x10<x9 then (if 0≤x10 then (if x10<(x8.length:Int) then (if ((rd_T79 x8 x10).f1).toList=x1.toList then (if x5.length<8796093022208 then (tree_Below.l0 k x1 (x5++ [(rd_T79 x8 x10).f0]) x8 x9 (wrap64 (x10+1))) else (none)) else (tree_Below.l0 k x1 x5 x8 x9 (wrap64 (x10+1)))) else (none)) else (none)) else (some x5)
def tree_Below.f (k:Nat) (l0:List (S79)) (a1:ByteArray):Option (List ByteArray):=tree_Below.l0 k a1 ([]:List ByteArray) l0 (l0.length:Int) 0
theorem tree_Below.mono_l: ∀k,(∀y0 y1 y2 y3 y4,LeO (tree_Below.l0 k y0 y1 y2 y3 y4) (tree_Below.l0 (k+1) y0 y1 y2 y3 y4))
 |0=>fun _ _ _ _ _ r h=>by simp [tree_Below.l0] at h
 |k+1=>by
  have ih0:=tree_Below.mono_l k;intro y0 y1 y2 y3 y4;unfold tree_Below.l0
  repeat' with_reducible first|apply ih0|apply LeO.refl|apply LeO.none|apply LeO.ite|refine LeO.bind ?_ fun _=> ?_
theorem tree_Below.mono: ∀a0 a1 k,LeO (tree_Below.f k a0 a1) (tree_Below.f (k+1) a0 a1):=by
 intro a0 a1 k;have ih0:=tree_Below.mono_l k;unfold tree_Below.f
 repeat' first
  |(with_reducible exact ih0 _ _ _ _ _)
  |(with_reducible exact LeO.refl _)
  |(with_reducible exact LeO.none _)
  |(with_reducible refine LeO.ite ?_ ?_)
  |(with_reducible refine LeO.bind ?_ (fun _=> ?_))
  |exact ih0 _ _ _ _ _
  |exact LeO.none _
  |refine LeO.ite ?_ ?_
  |refine LeO.bind ?_ (fun _=> ?_)
def shape_Delete.f (k:Nat) (l0:List (S79)) (a1:ByteArray) (a2:Int):Option ((List (S79))×Int):=
 (shape_made.f l0 a1).bind fun p=>(guardF p.1 p.2 a2).bind fun e=>if e≠0 then some ([],e) else (tree_Below.f k l0 a1).bind fun b=>if (b.length:Int)>0 then some ([],13) else
  if (rd_T79 p.1 p.2).f3.f0=0∧(rd_T79 p.1 p.2).f3.f1=0∧(rd_T79 p.1 p.2).f3.f2=0 then some (p.1.take p.2.toNat++p.1.drop (p.2.toNat+1),0) else some ([],13)
theorem shape_Delete.mono: ∀a0 a1 a2 k,LeO (shape_Delete.f k a0 a1 a2) (shape_Delete.f (k+1) a0 a1 a2):=by
 intro a0 a1 a2 k;unfold shape_Delete.f
 repeat' first
  |(with_reducible exact tree_Below.mono _ _ _)
  |(with_reducible exact LeO.refl _)
  |(with_reducible exact LeO.none _)
  |(with_reducible refine LeO.ite ?_ ?_)
  |(with_reducible refine LeO.bind ?_ (fun _=> ?_))
def shape_Do.f (k:Nat) (l0:List (S79)) (a1_0:Int) (a1_1:ByteArray) (a1_2:ByteArray) (a1_3:Int) (a1_4:Int) (a1_5:Int) (a2:Int):Option ((List (S79))×Int):=if a1_0=1 then ((shape_Create.f l0 a1_1 a1_2 a1_3 a1_4 a1_5).bind fun bt2=>(some (bt2.1,bt2.2))) else (if a1_0=2 then ((shape_Limit.f l0 a1_1 a1_3 a1_4 a1_5 a2).bind fun bt6=>(some (bt6.1,bt6.2))) else (if a1_0=3 then ((shape_Move.f k l0 a1_1 a1_2 a2).bind fun bt10=>(some (bt10.1,bt10.2))) else (if a1_0=4 then ((shape_Delete.f k l0 a1_1 a2).bind fun bt14=>(some (bt14.1,bt14.2))) else (some (([]:List (S79)),1)))))
theorem shape_Do.mono: ∀a0 a1 a2 a3 a4 a5 a6 a7 k,LeO (shape_Do.f k a0 a1 a2 a3 a4 a5 a6 a7) (shape_Do.f (k+1) a0 a1 a2 a3 a4 a5 a6 a7):=by
 intro a0 a1 a2 a3 a4 a5 a6 a7 k;unfold shape_Do.f
 repeat' first
  |(with_reducible exact shape_Delete.mono _ _ _ _)
  |(with_reducible exact shape_Move.mono _ _ _ _ _)
  |(with_reducible exact LeO.refl _)
  |(with_reducible exact LeO.none _)
  |(with_reducible refine LeO.ite ?_ ?_)
  |(with_reducible refine LeO.bind ?_ (fun _=> ?_))
  |exact shape_Delete.mono _ _ _ _
  |exact shape_Move.mono _ _ _ _ _
  |exact LeO.none _
  |refine LeO.ite ?_ ?_
  |refine LeO.bind ?_ (fun _=> ?_)
def Kept (b:Nat) (W w:World):Prop:=(∀g ob,g≠b→W.heap[g]?=some ob→w.heap[g]?=some ob)∧W.heap.size≤w.heap.size
def trial_try.l0:Nat→List (S76)→Int→List (S79)→Int→Option ((List (S79))×Int×Int)
 |0,_,_,_,_=>none
 |k+1,ss,x,lc,dc=>if x<(ss.length:Int) then (if 0≤x then ((shape_Do.f k lc (rd_T76 ss x).f0 (rd_T76 ss x).f1 (rd_T76 ss x).f2 (rd_T76 ss x).f3.f0 (rd_T76 ss x).f3.f1 (rd_T76 ss x).f3.f2 (-1)).bind fun bt7=>if bt7.2=0 then trial_try.l0 k ss (wrap64 (x+1)) bt7.1 (wrap64 (dc+1)) else some (lc,dc,bt7.2)) else none) else some (lc,dc,0)
theorem trial_try.mono_l: ∀k y0 y1 y2 y3,LeO (trial_try.l0 k y0 y1 y2 y3) (trial_try.l0 (k+1) y0 y1 y2 y3)
  |0=>fun _ _ _ _ r h=>by simp [trial_try.l0] at h
  | k + 1 => by
    have ih0:=trial_try.mono_l k;intro y0 y1 y2 y3;unfold trial_try.l0
    repeat' first
      |(with_reducible exact ih0 _ _ _ _)
      |(with_reducible exact shape_Do.mono _ _ _ _ _ _ _ _ _)
      |(with_reducible exact LeO.refl _)
      |(with_reducible exact LeO.none _)
      |(with_reducible refine LeO.ite ?_ ?_)
      |(with_reducible refine LeO.bind ?_ (fun _=> ?_))
theorem eqA79 (d:Nat) (w:World) (x0 y0:ByteArray) (x1 y1:ByteArray) (x2 y2:Int) (x3 y3:Int) (x4 y4:Int) (x5 y5:Int) (x6 y6:Int) (x7 y7:Int) (x8 y8:Int) (x9 y9:Int) (x10 y10:Int) (x11 y11:Int):
  (Op.equalIn (d+3) 79 (.agg #[.string x0, .string x1, .int .i64 x2, .int .i64 x3, .int .i64 x4, .int .i64 x5, .int .i64 x6, .int .i64 x7, .int .i64 x8, .int .i64 x9, .int .i64 x10, .int .i64 x11]) (.agg #[.string y0, .string y1, .int .i64 y2, .int .i64 y3, .int .i64 y4, .int .i64 y5, .int .i64 y6, .int .i64 y7, .int .i64 y8, .int .i64 y9, .int .i64 y10, .int .i64 y11])).run Try.prog w= .ok (x0.toList==y0.toList && (x1.toList==y1.toList && ((x2==y2 && (x3==y3 && (x4==y4))) && ((x5==y5 && (x6==y6 && (x7==y7))) && ((x8==y8 && (x9==y9 && (x10==y10))) && (x11==y11)))))) w:=by
 refine eqA_of Try.underlying79 (by kernel_rfl) ?_;refine eqf_cons (by rfl) (by go_simp;rfl) (by go_simp;rfl) (by go_simp) ?_;refine eqf_cons (by rfl) (by go_simp;rfl) (by go_simp;rfl) (by go_simp) ?_;refine eqf_cons (by rfl) (by go_simp) (by go_simp) (eqA37 (d+0) w _ _ _ _ _ _) ?_;refine eqf_cons (by rfl) (by go_simp) (by go_simp) (eqA37 (d+0) w _ _ _ _ _ _) ?_;refine eqf_cons (by rfl) (by go_simp) (by go_simp) (eqA37 (d+0) w _ _ _ _ _ _) ?_;exact eqf_last (by rfl) (by go_simp;rfl) (by go_simp;rfl) (by go_simp)
attribute [local go_sem high] eqA79
end Go.Proofs.Ytahidkjncljkaaa.Print

namespace Go.Proofs.Ytahidkjncljkaaa.Print
open Go.RowKit Go.Proofs.YtahidkjncljkaaaW.PrintWords Go.Proofs.YtahidkjncljkaaaW.PrintLast Go.Proofs.YtahidkjncljkaaaW.PrintMore
end Go.Proofs.Ytahidkjncljkaaa.Print

namespace Go.Proofs.Ytahidkjncljkaaa.Print
open Go.RowKit Go.Proofs.YtahidkjncljkaaaW.PrintWords Go.Proofs.YtahidkjncljkaaaW.PrintLast Go.Proofs.YtahidkjncljkaaaW.PrintMore
attribute [local go_sem] max2_int min2_int max_two min_two max_three min_three max_four min_four

end Go.Proofs.Ytahidkjncljkaaa.Print

namespace Go.Proofs.Ytahidkjncljkaaa.Print
open Go.RowKit Go.Proofs.YtahidkjncljkaaaW.PrintWords Go.Proofs.YtahidkjncljkaaaW.PrintLast Go.Proofs.YtahidkjncljkaaaW.PrintMore
def addV (a:Vec) (ws:List Item):Vec:=⟨a.f0+sumBy (fun x=>x.f4.f0) ws,a.f1+sumBy (fun x=>x.f4.f1) ws,a.f2+sumBy (fun x=>x.f4.f2) ws⟩
theorem addV_nil (a:Vec):addV a []=a:=by unfold addV;simp [sumBy_nil]
def SmallV (a:Vec) (n:Nat):Prop:= ∀c:Comp,0≤c.of a∧c.of a≤1099511627776*n
theorem small_wrap {a b:Vec} {n:Nat} (ha:SmallV a n) (hb:MayP b) (hn:n≤1000):wrap64 (a.f0+b.f0)=(vadd a b).f0∧wrap64 (a.f1+b.f1)=(vadd a b).f1∧wrap64 (a.f2+b.f2)=(vadd a b).f2:=by
 have a0:=ha .cpu;have a1:=ha .mem;have a2:=ha .pods;have b0:=hb .cpu;have b1:=hb .mem;have b2:=hb .pods;simp only [Comp.of] at a0 a1 a2 b0 b1 b2;exact ⟨w64 (by omega) (by omega),w64 (by omega) (by omega),w64 (by omega) (by omega)⟩
end Go.Proofs.Ytahidkjncljkaaa.Print

namespace Go.Proofs.Ytahidkjncljkaaa.Print
open Go.RowKit Go.Proofs.YtahidkjncljkaaaW.PrintWords Go.Proofs.YtahidkjncljkaaaW.PrintLast Go.Proofs.YtahidkjncljkaaaW.PrintMore
attribute [local go_sem] max2_int min2_int max_two min_two max_three min_three max_four min_four

end Go.Proofs.Ytahidkjncljkaaa.Print

namespace Go.Proofs.Ytahidkjncljkaaa.Print
open Go.RowKit Go.Proofs.YtahidkjncljkaaaW.PrintWords Go.Proofs.YtahidkjncljkaaaW.PrintLast Go.Proofs.YtahidkjncljkaaaW.PrintMore
theorem sumBy_filter (g:Item→Int) (p:Item→Bool): ∀l:List Item,sumBy g (l.filter p)=sumBy (fun x=>if p x=true then g x else 0) l
  |[]=>rfl
  | x :: l => by
    rw [sumBy_cons];by_cases h:p x=true
    · rw [List.filter_cons_of_pos h,sumBy_cons,sumBy_filter g p l,if_pos h]
    rw [List.filter_cons_of_neg h,sumBy_filter g p l,if_neg h];omega
end Go.Proofs.Ytahidkjncljkaaa.Print

namespace Go.Proofs.Ytahidkjncljkaaa.Print
open Go.RowKit Go.Proofs.YtahidkjncljkaaaW.PrintWords Go.Proofs.YtahidkjncljkaaaW.PrintLast Go.Proofs.YtahidkjncljkaaaW.PrintMore
attribute [local go_sem] max2_int min2_int max_two min_two max_three min_three max_four min_four

attribute [local go_sem high] eqA37
end Go.Proofs.Ytahidkjncljkaaa.Print

namespace Go.Proofs.Ytahidkjncljkaaa.Print
open Go.RowKit Go.Proofs.YtahidkjncljkaaaW.PrintWords Go.Proofs.YtahidkjncljkaaaW.PrintLast Go.Proofs.YtahidkjncljkaaaW.PrintMore
end Go.Proofs.Ytahidkjncljkaaa.Print

namespace Go.Proofs.Ytahidkjncljkaaa.Print
open Go.RowKit Go.Proofs.YtahidkjncljkaaaW.PrintWords Go.Proofs.YtahidkjncljkaaaW.PrintLast Go.Proofs.YtahidkjncljkaaaW.PrintMore
attribute [local go_sem] max2_int min2_int max_two min_two max_three min_three max_four min_four

end Go.Proofs.Ytahidkjncljkaaa.Print

namespace Go.Proofs.Ytahidkjncljkaaa.Print
open Go.RowKit Go.Proofs.YtahidkjncljkaaaW.PrintWords Go.Proofs.YtahidkjncljkaaaW.PrintLast Go.Proofs.YtahidkjncljkaaaW.PrintMore
end Go.Proofs.Ytahidkjncljkaaa.Print

namespace Go.Proofs.Ytahidkjncljkaaa.Print
open Go.RowKit Go.Proofs.YtahidkjncljkaaaW.PrintWords Go.Proofs.YtahidkjncljkaaaW.PrintLast Go.Proofs.YtahidkjncljkaaaW.PrintMore
attribute [local go_sem] max2_int min2_int max_two min_two max_three min_three max_four min_four

end Go.Proofs.Ytahidkjncljkaaa.Print

namespace Go.Proofs.Ytahidkjncljkaaa.Print
open Go.RowKit Go.Proofs.YtahidkjncljkaaaW.PrintWords Go.Proofs.YtahidkjncljkaaaW.PrintLast Go.Proofs.YtahidkjncljkaaaW.PrintMore
end Go.Proofs.Ytahidkjncljkaaa.Print

namespace Go.Proofs.Ytahidkjncljkaaa.Print
open Go.RowKit Go.Proofs.YtahidkjncljkaaaW.PrintWords Go.Proofs.YtahidkjncljkaaaW.PrintLast Go.Proofs.YtahidkjncljkaaaW.PrintMore
attribute [local go_sem] max2_int min2_int max_two min_two max_three min_three max_four min_four

end Go.Proofs.Ytahidkjncljkaaa.Print

namespace Go.Proofs.Ytahidkjncljkaaa.Print
open Go.RowKit Go.Proofs.YtahidkjncljkaaaW.PrintWords Go.Proofs.YtahidkjncljkaaaW.PrintLast Go.Proofs.YtahidkjncljkaaaW.PrintMore
end Go.Proofs.Ytahidkjncljkaaa.Print

namespace Go.Proofs.Ytahidkjncljkaaa.Print
open Go.RowKit Go.Proofs.YtahidkjncljkaaaW.PrintWords Go.Proofs.YtahidkjncljkaaaW.PrintLast
def idle (x:Item):Item:=⟨x.f0,x.f1,x.f2,⟨0,0,0⟩,⟨0,0,0⟩,x.f5⟩
structure St (t:List Item) (v m:Nat) (A:ByteArray→Option ByteArray):Prop where
 right:RightP t
 idle: ∀x∈t,x.f3=⟨0,0,0⟩∧x.f4=⟨0,0,0⟩
 ver: ∀x∈t,x.f5≤v
 len:t.length≤m
 par: ∀n,(look t n).map (·.f1)=A n
theorem St.some {t:List Item} {v m:Nat} {A:ByteArray→Option ByteArray} (S:St t v m A) {n p:ByteArray} (h:A n=some p): ∃x,look t n=some x∧x.f1=p:=by
  have:=S.par n
  rw [h] at this
  cases e:look t n with
  |none=>rw [e] at this;cases this
  | some x =>
    rw [e] at this;exact ⟨x,rfl,Option.some.inj this⟩
theorem St.none {t:List Item} {v m:Nat} {A:ByteArray→Option ByteArray} (S:St t v m A) {n:ByteArray} (h:A n=none):look t n=none:=by
 have:=S.par n
 rw [h] at this
 cases e:look t n with
 |none=>rfl
 |some x=>rw [e] at this;cases this
theorem St.le {t:List Item} {v m v' m':Nat} {A:ByteArray→Option ByteArray} (S:St t v m A) (h:v≤v') (k:m≤m'):St t v' m' A:=⟨S.right,S.idle,fun x hx=>by have:=S.ver x hx;omega,by have:=S.len;omega,S.par⟩
theorem St.congr {t:List Item} {v m:Nat} {A B:ByteArray→Option ByteArray} (S:St t v m A) (h: ∀n,A n=B n):St t v m B:=⟨S.right,S.idle,S.ver,S.len,fun n=>(S.par n).trans (h n)⟩
theorem zero_le {v:Vec} (h:MayP v):LeP (⟨0,0,0⟩:Vec) v:=by
 obtain ⟨a,b,c⟩:=v;rw [mayP_iff] at h;rw [leP_iff]
 omega
structure TopOK (top:List Want):Prop where
 nodup:(top.map (·.f0)).Nodup
 par: ∀(pre post:List Want) (w:Want),top=pre++w::post→w.f1=⟨#[]⟩∨ ∃u∈pre,u.f0=w.f1
 may: ∀w∈top,(w.f0≠⟨#[]⟩∧w.f0.size≤24)∧MayP w.f2
def A0 (l:List Item) (n:ByteArray):Option ByteArray:=(look l n).map (·.f1)
section
variable {l:List Item} {top:List Want}
end
theorem befG_iff {l:List Item} {n a:ByteArray}:befG l n a=true↔depU l n<depU l a∨(depU l a=depU l n∧lt a n=true):=by unfold befG;simp
theorem befG_trans {l:List Item} {a b c:ByteArray} (h:befG l b a=true) (k:befG l c b=true):befG l c a=true:=by
  rw [befG_iff] at h k ⊢
  rcases h with h|⟨h,h'⟩<;>rcases k with k|⟨k,k'⟩
  · exact .inl (by omega)
  · exact .inl (by omega)
  · exact .inl (by omega)
  exact .inr ⟨by omega,lt_trans h' k'⟩
theorem befG_total {l:List Item} {a n:ByteArray} (h:befG l n a=false) (hn:a≠n):befG l a n=true:=by
  rw [←Bool.not_eq_true,befG_iff] at h;rw [befG_iff];by_cases e:depU l a=depU l n;rotate_left
  · exact .inl (by have: ¬depU l n<depU l a:=fun q=>h (.inl q);omega)
  refine .inr ⟨e.symm,lt_total ?_ hn⟩;rw [←Bool.not_eq_true];exact fun q=>h (.inr ⟨e,q⟩)
theorem insG_perm (l:List Item) (n:ByteArray) (out:List ByteArray):(insG l n out).Perm (n::out):=by
 unfold insG;have:=List.perm_middle (a:=n) (l₁:=out.takeWhile (befG l n)) (l₂:=out.dropWhile (befG l n))
 rwa [List.takeWhile_append_dropWhile] at this
def goneN (ws:List Want) (ms:List PMark):List ByteArray:=(ms.filter (fun m=> !isWant ws m.f0)).map (·.f0)
theorem goesGo_perm (ws:List Want) (l:List Item): ∀(ms:List PMark) (out:List ByteArray),(goesGo ws l out ms).Perm (out++goneN ws ms)
  |[],out=>by rw [goesGo];show List.Perm out (out++ []);rw [List.append_nil]
  | m :: ms, out => by
    rw [goesGo];by_cases c:isWant ws m.f0=true
    · rw [if_pos c]
      have:goneN ws (m::ms)=goneN ws ms:=by unfold goneN;rw [List.filter_cons_of_neg (by rw [c];simp)]
      rw [this]
      exact goesGo_perm ws l ms out
    rw [if_neg c];have:goneN ws (m::ms)=m.f0::goneN ws ms:=by unfold goneN;rw [List.filter_cons_of_pos (by rw [Bool.eq_false_iff.2 c];rfl)];rfl
    rw [this];refine (goesGo_perm ws l ms _).trans (((insG_perm l m.f0 out).append_right _).trans ?_);exact List.perm_middle.symm
end Go.Proofs.Ytahidkjncljkaaa.Print

namespace Go.Proofs.Ytahidkjncljkaaa.Print
open Go.RowKit Go.Proofs.YtahidkjncljkaaaW.PrintWords Go.Proofs.YtahidkjncljkaaaW.PrintLast Go.Proofs.YtahidkjncljkaaaW.PrintMore
theorem flat_lenP {α β:Type} (f:α→List β) (hf: ∀w,(f w).length≤1): ∀xs:List α,(xs.flatMap f).length≤xs.length
 |[]=>Nat.le_refl _
 |x::xs=>by rw [List.flatMap_cons,List.length_append,List.length_cons];have:=hf x;have:=flat_lenP f hf xs;omega
theorem plan_len (ws:List Want) (m:List PMark) (l:List Item) (wd:Bool):((((topR ws).flatMap (raiseS l wd)++(topR ws).flatMap (moveS l))++(topR ws).reverse.flatMap (lowerS l wd))++(goesR ws m l).map delS).length≤3*ws.length+m.length:=by
 have h1: ∀w,(raiseS l wd w).length≤1:=fun w=>by unfold raiseS;split<;>(try split)<;>simp
 have h2: ∀w,(moveS l w).length≤1:=fun w=>by unfold moveS;split<;>(try split)<;>simp
 have h3: ∀w,(lowerS l wd w).length≤1:=fun w=>by unfold lowerS;split<;>simp
 have g1:=flat_lenP _ h1 (topR ws);have g2:=flat_lenP _ h2 (topR ws);have g3:=flat_lenP _ h3 (topR ws).reverse;have g4:(goesR ws m l).length≤m.length:=by have:=len_goesGo ws l m [];rw [List.length_nil,Nat.zero_add] at this;exact this
 have hp:=(topR_perm ws).length_eq;rw [List.length_reverse] at g3;rw [List.length_append,List.length_append,List.length_append,List.length_map]
 omega
theorem mx_zero {a:Int} (h:0≤a):mx 0 a=a:=by unfold mx;split<;>omega
theorem mx3 {a b:Int} (h:0≤b):mx (mx 0 a) b=mx a b:=by unfold mx;repeat' split<;>omega
theorem nowG_eq {l:List Item} (wide:Bool) {y:Want} (h:MayP y.f2):nowG wide (goalOf l y)=upV l wide y:=by
  have h0:=(mayP_iff.1 h).1.1;have h1:=(mayP_iff.1 h).2.1.1;have h2:=(mayP_iff.1 h).2.2.1;unfold nowG upV
  cases wide with
  |true=>rfl
  | false =>
    rw [if_neg (by simp),if_neg (by simp)];unfold goalOf
    cases look l y.f0 with
    | none =>
      show (⟨mx (mx 0 0) y.f2.f0,mx (mx 0 0) y.f2.f1,mx (mx 0 0) y.f2.f2⟩:Vec)=y.f2
      rw [mx3 h0,mx3 h1,mx3 h2,mx_zero h0,mx_zero h1,mx_zero h2]
    | some x =>
      show (⟨mx (mx 0 x.f2.f0) y.f2.f0,mx (mx 0 x.f2.f1) y.f2.f1,mx (mx 0 x.f2.f2) y.f2.f2⟩:Vec)=_
      rw [mx3 h0,mx3 h1,mx3 h2]
theorem bq (a b:Int):(a==b)=(b==a):=by
 rw [Bool.eq_iff_iff,beq_iff_eq,beq_iff_eq];exact ⟨Eq.symm,Eq.symm⟩
theorem neG_neV (a b:Vec):neG a b=neV b a:=by
 unfold neG neV;rw [show (a.f0==b.f0)=(b.f0==a.f0) from bq _ _,show (a.f1==b.f1)=(b.f1==a.f1) from bq _ _,show (a.f2==b.f2)=(b.f2==a.f2) from bq _ _]
theorem upG_f (l:List Item) (wide:Bool) (y:Want):(upG wide (goalOf l y)).f0=y∧(upG wide (goalOf l y)).f1=(goalOf l y).f1∧(upG wide (goalOf l y)).f2=(goalOf l y).f2∧(goalOf l y).f0=y:=by
 have:(goalOf l y).f0=y:=by unfold goalOf;split<;>rfl
 exact ⟨this,rfl,rfl,this⟩
theorem raise_eq {l:List Item} (wide:Bool) {y:Want} (h:MayP y.f2):raiseG wide (goalOf l y)=raiseS l wide y:=by
 have e:=nowG_eq (l:=l) wide h;have q: ∀z:PGoal,raiseG wide z=if z.f2=false then [⟨1,z.f0.f0,z.f0.f1,nowG wide z⟩] else if neG (nowG wide z) z.f1.f2=true then [⟨2,z.f0.f0,⟨#[]⟩,nowG wide z⟩] else []:=fun z=>rfl
 rw [q,e,neG_neV,(upG_f l wide y).2.2.2];unfold raiseS goalOf
 cases look l y.f0 with
 |none=>exact if_pos rfl
 |some x=>exact if_neg (by simp)
theorem move_eq {l:List Item} (wide:Bool) (y:Want):moveG (upG wide (goalOf l y))=moveS l y:=by
  have q: ∀z:PGoal,moveG (upG wide z)=if z.f2=true∧z.f1.f1.toList≠z.f0.f1.toList then [⟨3,z.f0.f0,z.f0.f1,⟨0,0,0⟩⟩] else []:=fun z=>rfl
  rw [q,(upG_f l wide y).2.2.2];unfold moveS goalOf
  cases look l y.f0 with
  |none=>exact if_neg (by simp [gzero])
  | some x =>
    dsimp only;by_cases c:x.f1=y.f1
    · rw [if_pos c,if_neg (by rw [c];simp)]
    rw [if_neg c,if_pos ⟨rfl,nm_ne.2 c⟩]
theorem lower_eq {l:List Item} (wide:Bool) {y:Want} (h:MayP y.f2):lowerG (upG wide (goalOf l y))=lowerS l wide y:=by
 have q: ∀z:PGoal,lowerG (upG wide z)=if neG (nowG wide z) z.f0.f2=true then [⟨2,z.f0.f0,⟨#[]⟩,z.f0.f2⟩] else []:=fun z=>rfl
 rw [q,nowG_eq wide h,neG_neV,(upG_f l wide y).2.2.2];unfold lowerS;rw [show neV y.f2 (upV l wide y)=neV (upV l wide y) y.f2 from Bool.eq_iff_iff.2 (by rw [neV_iff,neV_iff];exact ⟨fun a b=>a b.symm,fun a b=>a b.symm⟩)]
theorem wide_eq (l:List Item) (ms:List PMark): ∀(ys:List Want) (b:Bool),wideP l ms b ys=wideGo l ms b ys
  |[],b=>rfl
  | y :: ys, b => by
    have q:(ms.any (fun m=>m.f0.toList==y.f0.toList))=(mlook ms y.f0).isSome:=by
      unfold mlook;rw [List.isSome_find?]
      congr 1
      funext m
      exact nm_beq _ _
    unfold wideP wideGo badW wideOf;rw [q,wide_eq l ms ys]
    cases look l y.f0 with
    |none=>rw [if_neg (by simp)];dsimp only;rw [Bool.or_false]
    | some x =>
      dsimp only
      cases mlook ms y.f0 with
      |none=>rw [if_pos (by simp),if_pos rfl]
      | some m =>
        rw [if_neg (by simp),if_neg (by simp)];rw [show (x.f1.toList !=y.f1.toList)= !decide (x.f1=y.f1) from by unfold bne;rw [nm_beq]]
theorem flat_congr {α β:Type} {f g:α→List β}: ∀{l:List α},(∀x∈l,f x=g x)→l.flatMap f=l.flatMap g
  |[],_=>rfl
  | x :: l, h => by
    rw [List.flatMap_cons,List.flatMap_cons,h x (by simp),flat_congr fun y hy=>h y (List.mem_cons_of_mem _ hy)]
theorem befG_asym {l:List Item} {a b:ByteArray} (h:befG l a b=true):befG l b a=false:=by
  rw [←Bool.not_eq_true]
  intro k
  rw [befG_iff] at h k
  rcases h with h|⟨h,h'⟩<;>rcases k with k|⟨k,k'⟩
  · omega
  · omega
  · omega
  exact absurd (lt_trans h' k') (by rw [lt_irrefl];simp)
theorem befG_neg {l:List Item} {a b c:ByteArray} (h:befG l a b=false) (k:befG l b c=false):befG l a c=false:=by
  rw [←Bool.not_eq_true];intro q;by_cases e:b=a
  · subst e;rw [q] at k;cases k
  have h1:=befG_total h e;have h2:=befG_trans q h1;rw [h2] at k;cases k
theorem insG_weak {l:List Item} {n:ByteArray}: ∀{out:List ByteArray},out.Pairwise (fun a b=>befG l a b=false)→(insG l n out).Pairwise (fun a b=>befG l a b=false)
  |[],h=>by simp [insG]
  | x :: out, h => by
    rw [List.pairwise_cons] at h;unfold insG;rw [List.takeWhile_cons,List.dropWhile_cons];by_cases c:befG l n x=true
    · rw [c]
      show (x::insG l n out).Pairwise _
      rw [List.pairwise_cons]
      refine ⟨fun a ha=> ?_,insG_weak h.2⟩
      rcases List.mem_cons.1 ((insG_perm l n out).mem_iff.1 ha) with rfl|ha
      · exact befG_asym c
      exact h.1 a ha
    rw [Bool.eq_false_iff.2 c]
    show (n::x::out).Pairwise _
    rw [List.pairwise_cons,List.pairwise_cons];refine ⟨fun a ha=> ?_,h⟩
    rcases List.mem_cons.1 ha with rfl|ha
    · exact Bool.eq_false_iff.2 c
    exact befG_neg (Bool.eq_false_iff.2 c) (h.1 a ha)
theorem goesGo_weak (ws:List Want) (l:List Item): ∀(ms:List PMark) (out:List ByteArray),out.Pairwise (fun a b=>befG l a b=false)→(goesGo ws l out ms).Pairwise (fun a b=>befG l a b=false)
  |[],out,h=>by rw [goesGo];exact h
  | m :: ms, out, h => by
    rw [goesGo];by_cases c:isWant ws m.f0=true
    · rw [if_pos c];exact goesGo_weak ws l ms out h
    rw [if_neg c];exact goesGo_weak ws l ms _ (insG_weak h)
theorem drop_eq (l:List Item) (wide:Bool) (ws:List Want): ∀ms:List PMark,dropN (((topR ws).map (goalOf l)).map (upG wide)) ms=goneN ws ms
  |[]=>rfl
  | m :: ms => by
    have q:hasG (((topR ws).map (goalOf l)).map (upG wide)) m=isWant ws m.f0:=by
      unfold hasG isWant;rw [List.any_map,List.any_map,Bool.eq_iff_iff,List.any_eq_true,List.any_eq_true]
      constructor
      · rintro ⟨y, hy, e⟩
        refine ⟨y,(topR_perm ws).mem_iff.1 hy, ?_⟩
        have e2:(y.f0.toList==m.f0.toList)=true:=by rw [←(upG_f l wide y).1];exact e
        rwa [nm_beq] at e2
      rintro ⟨y,hy,e⟩;refine ⟨y,(topR_perm ws).mem_iff.2 hy, ?_⟩
      show ((upG wide (goalOf l y)).f0.f0.toList==m.f0.toList)=true
      rw [(upG_f l wide y).1,nm_beq];exact e
    show (if hasG _ m=true then dropN _ ms else m.f0::dropN _ ms)=_
    rw [q,drop_eq l wide ws ms];unfold goneN;by_cases c:isWant ws m.f0=true
    · rw [if_pos c,List.filter_cons_of_neg (by rw [c];simp)]
    rw [if_neg c,List.filter_cons_of_pos (by rw [Bool.eq_false_iff.2 c];rfl)];rfl
theorem gone_eq {l:List Item} {wide:Bool} {ws:List Want} {ms:List PMark} {ns:List ByteArray} (h:GoneIs (((topR ws).map (goalOf l)).map (upG wide)) ms l ns):ns=goesR ws ms l:=by
  obtain ⟨h1,h2⟩:=h;rw [drop_eq] at h1;have k1:(goesR ws ms l).Perm (goneN ws ms):=(goesGo_perm ws l ms []).trans (by rw [List.nil_append]);have k2:=goesGo_weak ws l ms [] List.Pairwise.nil;refine List.Perm.eq_of_pairwise (le:=fun a b=>befG l a b=false) ?_ ?_ k2 (h1.trans k1.symm)
  · intro a b _ _ hab hba
    by_cases e:a=b
    · exact e
    have:=befG_total hba e
    rw [hab] at this;cases this
  refine h2.imp ?_;intro a b hab;rw [←Bool.not_eq_true];intro q;refine hab (cmpW_neg.2 ?_);rw [befG_iff] at q;unfold depN
  rcases q with q|⟨q,q'⟩
  · exact .inl (by omega)
  exact .inr ⟨by omega,q'⟩
theorem gone_is (l:List Item) (wide:Bool) (ws:List Want) (ms:List PMark):GoneIs (((topR ws).map (goalOf l)).map (upG wide)) ms l (goesR ws ms l):=by
  refine ⟨?_, ?_⟩
  · rw [drop_eq]
    exact (goesGo_perm ws l ms []).trans (by rw [List.nil_append])
  refine (goesGo_weak ws l ms [] List.Pairwise.nil).imp ?_;intro a b hab q;rw [←Bool.not_eq_true] at hab;refine hab (befG_iff.2 ?_);have q:=cmpW_neg.1 q;unfold depN at q
  rcases q with q|⟨q,q'⟩
  · exact .inl (by omega)
  exact .inr ⟨by omega,q'⟩
theorem mayW_may {y:Want} (h:mayW y=true):MayP y.f2:=by
 unfold mayW at h;exact (of_decide_eq_true h).2
theorem plan_is {ws:List Want} {ms:List PMark} {l:List Item} (r:List PStep) (e:Int):PlanIs ws (topR ws) ms l r e↔(r,e)=planR ws ms l:=by
  unfold PlanIs planR;by_cases hz:checkR ws=0;rotate_left
  · rw [if_neg hz, if_neg hz]
    exact ⟨fun ⟨a,b⟩=>by rw [a,b],fun h=>by injection h with a b;exact ⟨a,b⟩⟩
  rw [if_pos hz,if_pos hz,wide_eq];have T:=checkR_tree (.inl hz);have hm: ∀y∈topR ws,MayP y.f2:=fun y hy=>mayW_may (T.may y ((topR_perm ws).mem_iff.1 hy))
  cases wideGo l ms false (topR ws) with
  |none=>exact ⟨fun ⟨a,b⟩=>by rw [a,b],fun h=>by injection h with a b;exact ⟨a,b⟩⟩
  | some wide =>
    dsimp only
    have e1:((topR ws).map (goalOf l)).flatMap (raiseG wide)=(topR ws).flatMap (raiseS l wide):=by
      rw [List.flatMap_map];exact flat_congr fun y hy=>raise_eq wide (hm y hy)
    have e2:(((topR ws).map (goalOf l)).map (upG wide)).flatMap moveG=(topR ws).flatMap (moveS l):=by
      rw [List.flatMap_map,List.flatMap_map];exact flat_congr fun y hy=>move_eq wide y
    have e3:(((topR ws).map (goalOf l)).map (upG wide)).reverse.flatMap lowerG=(topR ws).reverse.flatMap (lowerS l wide):=by
      rw [←List.map_reverse,←List.map_reverse,List.flatMap_map,List.flatMap_map];exact flat_congr fun y hy=>lower_eq wide (hm y (List.mem_reverse.1 hy))
    rw [e1,e2,e3]
    constructor
    · rintro ⟨rfl, ns, hg, rfl⟩
      rw [gone_eq hg]
    intro h;injection h with a b;exact ⟨b,_,gone_is l wide ws ms,a⟩
theorem plan_Steps_ev {ws:List Want} {ms:List PMark} {l:List Item} (hs:smallW ws) (hl:l.length<10000) (hm:ms.length<10000):plan_Steps.f ws ms l=some (planR ws ms l):=by
 have hx:(smallW ws∧l.length<10000∧ms.length<10000)∧ ∃p:List PStep×Int,PlanIs ws (topR ws) ms l p.1 p.2∧ ∀q:List PStep×Int,PlanIs ws (topR ws) ms l q.1 q.2→q=p:=
  ⟨⟨hs,hl,hm⟩,planR ws ms l,(plan_is _ _).2 rfl,fun q hq=>(plan_is q.1 q.2).1 hq⟩
 unfold plan_Steps.f;rw [dif_pos hx];have:=hx.2.choose_spec.1
 rw [plan_is] at this;exact congrArg some this
def creS (w:Want):PStep:=⟨1,w.f0,w.f1,w.f2⟩
theorem wide_nil (ms:List PMark): ∀ys:List Want,wideGo [] ms false ys=some false
 |[]=>rfl
 |y::ys=>wide_nil ms ys
theorem plan_fresh {ws:List Want} (h:checkR ws=0):planR ws [] []=((topR ws).map creS,0):=by
 unfold planR;rw [if_pos h,wide_nil];dsimp only
 have e1:(topR ws).flatMap (raiseS [] false)=(topR ws).map creS:=by
  rw [List.map_eq_flatMap]
  rfl
 have e2:(topR ws).flatMap (moveS [])=[]:=by
  rw [List.flatMap_eq_nil_iff];intro y _
  rfl
 have e3:(topR ws).reverse.flatMap (lowerS [] false)=[]:=by
  rw [List.flatMap_eq_nil_iff];intro y _;exact if_neg (by rw [show upV [] false y=y.f2 from rfl,neV_iff];simp)
 rw [e1,e2,e3]
 show (_++_++_++List.map delS [],0)=_
 rw [List.map_nil,List.append_nil,List.append_nil,List.append_nil]
def exS:List Want:=[⟨⟨#[97]⟩,⟨#[]⟩,⟨0,0,0⟩⟩]
theorem exS_small:smallW exS:=by
 intro w hw;unfold exS at hw;simp only [List.mem_cons,List.not_mem_nil,or_false] at hw;subst hw;exact ⟨by decide,by decide⟩
theorem awake18:law18_awake.f=some true:=by
 have h1:=(plan_Steps_ev (ws:=exS) (ms:=[]) (l:=[]) exS_small (by decide) (by decide)).trans (congrArg some (plan_fresh (ws:=exS) (by decide)));have h2:=(plan_Steps_ev (ws:=[]) (ms:=[]) (l:=[]) nil_small (by decide) (by decide)).trans (congrArg some (plan_fresh (ws:=[]) (by decide)));rw [show topR exS=exS from by kernel_rfl] at h1;rw [show topR []=[] from rfl] at h2;unfold law18_awake.f;rw [show exS=[⟨⟨#[97]⟩,⟨#[]⟩,⟨0,0,0⟩⟩] from rfl] at h1;rw [h1,h2];refine Eq.trans (b:=some true) ?_ rfl
 kernel_rfl
theorem awake18_ev:Ev (fun _=>(law18_awake.f).bind fun t=>some t) true:=by
 rw [awake18];exact Ev.const rfl
theorem same_stp_l0 (l:List PStep) (hl:l.length<1000000): ∀(d i:Nat),l.length - i=d→i≤l.length→Ev (fun k=>r16_SameSteps.l0 k l l i) true
  | 0, i, hd, hi => by
    refine Ev.step (fun k=>r16_SameSteps.l0.eq_2 (k:=k) ..) ?_;exact Ev.congr (fun k=>if_neg (by omega)) (Ev.now _)
  | d + 1, i, hd, hi => by
    refine Ev.step (fun k=>r16_SameSteps.l0.eq_2 (k:=k) ..) ?_;have e3:wrap64 ((i:Int)+1)=((i+1:Nat):Int):=by rw [w64 (by omega) (by omega)];rfl
    rw [e3];refine Ev.congr (fun k=>by rw [if_pos (by omega),if_pos (by omega),if_pos (by omega)]) ?_;refine Ev.congr (fun k=>if_neg (by simp)) (same_stp_l0 l hl d (i+1) (by omega) (by omega))
theorem same_stp (l:List PStep) (hl:l.length<1000000):Ev (fun k=>r16_SameSteps.f k l l) true:=by
 unfold r16_SameSteps.f;exact Ev.congr (fun k=>if_pos rfl) (same_stp_l0 l hl l.length 0 (by omega) (by omega))
def Ok1 (l:List Item) (i:Nat):Prop:=ItemOK (rd_T79 l i)∧(0<i→lt (rd_T79 l ((i:Int) - 1)).f0 (rd_T79 l i).f0=true)∧((rd_T79 l i).f1=⟨#[]⟩∨ ∃y,look l (rd_T79 l i).f1=some y)
def Ok2 (l:List Item) (i:Nat):Prop:=(∀c:Comp,c.of (rd_T79 l i).f4=c.of (rd_T79 l i).f3+csum c l (rd_T79 l i).f0)
def Ok3 (l:List Item) (i:Nat):Prop:=(up l (rd_T79 l i).f0).length≤l.length
theorem rd_get {l:List Item} {i:Nat} (h:i<l.length):rd_T79 l (i:Int)=l[i]:=by rw [rd_item,Int.toNat_natCast];simp [h]
theorem rd_mem {l:List Item} {i:Nat} (h:i<l.length):rd_T79 l (i:Int)∈l:=by rw [rd_get h];exact List.getElem_mem h
theorem rightP_iff (l:List Item):RightP l↔l.length≤120∧(∀i,i<l.length→Ok1 l i)∧(∀i,i<l.length→Ok2 l i)∧(∀i,i<l.length→Ok3 l i):=by
  constructor
  · intro h
    refine ⟨h.len,fun i hi=>⟨h.ok _ (rd_mem hi),fun h0=> ?_,h.par _ (rd_mem hi)⟩,fun i hi c=>h.sum c _ (rd_mem hi),fun i hi=>up_len_iff.2 (h.chain _ (rd_mem hi))⟩
    have:=List.pairwise_iff_getElem.1 h.sorted (i - 1) i (by omega) hi (by omega)
    rw [show ((i:Int) - 1)=((i - 1:Nat):Int) from by omega,rd_get (show i - 1<l.length by omega),rd_get hi]
    exact this
  rintro ⟨h1,h2,h3,h4⟩
  have hx: ∀x∈l,∃i,i<l.length∧rd_T79 l (i:Int)=x:=fun x hx=>by
    obtain ⟨i,hi,e⟩:=List.getElem_of_mem hx;exact ⟨i,hi,by rw [rd_get hi];exact e⟩
  refine ⟨h1,fun x hx'=> ?_, ?_,fun x hx'=> ?_,fun c x hx'=> ?_,fun x hx'=> ?_⟩
  · obtain ⟨i, hi, rfl⟩ := hx x hx'
    exact (h2 i hi).1
  · rw [List.pairwise_iff_getElem]
    intro i j hi hj hij
    have step: ∀d:Nat,∀hd:i+1+d<l.length,lt l[i].f0 (l[i+1+d]).f0=true:=by
      intro d
      induction d with
      | zero =>
        intro hd;have:=(h2 (i+1) (by omega)).2.1 (by omega)
        rw [show (((i+1:Nat):Int) - 1)=(i:Int) from by omega,rd_get hi,rd_get (show i+1<l.length by omega)] at this;exact this
      | succ d ih =>
        intro hd;have:=(h2 (i+1+(d+1)) hd).2.1 (by omega)
        rw [show (((i+1+(d+1):Nat):Int) - 1)=((i+1+d:Nat):Int) from by omega,rd_get (show i+1+d<l.length by omega),rd_get hd] at this;exact lt_trans (ih (by omega)) this
    have:=step (j - (i+1)) (by omega)
    simpa [show i+1+(j - (i+1))=j by omega] using this
  · obtain ⟨i, hi, rfl⟩ := hx x hx'
    exact (h2 i hi).2.2
  · obtain ⟨i, hi, rfl⟩ := hx x hx'
    exact h3 i hi c
  obtain ⟨i,hi,rfl⟩:=hx x hx';exact up_len_iff.1 (h4 i hi)
theorem of_addV_ (c:Comp) (a:Vec) (ws:List Item):c.of (addV a ws)=c.of a+sumBy (fun x=>c.of x.f4) ws:=by cases c<;>rfl
theorem addV_snoc_ (a:Vec) (ws:List Item) (y:Item):addV a (ws++ [y])=vadd (addV a ws) y.f4:=vec_ext fun c=>by
 rw [of_vadd,of_addV_,of_addV_,sumBy_append,sumBy_cons,sumBy_nil];omega
theorem small_addV_ {a:Vec} {n:Nat} (ha:SmallV a n) {ws:List Item} (hw: ∀y∈ws,MayP y.f4):SmallV (addV a ws) (n+ws.length):=fun c=>by
 have h1:=ha c;have h2:=sumBy_nonneg (g:=fun x=>c.of x.f4) (l:=ws) (fun y hy=>(hw y hy c).1);have h3:=sumBy_le (g:=fun x=>c.of x.f4) (B:=1099511627776) (l:=ws) (fun y hy=>(hw y hy c).2);rw [of_addV_]
 omega
theorem r10_add_small_ {a b:Vec} {n:Nat} (ha:SmallV a n) (hb:MayP b) (hn:n≤1000):r10_Add.f a.f0 a.f1 a.f2 b.f0 b.f1 b.f2=some ((vadd a b).f0,(vadd a b).f1,(vadd a b).f2):=by
 obtain ⟨e0,e1,e2⟩:=small_wrap ha hb hn;unfold r10_Add.f;rw [e0,e1,e2]
theorem ok2_iff {l:List Item} {i:Nat} {x:Item} (hx:rd_T79 l i=x):Ok2 l i↔addV x.f3 (l.filter (fun y=>decide (y.f1=x.f0)))=x.f4:=by
  have key: ∀c:Comp,c.of (addV x.f3 (l.filter (fun y=>decide (y.f1=x.f0))))=c.of x.f3+csum c l x.f0:=fun c=>by
    rw [of_addV_,sumBy_filter];simp only [decide_eq_true_eq]
    rfl
  unfold Ok2;rw [hx]
  constructor
  · intro h
    exact vec_ext fun c=>by rw [key c,h c]
  intro h c;rw [←key c,h]
theorem r10_full_l2 {l:List Item} (hlen:l.length≤120) (h1: ∀i,i<l.length→Ok1 l i) {i:Nat} (hi:i<l.length) {x:Item} (hx:rd_T79 l i=x) {b:Bool} (hno: ¬(Ok2 l i∧Ok3 l i)→b=false)
    (rest:Ok2 l i∧Ok3 l i→Ev (fun k=>r10_Right.l1 k l ((i+1:Nat):Int)) b): ∀(d j:Nat),l.length - j=d→j≤l.length→
    Ev (fun k=>r10_Right.l2 k l i j (addV x.f3 ((l.take j).filter (fun y=>decide (y.f1=x.f0)))).f0 (addV x.f3 ((l.take j).filter (fun y=>decide (y.f1=x.f0)))).f1 (addV x.f3 ((l.take j).filter (fun y=>decide (y.f1=x.f0)))).f2) b
  | 0, j, hd, hj => by
    obtain rfl:j=l.length:=by omega
    rw [List.take_length];have hok:=ok2_iff (l:=l) (i:=i) hx;generalize addV x.f3 (l.filter (fun y=>decide (y.f1=x.f0)))=s at hok;refine Ev.step (fun k=>r10_Right.l2.eq_2 (k:=k) ..) ?_;have e1:((i:Int)<(l.length:Int))=True:=eq_true (by omega);have e2:((0:Int)≤(i:Int))=True:=eq_true (by omega);have e3:wrap64 ((i:Int)+1)=((i+1:Nat):Int):=by rw [w64 (by omega) (by omega)];rfl
    simp only [Int.lt_irrefl,if_false,e1,e2,if_true,hx,e3];by_cases hs:s=x.f4;rotate_left
    · refine Ev.congr (fun k => if_pos ?_) ?_
      · have : ¬ (s.f0 = x.f4.f0 ∧ s.f1 = x.f4.f1 ∧ s.f2 = x.f4.f2) := fun ⟨a, b, c⟩ => hs (vec_ext fun d => by cases d <;> assumption)
        by_cases a:s.f0=x.f4.f0<;>by_cases b:s.f1=x.f4.f1<;>by_cases c:s.f2=x.f4.f2<;>simp_all
      rw [hno (fun q=>hs (hok.1 q.1))]
      exact Ev.now _
    subst hs;refine Ev.congr (fun k=>if_neg (by simp)) ?_;refine Ev.bind (r10_Up_ev l x.f0 (by omega)) ?_;by_cases hu:(up l x.f0).length≤l.length
    · exact Ev.congr (fun k=>if_neg (by omega)) (rest ⟨hok.2 rfl,by unfold Ok3;rw [hx];exact hu⟩)
    refine Ev.congr (fun k=>if_pos (by omega)) ?_;rw [hno (fun q=>hu (by have:=q.2;unfold Ok3 at this;rw [hx] at this;exact this))];exact Ev.now _
  | d + 1, j, hd, hj => by
    have hlt:j<l.length:=by omega
    have ih:=r10_full_l2 hlen h1 hi hx hno rest d (j+1) (by omega) (by omega);have hrd:=rd_get hlt
    have hall: ∀y∈l,ItemOK y:=fun y hy=>by
      obtain ⟨m,hm,e⟩:=List.getElem_of_mem hy;have:=(h1 m hm).1
      rw [rd_get hm,e] at this;exact this
    have hym:MayP (l[j]).f4:=(hall _ (List.getElem_mem hlt)).sub;rw [List.take_succ_eq_append_getElem hlt,List.filter_append] at ih;have hxm:ItemOK x:=by rw [←hx];exact (h1 i hi).1
    have hsm:=small_addV_ (a:=x.f3) (n:=1) (fun c=>by have:=hxm.own c;omega) (ws:=(l.take j).filter (fun y=>decide (y.f1=x.f0))) (fun y hy=>(hall y (List.mem_of_mem_take (List.mem_filter.1 hy).1)).sub);have hfl:=List.length_filter_le (fun y:Item=>decide (y.f1=x.f0)) (l.take j);rw [List.length_take] at hfl;generalize l[j]=y at hrd ih hym;refine Ev.step (fun k=>r10_Right.l2.eq_2 (k:=k) ..) ?_;have e1:((i:Int)<(l.length:Int))=True:=eq_true (by omega);have e2:((0:Int)≤(i:Int))=True:=eq_true (by omega);have e4:((j:Int)<(l.length:Int))=True:=eq_true (by omega);have e5:((0:Int)≤(j:Int))=True:=eq_true (by omega);have e3:wrap64 ((j:Int)+1)=((j+1:Nat):Int):=by rw [w64 (by omega) (by omega)];rfl
    simp only [e1,e2,e4,e5,if_true,hx,hrd,e3];by_cases hy:y.f1=x.f0
    · have e6 : (y.f1.toList = x.f0.toList) = True := eq_true (nm_inj.2 hy)
      rw [List.filter_cons_of_pos (by simpa using hy),List.filter_nil,addV_snoc_] at ih
      simp only [e6,if_true,r10_add_small_ hsm hym (by omega),Option.bind_some]
      exact ih
    have e6:(y.f1.toList=x.f0.toList)=False:=eq_false (fun q=>hy (nm_inj.1 q));rw [List.filter_cons_of_neg (by simpa using hy),List.filter_nil,List.append_nil] at ih;simp only [e6,if_false];exact ih
theorem r10_full_l1 {l:List Item} (hlen:l.length≤120) (h1: ∀i,i<l.length→Ok1 l i) {b:Bool} (hb:b=true↔RightP l): ∀(d i:Nat),l.length - i=d→i≤l.length→(∀j,j<i→Ok2 l j∧Ok3 l j)→Ev (fun k=>r10_Right.l1 k l i) b
  | 0, i, hd, hi, hp => by
    obtain rfl:i=l.length:=by omega
    refine Ev.step (fun k=>r10_Right.l1.eq_2 (k:=k) ..) ?_;simp only [Int.lt_irrefl,if_false];rw [hb.2 ((rightP_iff l).2 ⟨hlen,h1,fun j hj=>(hp j hj).1,fun j hj=>(hp j hj).2⟩)];exact Ev.now _
  | d + 1, i, hd, hi, hp => by
    have hlt:i<l.length:=by omega
    refine Ev.step (fun k=>r10_Right.l1.eq_2 (k:=k) ..) ?_;have e1:((i:Int)<(l.length:Int))=True:=eq_true (by omega);have e2:((0:Int)≤(i:Int))=True:=eq_true (by omega);simp only [e1,e2,if_true]
    have:=r10_full_l2 hlen h1 hlt (x:=rd_T79 l i) rfl (b:=b) (fun q=>by
      cases b with
      |false=>rfl
      | true =>
        obtain ⟨_,_,a,c⟩:=(rightP_iff l).1 (hb.1 rfl);exact absurd ⟨a i hlt,c i hlt⟩ q) (fun q=>r10_full_l1 hlen h1 hb d (i+1) (by omega) (by omega) (fun j hj=>by
        by_cases e:j=i
        · rw [e];exact q
        exact hp j (by omega))) _ 0 rfl (by omega)
    rw [List.take_zero,List.filter_nil,addV_nil] at this;exact this
theorem r10_full_l0 {l:List Item} (hlen:l.length≤120) {b:Bool} (hb:b=true↔RightP l): ∀(d i:Nat),l.length - i=d→i≤l.length→(∀j,j<i→Ok1 l j)→Ev (fun k=>r10_Right.l0 k l i) b
  | 0, i, hd, hi, hp => by
    obtain rfl:i=l.length:=by omega
    refine Ev.step (fun k=>r10_Right.l0.eq_2 (k:=k) ..) ?_;simp only [Int.lt_irrefl,if_false];exact r10_full_l1 hlen hp hb _ 0 rfl (by omega) (fun j hj=>absurd hj (by omega))
  | d + 1, i, hd, hi, hp => by
    have hlt:i<l.length:=by omega
    have hbad: ¬Ok1 l i→Ev (fun _=>some false) b:=fun q=>by
      cases b with
      |false=>exact Ev.now _
      |true=>exact absurd (((rightP_iff l).1 (hb.1 rfl)).2.1 i hlt) q
    have hnext:Ok1 l i→Ev (fun k=>r10_Right.l0 k l ((i+1:Nat):Int)) b:=fun q=>r10_full_l0 hlen hb d (i+1) (by omega) (by omega) (fun j hj=>by
      by_cases e:j=i
      · rw [e];exact q
      exact hp j (by omega))
    obtain ⟨x,hx⟩: ∃x,rd_T79 l (i:Int)=x:=⟨_,rfl⟩;have hOk:Ok1 l i↔ItemOK x∧(0<i→lt (rd_T79 l ((i:Int) - 1)).f0 x.f0=true)∧(x.f1=⟨#[]⟩∨ ∃y,look l x.f1=some y):=by unfold Ok1;rw [hx]
    have e1:((i:Int)<(l.length:Int))=True:=eq_true (by omega);have e2:((0:Int)≤(i:Int))=True:=eq_true (by omega);have e3:wrap64 ((i:Int)+1)=((i+1:Nat):Int):=by rw [w64 (by omega) (by omega)];rfl
    have n0:r10_MayName.f x.f0=some (decide (x.f0≠⟨#[]⟩∧x.f0.size≤24)):=r10_MayName_eq _;have n1:r10_MayVec.f x.f2.f0 x.f2.f1 x.f2.f2=some (decide (MayP x.f2)):=r10_MayVec_eq _ _ _;have n2:r10_MayVec.f x.f3.f0 x.f3.f1 x.f3.f2=some (decide (MayP x.f3)):=r10_MayVec_eq _ _ _;have n3:r10_Le.f x.f4.f0 x.f4.f1 x.f4.f2 x.f2.f0 x.f2.f1 x.f2.f2=some (decide (LeP x.f4 x.f2)):=r10_Le_eq _ _ _ _ _ _;have n4:r10_MayVec.f x.f4.f0 x.f4.f1 x.f4.f2=some (decide (MayP x.f4)):=r10_MayVec_eq _ _ _;refine Ev.step (fun k=>r10_Right.l0.eq_2 (k:=k) ..) ?_;simp only [e1,e2,if_true,hx,n0,n1,n2,n3,n4,Option.bind_some,e3,decide_eq_true_eq];by_cases m0:x.f0≠⟨#[]⟩∧x.f0.size≤24
    case neg=>exact Ev.congr (fun k=>if_neg m0) (hbad fun q=>m0 ⟨(hOk.1 q).1.name,(hOk.1 q).1.size⟩)
    refine Ev.congr (fun k=>if_pos m0) ?_
    have hver:(0<i→lt (rd_T79 l ((i:Int) - 1)).f0 x.f0=true)→MayP x.f2→MayP x.f3→(x.f1=⟨#[]⟩∨ ∃y,look l x.f1=some y)→
        Ev (fun k=>if x.f5<1 then some false else if x.f5>9007199254740992 then some false else if LeP x.f4 x.f2 then (if MayP x.f4 then r10_Right.l0 k l ((i+1:Nat):Int) else some false) else some false) b:=fun ho ml mo hpar=>by
      by_cases v1:x.f5<1
      · exact Ev.congr (fun k=>if_pos v1) (hbad fun q=>by have:=(hOk.1 q).1.ver;omega)
      refine Ev.congr (fun k=>if_neg v1) ?_
      by_cases v2:x.f5>9007199254740992
      · exact Ev.congr (fun k=>if_pos v2) (hbad fun q=>by have:=(hOk.1 q).1.ver;omega)
      refine Ev.congr (fun k=>if_neg v2) ?_
      by_cases v3:LeP x.f4 x.f2
      case neg=>exact Ev.congr (fun k=>if_neg v3) (hbad fun q=>v3 (hOk.1 q).1.fit)
      refine Ev.congr (fun k=>if_pos v3) ?_
      by_cases v4:MayP x.f4
      case neg=>exact Ev.congr (fun k=>if_neg v4) (hbad fun q=>v4 (hOk.1 q).1.sub)
      exact Ev.congr (fun k=>if_pos v4) (hnext (hOk.2 ⟨⟨m0.1,m0.2,ml,mo,v4,v3,by omega⟩,ho,hpar⟩))
    have hpar:(0<i→lt (rd_T79 l ((i:Int) - 1)).f0 x.f0=true)→Ev (fun k=>if MayP x.f2 then (if MayP x.f3 then (if x.f1.toList=([]:List UInt8) then (if x.f5<1 then some false else if x.f5>9007199254740992 then some false else if LeP x.f4 x.f2 then (if MayP x.f4 then r10_Right.l0 k l ((i+1:Nat):Int) else some false) else some false) else ((r10_Find.f k l x.f1).bind fun t9=>(if t9<0 then some false else (if x.f5<1 then some false else if x.f5>9007199254740992 then some false else if LeP x.f4 x.f2 then (if MayP x.f4 then r10_Right.l0 k l ((i+1:Nat):Int) else some false) else some false)))) else some false) else some false) b:=fun ho=>by
      by_cases ml:MayP x.f2
      case neg=>exact Ev.congr (fun k=>if_neg ml) (hbad fun q=>ml (hOk.1 q).1.lim)
      refine Ev.congr (fun k=>if_pos ml) ?_;by_cases mo:MayP x.f3
      case neg=>exact Ev.congr (fun k=>if_neg mo) (hbad fun q=>mo (hOk.1 q).1.own)
      refine Ev.congr (fun k=>if_pos mo) ?_;by_cases hp:x.f1=⟨#[]⟩
      · exact Ev.congr (fun k=>if_pos (nm_empty.2 hp)) (hver ho ml mo (.inl hp))
      refine Ev.congr (fun k=>if_neg (fun z=>hp (nm_empty.1 z))) (Ev.bind (r10_Find_ev l x.f1 (by omega)) ?_);by_cases hf:fnd l x.f1<0;rotate_left
      · exact Ev.congr (fun k=>if_neg hf) (hver ho ml mo (.inr (fnd_ge.1 (by omega))))
      refine Ev.congr (fun k=>if_pos hf) (hbad fun q=> ?_)
      rcases (hOk.1 q).2.2 with z|⟨y,hy⟩
      · exact hp z
      rw [fnd_neg.1 hf] at hy;cases hy
    by_cases hi0:(i:Int)>0;rotate_left
    · have e5 : ((i : Int) > 0) = False := eq_false hi0
      simp only [e5,if_false]
      exact hpar (fun q=>absurd q (by omega))
    have e4:wrap64 ((i:Int) - 1)=(i:Int) - 1:=w64 (by omega) (by omega);have e5:((i:Int)>0)=True:=eq_true hi0;have e6:(0≤(i:Int) - 1)=True:=eq_true (by omega);have e7:((i:Int) - 1<(l.length:Int))=True:=eq_true (by omega);simp only [e4,e5,e6,e7,if_true];by_cases m2:lt (rd_T79 l ((i:Int) - 1)).f0 x.f0=true
    · exact Ev.congr (fun k=>if_pos m2) (hpar (fun _=>m2))
    exact Ev.congr (fun k=>if_neg m2) (hbad fun q=>m2 ((hOk.1 q).2.1 (by omega)))
theorem r10_Right_ev (l:List Item) {b:Bool} (hb:b=true↔RightP l):Ev (fun k=>r10_Right.f k l) b:=by
  unfold r10_Right.f;by_cases h:(l.length:Int)>120;rotate_left
  · exact Ev.congr (fun k=>if_neg h) (r10_full_l0 (by omega) hb _ 0 rfl (by omega) (fun j hj=>absurd hj (by omega)))
  refine Ev.congr (fun k=>if_pos h) ?_
  cases b with
  |false=>exact Ev.now _
  |true=>exact absurd (hb.1 rfl).len (by omega)
theorem great_l0 (l:List Item): ∀(d i:Nat),150 - i=d→i≤150→i≤l.length→ ∃g,Ev (fun k=>law12_Great.l0 k l i) g∧(g=false→l.length≤130)
  | 0, i, hd, hi, hl => by
    obtain rfl:i=150:=by omega
    have hj:Ev (fun k=>law12_Great.j1 k l ((150:Nat):Int) false) (decide ((l.length:Int)>130)):=by
      refine Ev.step (fun k=>law12_Great.j1.eq_2 (k:=k) ..) ?_
      simp only [Bool.false_eq_true,if_false]
      exact Ev.now _
    refine ⟨decide ((l.length:Int)>130), ?_,fun h=>by have:=of_decide_eq_false h;omega⟩
    refine Ev.step (fun k=>law12_Great.l0.eq_2 (k:=k) ..) ?_
    rw [show decide (((150:Nat):Int)<150)=false from by decide]
    by_cases h:((150:Nat):Int)<(l.length:Int)
    · exact Ev.congr (fun k=>if_pos h) hj
    exact Ev.congr (fun k=>if_neg h) hj
  | d + 1, i, hd, hi, hl => by
    by_cases h:(i:Int)<(l.length:Int)
    rotate_left
    · refine ⟨decide ((l.length : Int) > 130), ?_, fun h => by have := of_decide_eq_false h; omega⟩
      refine Ev.step (fun k=>law12_Great.l0.eq_2 (k:=k) ..) ?_
      refine Ev.congr (fun k=>if_neg h) ?_
      refine Ev.step (fun k=>law12_Great.j1.eq_2 (k:=k) ..) ?_
      simp only [Bool.false_eq_true,if_false]
      exact Ev.now _
    have hj: ∃g,Ev (fun k=>law12_Great.j1 k l (i:Int) true) g∧(g=false→l.length≤130):=by
      have e1:((0:Int)≤(i:Int))=True:=eq_true (by omega)
      have e2:((i:Int)<(l.length:Int))=True:=eq_true h
      have e3:wrap64 ((i:Int)+1)=((i+1:Nat):Int):=by rw [w64 (by omega) (by omega)];rfl
      by_cases h1:((rd_T79 l (i:Int)).f0.size:Int)>100
      · refine ⟨true, ?_, fun q => by cases q⟩
        refine Ev.step (fun k=>law12_Great.j1.eq_2 (k:=k) ..) ?_
        simp only [e1,e2,if_true]
        exact Ev.congr (fun k=>if_pos h1) (Ev.now _)
      by_cases h2:((rd_T79 l (i:Int)).f1.size:Int)>100
      · refine ⟨true, ?_, fun q => by cases q⟩
        refine Ev.step (fun k=>law12_Great.j1.eq_2 (k:=k) ..) ?_
        simp only [e1,e2,if_true]
        exact Ev.congr (fun k=>(if_neg h1).trans (if_pos h2)) (Ev.now _)
      obtain ⟨g,hg,hg2⟩:=great_l0 l d (i+1) (by omega) (by omega) (by omega)
      refine ⟨g, ?_,hg2⟩
      refine Ev.step (fun k=>law12_Great.j1.eq_2 (k:=k) ..) ?_
      simp only [e1,e2,e3,if_true]
      exact Ev.congr (fun k=>(if_neg h1).trans (if_neg h2)) hg
    obtain ⟨g,hg,hg2⟩:=hj
    refine ⟨g, ?_,hg2⟩
    refine Ev.step (fun k=>law12_Great.l0.eq_2 (k:=k) ..) ?_
    rw [show decide ((i:Int)<150)=true from decide_eq_true (by omega)]
    exact Ev.congr (fun k=>if_pos h) hg
theorem great_ev (l:List Item): ∃g,Ev (fun k=>law12_Great.f k l) g∧(g=false→l.length≤130):=great_l0 l _ 0 rfl (by omega) (by omega)
theorem r10_Right_some (l:List Item): ∃b,Ev (fun k=>r10_Right.f k l) b∧(b=true↔RightP l):=by
  by_cases h:RightP l
  · exact ⟨true,r10_Right_ev l (by simp [h]),by simp [h]⟩
  exact ⟨false,r10_Right_ev l (by simp [h]),by simp [h]⟩
theorem pa_len (ws:List Want) (m:List PMark) (l:List Item):(planR ws m l).1.length≤3*ws.length+m.length:=by
  unfold planR
  split
  rotate_left
  · simp
  split
  · simp
  exact plan_len ws m l _
theorem pa_num (ws:List Want) (m:List PMark) (l:List Item):law1_Num.f (planR ws m l).2=some (planR ws m l).2:=rfl
theorem pa_mark (m:PMark): ∃b,r16_MayMark.f m.f0 m.f1 m.f2.f0 m.f2.f1 m.f2.f2 m.f3=some b:=by
 unfold r16_MayMark.f;rw [r10_MayVec_eq]
 obtain ⟨b,hb⟩: ∃b,r10_MayName.f m.f0=some b:=by
  unfold r10_MayName.f
  split<;>exact ⟨_,rfl⟩
 rw [hb];simp only [Option.bind_some]
 repeat' split
 all_goals exact ⟨_,rfl⟩
theorem pa_marks_l0 {ms:List PMark} (hm:ms.length≤1000): ∀(d i:Nat),ms.length - i=d→i≤ms.length→ ∃b,Ev (fun k=>r16_MayMarks.l0 k ms (i:Int)) b
  |0,i,hd,hi=>⟨_,Ev.step (fun k=>r16_MayMarks.l0.eq_2 (k:=k) ..) (Ev.congr (fun k=>if_neg (by omega)) (Ev.now _))⟩
  | d + 1, i, hd, hi => by
    have hlt:i<ms.length:=by omega
    have e1:wrap64 ((i:Int)+1)=((i+1:Nat):Int):=by rw [w64 (by omega) (by omega)];rfl
    obtain ⟨b,hb⟩:=pa_mark ms[i];obtain ⟨n,hn⟩:=pa_marks_l0 hm d (i+1) (by omega) (by omega)
    have st: ∀r,Ev (fun k=>if b=true then (if (i:Int)>0 then (if 0≤(wrap64 ((i:Int) - 1)) then (if (wrap64 ((i:Int) - 1))<(ms.length:Int) then (if ((Op.bytesLess (((rd_T84 ms (wrap64 ((i:Int) - 1))).f0).toList) (((rd_T84 ms (i:Int)).f0).toList))=true) then (r16_MayMarks.l0 k ms (wrap64 ((i:Int)+1))) else (some false)) else (none)) else (none)) else (r16_MayMarks.l0 k ms (wrap64 ((i:Int)+1)))) else (some false)) r→Ev (fun k=>r16_MayMarks.l0 k ms (i:Int)) r:=fun r h=>by
      refine Ev.step (fun k=>r16_MayMarks.l0.eq_2 (k:=k) ..) (Ev.congr (fun k=> ?_) h);rw [if_pos (by omega),if_pos (by omega),rd_pmarkN ms hlt,hb]
      rfl
    rw [e1] at st
    cases b with
    |false=>exact ⟨false,st _ (Ev.congr (fun k=>if_neg (by decide)) (Ev.now _))⟩
    | true =>
      by_cases c:(i:Int)>0;rotate_left
      · exact ⟨n,st _ (Ev.congr (fun k=>by rw [if_pos rfl,if_neg c]) hn)⟩
      have e2:wrap64 ((i:Int) - 1)=(i:Int) - 1:=w64 (by omega) (by omega);by_cases c2:(Op.bytesLess (((rd_T84 ms (wrap64 ((i:Int) - 1))).f0).toList) (((rd_T84 ms (i:Int)).f0).toList))=true
      · exact ⟨n,st _ (Ev.congr (fun k=>by rw [if_pos rfl,if_pos c,if_pos (by omega),if_pos (by omega),if_pos c2]) hn)⟩
      exact ⟨false,st _ (Ev.congr (fun k=>by rw [if_pos rfl,if_pos c,if_pos (by omega),if_pos (by omega),if_neg c2]) (Ev.now _))⟩
theorem pa_marks {ms:List PMark} (hm:ms.length≤1000): ∃b,Ev (fun k=>r16_MayMarks.f k ms) b:=pa_marks_l0 hm ms.length 0 (by omega) (by omega)
theorem pa_great_end (ms:List PMark): ∃b,Ev (fun k=>law16_Great.l1 k 0 ms [] 0) b∧(b=false→ms.length≤260):=by
  by_cases h:(ms.length:Int)>260
  · refine ⟨true,Ev.step (fun k=>law16_Great.l1.eq_2 (k:=k) ..) (Ev.congr (fun k=>if_neg (by simp)) (Ev.step (fun k=>law16_Great.j3.eq_2 (k:=k) ..) (Ev.congr (fun k=>if_neg (by decide)) (Ev.congr (fun k=>if_pos h) (Ev.now _))))),fun e=>by cases e⟩
  refine ⟨_,Ev.step (fun k=>law16_Great.l1.eq_2 (k:=k) ..) (Ev.congr (fun k=>if_neg (by simp)) (Ev.step (fun k=>law16_Great.j3.eq_2 (k:=k) ..) (Ev.congr (fun k=>if_neg (by decide)) (Ev.congr (fun k=>if_neg h) (Ev.now _))))),fun e=>by omega⟩
theorem pa_great_l0 (ms:List PMark): ∀(d i:Nat),300 - i=d→i≤300→ ∃b,Ev (fun k=>law16_Great.l0 k (i:Int) ms [] 0) b∧(b=false→ms.length≤260)
  | d, i, hd, hi => by
    obtain ⟨be,hbe,hbl⟩:=pa_great_end ms;have stop:Ev (fun k=>law16_Great.j1 k (i:Int) false ms [] 0) be:=Ev.step (fun k=>law16_Great.j1.eq_2 (k:=k) ..) (Ev.congr (fun k=>if_neg (by decide)) hbe);by_cases h1:(i:Int)<(ms.length:Int);rotate_left
    · exact ⟨be,Ev.step (fun k=>law16_Great.l0.eq_2 (k:=k) ..) (Ev.congr (fun k=>if_neg h1) stop),hbl⟩
    by_cases h2:(i:Int)<300;rotate_left
    · exact ⟨be,Ev.step (fun k=>law16_Great.l0.eq_2 (k:=k) ..) (Ev.congr (fun k=>by rw [if_pos h1,decide_eq_false h2]) stop),hbl⟩
    match d,hd with
    |0,hd=>omega
    | d + 1, hd =>
      have e3:wrap64 ((i:Int)+1)=((i+1:Nat):Int):=by rw [w64 (by omega) (by omega)];rfl
      have main: ∃b,Ev (fun k=>law16_Great.j1 k (i:Int) true ms [] 0) b∧(b=false→ms.length≤260):=by
        by_cases s1:(((rd_T84 ms (i:Int)).f0).size:Int)>100
        · exact ⟨true,Ev.step (fun k=>law16_Great.j1.eq_2 (k:=k) ..) (Ev.congr (fun k=>by rw [if_pos rfl,if_pos (by omega),if_pos h1,if_pos s1]) (Ev.now _)),fun e=>by cases e⟩
        by_cases s2:(((rd_T84 ms (i:Int)).f1).size:Int)>100
        · exact ⟨true,Ev.step (fun k=>law16_Great.j1.eq_2 (k:=k) ..) (Ev.congr (fun k=>by rw [if_pos rfl,if_pos (by omega),if_pos h1,if_neg s1,if_pos s2]) (Ev.now _)),fun e=>by cases e⟩
        obtain ⟨b,hb,hl⟩:=pa_great_l0 ms d (i+1) (by omega) (by omega);exact ⟨b,Ev.step (fun k=>law16_Great.j1.eq_2 (k:=k) ..) (Ev.congr (fun k=>by rw [if_pos rfl,if_pos (by omega),if_pos h1,if_neg s1,if_neg s2,e3]) hb),hl⟩
      obtain ⟨b,hb,hl⟩:=main;exact ⟨b,Ev.step (fun k=>law16_Great.l0.eq_2 (k:=k) ..) (Ev.congr (fun k=>by rw [if_pos h1,decide_eq_true h2]) hb),hl⟩
theorem pa_great (ms:List PMark): ∃b,Ev (fun k=>law16_Great.f k ms [] 0) b∧(b=false→ms.length≤260):=pa_great_l0 ms 300 0 rfl (by omega)
theorem planAll_law (ws:List Want) (m:List PMark) (l:List Item): ∃k,law18_PlanAll.f k ws m l=some true:=by
  refine Ev.rounds ?_;have hstop:Ev (fun k=>law18_PlanAll.j0 k ws m l true) true:=Ev.step (fun k=>law18_PlanAll.j0.eq_2 (k:=k) ..) (Ev.congr (fun k=>if_pos rfl) awake18_ev);unfold law18_PlanAll.f;obtain ⟨g1,h1,k1⟩:=greatW_ev ws;refine Ev.bind h1 ?_
  cases g1 with
  |true=>exact Ev.congr (fun k=>if_pos rfl) hstop
  | false =>
    obtain ⟨hw,hs⟩:=k1 rfl;refine Ev.congr (fun k=>if_neg (by decide)) ?_;obtain ⟨g2,h2,k2⟩:=great_ev l;refine Ev.bind h2 ?_
    cases g2 with
    |true=>exact Ev.congr (fun k=>if_pos rfl) hstop
    | false =>
      have hl:=k2 rfl;refine Ev.congr (fun k=>if_neg (by decide)) ?_;obtain ⟨g3,h3,_⟩:=r10_Right_some l;refine Ev.bind h3 ?_
      cases g3 with
      |false=>exact Ev.congr (fun k=>if_neg (by decide)) hstop
      | true =>
        refine Ev.congr (fun k=>if_pos rfl) ?_;obtain ⟨g4,h4,k4⟩:=pa_great m;refine Ev.bind h4 ?_
        cases g4 with
        |true=>exact Ev.congr (fun k=>if_pos rfl) hstop
        | false =>
          have hm:=k4 rfl;refine Ev.congr (fun k=>if_neg (by decide)) ?_;obtain ⟨g5,h5⟩:=pa_marks (ms:=m) (by omega);refine Ev.bind h5 ?_
          cases g5 with
          |false=>exact hstop
          | true =>
            have hpl:=pa_len ws m l;refine Ev.step (fun k=>law18_PlanAll.j0.eq_2 (k:=k) ..) (Ev.congr (fun k=>if_neg (by decide)) ?_);rw [plan_Steps_ev hs (by omega) (by omega)];simp only [Option.bind_some];refine Ev.bind (r16_Steps_ev ws (by omega) (by omega)) ?_;refine Ev.bind (same_stp _ (by omega)) ?_;rw [pa_num];simp only [Option.bind_some];exact Ev.congr (fun k=>(if_pos trivial).trans (if_pos trivial)) awake18_ev
end Go.Proofs.Ytahidkjncljkaaa.Print
namespace Go.Proofs.Ytahidkjncljkaaa.Pure
open Go.Proofs.Ytahidkjncljkaaa.Print
theorem PlanAll (ws:List S39) (m:List S84) (l:List S79): ∃k,law18_PlanAll.f k ws m l=some true:=planAll_law ws m l
end Go.Proofs.Ytahidkjncljkaaa.Pure

namespace Go.Proofs.Ytahidkjncljkaaa.Head
def signs:List Char:=(List.map Char.ofNat [104,97,114,110,101,115,115,32,52,48,100,98,98,98,100,57,102,99,56,49,51,57,52,102,98,101,100,54,48,53,102,48,101,50,51,100,52,101,50,55,97,52,48,52,98,97,49,55,57,48,56,57,54,99,56,100,54,100,100,54,56,102,97,52,102,101,49,48,50,99,55,57,32,99,117,116,32,97,116,32,100,111,111,114,107,101,101,112,101,114,47,100,111,111,114,107,101,101,112,101,114,108,97,119,49,49,46,87,97,110,116,65,108,108,32,100,111,111,114,107,101,101,112,101,114,47,100,111,111,114,107,101,101,112,101,114,108,97,119,49,49,46,87,97,110,116,77,97,100,101,32,100,111,111,114,107,101,101,112,101,114,47,100,111,111,114,107,101,101,112,101,114,108,97,119,49,49,46,87,97,110,116,84,111,112,32,100,111,111,114,107,101,101,112,101,114,47,100,111,111,114,107,101,101,112,101,114,108,97,119,49,49,46,87,97,110,116,67,105,114,99,108,101,32,100,111,111,114,107,101,101,112,101,114,47,100,111,111,114,107,101,101,112,101,114,108,97,119,49,49,46,87,97,110,116,83,117,109,115,32,100,111,111,114,107,101,101,112,101,114,47,100,111,111,114,107,101,101,112,101,114,108,97,119,49,57,46,84,114,105,97,108,67,117,116,115,32,100,111,111,114,107,101,101,112,101,114,47,100,111,111,114,107,101,101,112,101,114,108,97,119,49,56,46,80,108,97,110,65,108,108,32,100,111,111,114,107,101,101,112,101,114,47,100,111,111,114,107,101,101,112,101,114,108,97,119,49,56,46,80,108,97,110,77,97,100,101,32,100,111,111,114,107,101,101,112,101,114,47,100,111,111,114,107,101,101,112,101,114,108,97,119,49,56,46,80,108,97,110,76,101,97,100,115,32,100,111,111,114,107,101,101,112,101,114,47,100,111,111,114,107,101,101,112,101,114,108,97,119,49,56,46,80,108,97,110,69,109,112,116,121,32,100,111,111,114,107,101,101,112,101,114,47,100,111,111,114,107,101,101,112,101,114,108,97,119,49,56,46,80,108,97,110,79,114,100,101,114,32,100,111,111,114,107,101,101,112,101,114,47,100,111,111,114,107,101,101,112,101,114,108,97,119,49,56,46,80,108,97,110,70,114,101,115,104,32,100,111,111,114,107,101,101,112,101,114,47,100,111,111,114,107,101,101,112,101,114,108,97,119,49,56,46,80,108,97,110,78,111,110,101,32,100,111,111,114,107,101,101,112,101,114,47,100,111,111,114,107,101,101,112,101,114,108,97,119,49,56,46,80,108,97,110,67,108,97,115,104,32,100,111,111,114,107,101,101,112,101,114,47,100,111,111,114,107,101,101,112,101,114,108,97,119,49,56,46,80,108,97,110,87,105,100,101,32,100,111,111,114,107,101,101,112,101,114,47,100,111,111,114,107,101,101,112,101,114,108,97,119,50,51,46,65,112,112,108,121,65,108,108,32,100,111,111,114,107,101,101,112,101,114,47,100,111,111,114,107,101,101,112,101,114,108,97,119,50,51,46,65,112,112,108,121,77,97,100,101,32,100,111,111,114,107,101,101,112,101,114,47,100,111,111,114,107,101,101,112,101,114,108,97,119,50,51,46,65,112,112,108,121,65,103,97,105,110,32,100,111,111,114,107,101,101,112,101,114,47,100,111,111,114,107,101,101,112,101,114,108,97,119,50,51,46,65,112,112,108,121,69,110,100,115])
set_option maxRecDepth 100000 in
theorem word:Try.prog.initOrder=String.ofList signs:=by kernel_rfl
theorem list:Try.prog.initOrder.toList=signs:=by rw [word,String.toList_ofList]
theorem words_app: ∀(w r:List Char),(∀c∈w,c≠Char.ofNat 32)→wordsSigns (w++Char.ofNat 32::r)=w::wordsSigns r
  |[],r,_=>rfl
  | c :: w, r, h => by
    have hc:c≠Char.ofNat 32:=h c (by simp);have ih:=words_app w r (fun d hd=>h d (by simp [hd]))
    show wordsSigns (c::(w++Char.ofNat 32::r))=_
    rw [wordsSigns.eq_3 _ _ (fun q=>hc q),ih]
def w1:List Char:=[Char.ofNat 104,Char.ofNat 97,Char.ofNat 114,Char.ofNat 110,Char.ofNat 101,Char.ofNat 115,Char.ofNat 115]
def w2:List Char:=(List.map Char.ofNat [52,48,100,98,98,98,100,57,102,99,56,49,51,57,52,102,98,101,100,54,48,53,102,48,101,50,51,100,52,101,50,55,97,52,48,52,98,97,49,55,57,48,56,57,54,99,56,100,54,100,100,54,56,102,97,52,102,101,49,48,50,99,55,57])
def w3:List Char:=[Char.ofNat 99,Char.ofNat 117,Char.ofNat 116]
def rest:List Char:=(List.map Char.ofNat [97,116,32,100,111,111,114,107,101,101,112,101,114,47,100,111,111,114,107,101,101,112,101,114,108,97,119,49,49,46,87,97,110,116,65,108,108,32,100,111,111,114,107,101,101,112,101,114,47,100,111,111,114,107,101,101,112,101,114,108,97,119,49,49,46,87,97,110,116,77,97,100,101,32,100,111,111,114,107,101,101,112,101,114,47,100,111,111,114,107,101,101,112,101,114,108,97,119,49,49,46,87,97,110,116,84,111,112,32,100,111,111,114,107,101,101,112,101,114,47,100,111,111,114,107,101,101,112,101,114,108,97,119,49,49,46,87,97,110,116,67,105,114,99,108,101,32,100,111,111,114,107,101,101,112,101,114,47,100,111,111,114,107,101,101,112,101,114,108,97,119,49,49,46,87,97,110,116,83,117,109,115,32,100,111,111,114,107,101,101,112,101,114,47,100,111,111,114,107,101,101,112,101,114,108,97,119,49,57,46,84,114,105,97,108,67,117,116,115,32,100,111,111,114,107,101,101,112,101,114,47,100,111,111,114,107,101,101,112,101,114,108,97,119,49,56,46,80,108,97,110,65,108,108,32,100,111,111,114,107,101,101,112,101,114,47,100,111,111,114,107,101,101,112,101,114,108,97,119,49,56,46,80,108,97,110,77,97,100,101,32,100,111,111,114,107,101,101,112,101,114,47,100,111,111,114,107,101,101,112,101,114,108,97,119,49,56,46,80,108,97,110,76,101,97,100,115,32,100,111,111,114,107,101,101,112,101,114,47,100,111,111,114,107,101,101,112,101,114,108,97,119,49,56,46,80,108,97,110,69,109,112,116,121,32,100,111,111,114,107,101,101,112,101,114,47,100,111,111,114,107,101,101,112,101,114,108,97,119,49,56,46,80,108,97,110,79,114,100,101,114,32,100,111,111,114,107,101,101,112,101,114,47,100,111,111,114,107,101,101,112,101,114,108,97,119,49,56,46,80,108,97,110,70,114,101,115,104,32,100,111,111,114,107,101,101,112,101,114,47,100,111,111,114,107,101,101,112,101,114,108,97,119,49,56,46,80,108,97,110,78,111,110,101,32,100,111,111,114,107,101,101,112,101,114,47,100,111,111,114,107,101,101,112,101,114,108,97,119,49,56,46,80,108,97,110,67,108,97,115,104,32,100,111,111,114,107,101,101,112,101,114,47,100,111,111,114,107,101,101,112,101,114,108,97,119,49,56,46,80,108,97,110,87,105,100,101,32,100,111,111,114,107,101,101,112,101,114,47,100,111,111,114,107,101,101,112,101,114,108,97,119,50,51,46,65,112,112,108,121,65,108,108,32,100,111,111,114,107,101,101,112,101,114,47,100,111,111,114,107,101,101,112,101,114,108,97,119,50,51,46,65,112,112,108,121,77,97,100,101,32,100,111,111,114,107,101,101,112,101,114,47,100,111,111,114,107,101,101,112,101,114,108,97,119,50,51,46,65,112,112,108,121,65,103,97,105,110,32,100,111,111,114,107,101,101,112,101,114,47,100,111,111,114,107,101,101,112,101,114,108,97,119,50,51,46,65,112,112,108,121,69,110,100,115])
theorem parts:signs=w1++Char.ofNat 32::(w2++Char.ofNat 32::(w3++Char.ofNat 32::rest)):=by kernel_rfl
theorem behind: ∃r,behindMainWord (wordsSigns Try.prog.initOrder.toList)=w3::r:=by
 refine ⟨wordsSigns rest, ?_⟩;rw [list,parts,words_app w1 _ (by decide),words_app w2 _ (by decide),words_app w3 _ (by decide)];generalize wordsSigns rest=r
 rfl
theorem strip (r:List (List Char)):stripLifts liftWords (w3::r)=([],w3::r):=by kernel_rfl
theorem not_carried (r:List (List Char)):((w3::r).head?==some "carried".toList)=false:=by kernel_rfl
theorem is_cut (r:List (List Char)):((w3::r).head?==some "cut".toList)=true:=by kernel_rfl
theorem not_gc:(w3== "gc".toList||w3== "spec".toList)=false:=by kernel_rfl
theorem cut_:(w3== "cut".toList)=true:=by kernel_rfl
theorem lifts_of {P:Program} {r:List (List Char)} (h:behindMainWord (wordsSigns P.initOrder.toList)=w3::r):P.liftsFinal=false:=by
 unfold Program.liftsFinal Program.headLifts;simp only [h,strip,not_carried,is_cut,if_true,Bool.false_and,Bool.false_or,List.contains_nil]
theorem make_of {P:Program} {r:List (List Char)} (h:behindMainWord (wordsSigns P.initOrder.toList)=w3::r):P.make=some .cut:=by
 unfold Program.make;simp only [h,not_gc,cut_,Bool.true_or,if_true,Bool.false_eq_true,if_false]
theorem lifts:Try.prog.liftsFinal=false:=by obtain ⟨r,h⟩:=behind;exact lifts_of h
theorem make:Try.prog.make=some .cut:=by obtain ⟨r,h⟩:=behind;exact make_of h
theorem later:Try.prog.laysLater=false:=by kernel_rfl
theorem reflects:Try.prog.bearsReflect=false:=by kernel_rfl
theorem door:Try.prog.doorFits []=true:=by kernel_rfl
theorem may_of {P:Program} {r:List (List Char)} (h:behindMainWord (wordsSigns P.initOrder.toList)=w3::r) (h1:P.laysLater=false) (h2:P.bearsReflect=false) (h3:P.doorFits []=true):P.mayEnter=true:=by
 unfold Program.mayEnter;simp only [h,strip,is_cut,h1,h2,h3,List.contains_nil,Bool.not_false,Bool.or_true,Bool.and_true,Bool.and_self]
theorem mayEnter:Try.prog.mayEnter=true:=by obtain ⟨r,h⟩:=behind;exact may_of h later reflects door
theorem stopsHeard:Try.prog.stopsHeard=true:=by kernel_rfl
theorem laidOut:laidOutB Try.prog=true:=by kernel_rfl
theorem mapsRowed:mapsRowed Try.prog=true:=by kernel_rfl
theorem stops:(Try.prog.stops==[])=true:=by kernel_rfl
theorem stopKnobs:(Try.prog.stopKnobs==[])=true:=by kernel_rfl
end Go.Proofs.Ytahidkjncljkaaa.Head

-- PRINTED WORDS (module Derived/Print/Sized.lean): go-gate-2's, for the rows of laws over slices: an AI agent of Go's test side, Tue Nov 17 2026; no person has read it. Lean checks it.
namespace Go.Proofs.YtahidkjncljkaaaW.PrintWords
open Go.ChangeShapes Go.WideShapes
end Go.Proofs.YtahidkjncljkaaaW.PrintWords
