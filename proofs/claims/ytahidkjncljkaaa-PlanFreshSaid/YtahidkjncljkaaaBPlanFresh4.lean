/- PlanFresh: a part -/
import Derived.WalkSpells
import Derived.Laws.Cover1
import Derived.Shelf.Abstract
import Derived.Lib.SliceRun
import Derived.Lib.JoinLaws
import Derived.Lib.AppendZerosOnto
import Derived.Lib.Overlaps
import Derived.Laws.Externs
import Derived.Laws.IdiomCopy
import Derived.Laws.NewBlocks
import Derived.Deep.RegionLaw
import Derived.Shelf.RegionOpenPlain
import Derived.Test.YtahidkjncljkaaaBPlanFresh0
import Derived.Test.YtahidkjncljkaaaBPlanFresh1
import Derived.Test.YtahidkjncljkaaaBPlanFresh3
set_option linter.unusedVariables false
set_option linter.unusedSimpArgs false
namespace Go.Proofs.Ytahidkjncljkaaa.Print
open Go.RowKit Go.Shelf Go.Sort Go.Proofs.YtahidkjncljkaaaW.PrintWords Go.Proofs.YtahidkjncljkaaaW.PrintLast Go.Proofs.YtahidkjncljkaaaW.PrintMore
def gzero (y:Want):PGoal:=⟨y,zItem,false,⟨0,0,0⟩⟩
def goalOf (l:List Item) (y:Want):PGoal:=match look l y.f0 with
 |some x=>⟨y,x,true,⟨0,0,0⟩⟩
 |none=>gzero y
def itemRow (x:Item):List Value:=[.string x.f0, .string x.f1, .int .i64 x.f2.f0, .int .i64 x.f2.f1, .int .i64 x.f2.f2, .int .i64 x.f3.f0, .int .i64 x.f3.f1, .int .i64 x.f3.f2, .int .i64 x.f4.f0, .int .i64 x.f4.f1, .int .i64 x.f4.f2, .int .i64 x.f5]
theorem itemRow_info:(Try.prog.info? 79).map (·.size)=some 12:=by kernel_rfl
theorem itemRow_one (x:Item): ∀q∈itemRow x,q.oneCell'=true:=by
 intro q hq
 unfold itemRow at hq
 simp only [List.mem_cons,List.not_mem_nil,or_false] at hq
 rcases hq with rfl|rfl|rfl|rfl|rfl|rfl|rfl|rfl|rfl|rfl|rfl|rfl<;>rfl
section
variable {P:Program} {ops:Array Oper} {rest:List Oper} {o:Oper} {a:Act} {Q:Exit→Act→World→Prop} {W:World}
theorem load_run {t:Nat} {ad:Addr} (cs:List Value) (d:TypeDesc) (hu:P.underlying t=some d) (hd:(match d with| .struct _| .array _ _=>true|_=>false)=true) (hi:(P.info? t).map (·.size)=some cs.length) (hc: ∀j v,cs[j]?=some v→W.cell? (ad.add j)=some v):(loadVar t ad).run P W= .ok (.agg cs.toArray) W:=by
  have hl:(loadCells ad cs.length).run P W= .ok cs.toArray W:=run_loadCells_list (P:=P) W ad cs hc
  cases hq:P.info? t with
  |none=>simp [hq] at hi
  | some i =>
    have hs:i.size=cs.length:=by simpa [hq] using hi
    have hagg:(isAgg t).run P W= .ok true W:=by
      unfold isAgg
      rw [Sem.run_bind,run_underlying hu W]
      cases d<;>simp_all
    simp [loadVar,Sem.run_bind,hagg,sizeOf,typeInfo,hq,hs,hl]
theorem load_ad {t:Nat} {ad:Addr} (cs:List Value) (hgd:o.guard=none) (x:Operand) (ho:o.op= .load t x) (hx:a.eval x= .pointer (some ad)) (d:TypeDesc) (hu:P.underlying t=some d) (hd:(match d with| .struct _| .array _ _=>true|_=>false)=true) (hi:(P.info? t).map (·.size)=some cs.length)
  (hc: ∀j v,cs[j]?=some v→W.cell? (ad.add j)=some v) (h:wpList P ops Q rest (a.put o.dst (.agg cs.toArray)) W):wpList P ops Q (o::rest) a W:=by
 have hrun:=load_run (P:=P) (W:=W) cs d hu hd hi hc
 refine wpList_plain hgd fun K hK=> ?_
 unfold Oper.wp execOp
 simp only [ho,hx,Instr.loadAt,Instr.sureAddr,Sem.run_bind,Sem.run_pure,Result.andThen_ok,hrun]
 exact hK _ _ h
theorem load_exec {t g off:Nat} (cs:List Value) (x:Operand) (ho:o.op= .load t x) (hx:a.eval x= .pointer (some ⟨g,off,none⟩)) (d:TypeDesc) (hu:P.underlying t=some d) (hd:(match d with| .struct _| .array _ _=>true|_=>false)=true) (hi:(P.info? t).map (·.size)=some cs.length)
  (hc: ∀j v,cs[j]?=some v→W.cell? ⟨g,off+j,none⟩=some v):(execOp a.eval o).run P W= .ok (.value (.agg cs.toArray)) W:=by
 have hrun:=load_run (P:=P) (W:=W) (ad:=⟨g,off,none⟩) cs d hu hd hi (fun j v hv=>by rw [Addr.add_lit];exact hc j v hv)
 unfold execOp
 simp only [ho,hx,Instr.loadAt,Instr.sureAddr,Sem.run_bind,Sem.run_pure,Result.andThen_ok,hrun]
end
theorem R_elder {α:Type} {d:Kd α} {e base g:Nat} {w w1:World} {v:Value} {xs:List α} (h:d.R e w base (fun _=>True) v xs) (hg:w.grownBy w1 (some g)) (hne:some g≠v.ownBlock) (hE:d.E=[]:=by rfl):d.R e w1 base (fun _=>True) v xs:=
 Kd.R_mono (Kd.R_grown (Kd.R_tight hE h) hg (fun k hk e=>hne (e.symm.trans hk))) (fun _ _=>trivial)
def badW (l:List Item) (ms:List PMark) (y:Want):Bool:=(look l y.f0).isSome && !(ms.any (fun m=>m.f0.toList==y.f0.toList))
def wideOf (l:List Item) (y:Want):Bool:=match look l y.f0 with
 |some x=>x.f1.toList !=y.f1.toList
 |none=>false
def wideP (l:List Item) (ms:List PMark):Bool→List Want→Option Bool
 |b,[]=>some b
 |b,y::ys=>if badW l ms y=true then none else wideP l ms (b||wideOf l y) ys
def PlanIs (ws top:List Want) (ms:List PMark) (l:List Item) (r:List S76) (e:Int):Prop:=
 if checkR ws=0 then (match wideP l ms false top with
  |none=>r=[]∧e=3
  |some wide=>e=0∧ ∃ns,GoneIs ((top.map (goalOf l)).map (upG wide)) ms l ns∧r=(((top.map (goalOf l)).flatMap (raiseG wide)++((top.map (goalOf l)).map (upG wide)).flatMap moveG)++((top.map (goalOf l)).map (upG wide)).reverse.flatMap lowerG)++ns.map delS)
 else r=[]∧e=checkR ws
theorem infoGoal:(Try.prog.info? 141).map (fun i=>(i.zero,i.size,i.bytes))=some (some (.agg #[.string ⟨#[]⟩, .string ⟨#[]⟩, .int .i64 0, .int .i64 0, .int .i64 0, .string ⟨#[]⟩, .string ⟨#[]⟩, .int .i64 0, .int .i64 0, .int .i64 0, .int .i64 0, .int .i64 0, .int .i64 0, .int .i64 0, .int .i64 0, .int .i64 0, .int .i64 0, .bool false, .int .i64 0, .int .i64 0, .int .i64 0]),21,200):=by kernel_rfl
theorem at_item {l:List Item} {w:World} {A:Option Addr} (h:Kd.C k79 w A l.length l) {i:Int} {x:Item} (h0:0≤i) (h1:i<(l.length:Int)) (hx:rd_T79 l i=x): ∃ad,A=some ad∧ ∀j v,(itemRow x)[j]?=some v→w.cell? ((ad.add (i.toNat*12)).add j)=some v:=by
 obtain ⟨ad,c,e,_,hK,hc0⟩:=Kd.C_get h z79 i h0 h1
 have hc: ∀j u,c[j]?=some u→w.cell? (ad.add (i.toNat*12+j))=some u:=hc0
 obtain rfl:=k79_open hK
 subst hx
 refine ⟨ad,e,fun j v hv=> ?_⟩
 rw [add_add]
 exact hc j v hv
set_option maxHeartbeats 8000000 in
set_option maxRecDepth 100000 in
theorem planSteps_raw (Aw:Option Addr) (cw:Nat) (ws:List Want) (Am:Option Addr) (cm:Nat) (ms:List PMark) (Al:Option Addr) (cl:Nat) (l:List Item) (w:World) (hW:Kd.C k39 w Aw ws.length ws) (hcw:ws.length≤cw) (hM:Kd.C k84 w Am ms.length ms) (hcm:ms.length≤cm) (hC:Kd.C k79 w Al l.length l) (hcl:l.length≤cl)
    (hs:smallW ws) (hll:l.length<10000) (hml:ms.length<10000):
    Calls Try.prog 48 #[.slice Aw ws.length cw, .slice Am ms.length cm, .slice Al l.length cl] w fun e w'=> ∃(v:Value) (r:List S76) (q:Int),e= .returned (.tuple #[v, .int .i64 q])∧PlanIs ws (topR ws) ms l r q∧Kd.R k76 76 w' w.heap.size (fun _=>True) v r∧Below w.heap.size w w':=by
  have hu139:=Try.underlying139
  have hu141:=Try.underlying141
  have hu39:=Try.underlying39
  have hu79:=Try.underlying79
  have hu84:=Try.underlying84
  have HW:=Aside0.mk hW
  have HM:=Aside0.mk hM
  have HCM:=Aside0.mk hcm
  have HC:=Aside0.mk hC
  have HCL:=Aside0.mk hcl
  have HLL:=Aside0.mk hll
  have HML:=Aside0.mk hml
  have HS:=Aside0.mk hs
  have HCW:=Aside0.mk hcw
  have HB:=am_ (Below.refl w.heap.size w)
  clear hW hM hcm hC hcl hll hml hs hcw
  obtain ⟨kc,hkc⟩:=want_Check_ev HS.out
  have HCK:=am_ (hkc kc (Nat.le_refl _))
  clear hkc
  by_cases hz:checkR ws=0
  rotate_left
  · have HZ := Aside0.mk hz
    have hb_:(checkR ws !=0)=true:=by simpa using hz
    generalize hck:checkR ws=ck at*
    have HCE:=Aside0.mk hck
    clear hck
    go_enter Try.func48,Try.ntmps48
    go_wp2_with (first
      |(go_at_call 26;refine (want_Check.calls kc Aw cw ws ck _ (Kd.C_below HW.out HB.out) HCW.out HCK.out).mono ?_;rintro e w1 ⟨rfl,hb⟩;have n0_:=am_ (below_step HB.out hb);clear HB hb;have HB:=n0_;clear n0_))
    go_ret2
    refine ⟨_,[],ck,rfl, ?_,Kd.R_nil _ _ _ _ _,HB.out⟩
    unfold PlanIs
    rw [HCE.out,if_neg HZ.out]
    exact ⟨rfl,rfl⟩
  have HZ:=Aside0.mk hz
  have HTR:=am_ (checkR_tree (.inl hz))
  have HTL:=am_ (show (topR ws).length≤120 by rw [(topR_perm ws).length_eq];exact HTR.out.len)
  have HTE:=am_ (want_Top_tree HTR.out HS.out)
  generalize hck:checkR ws=ck at*
  have HCE:=Aside0.mk hck
  clear hck
  subst hz
  go_enter Try.func48,Try.ntmps48
  go_wp2_with (first
    |(go_at_call 26;refine (want_Check.calls kc Aw cw ws 0 _ (Kd.C_below HW.out HB.out) HCW.out HCK.out).mono ?_;rintro e w1 ⟨rfl,hb⟩;have n0_:=am_ (below_step HB.out hb);clear HB hb;have HB:=n0_;clear n0_)
    |((with_reducible refine gate_dst (N:=20) rfl ?_);refine bx_ (N:=20) (cs:=#[.slice none 0 0, .bool false, .slice none 0 0]) (t:=139) ?_;intro b hg w2 hbox hb;have GE:=am_ (show w.heap.size≤b from by rw [hg];exact below_size HB.out);have n0_:=am_ (below_step HB.out hb);have BK:=Aside0.mk hbox;clear HB hb hbox hg;have HB:=n0_;clear n0_)
    |(go_at_call 30;refine (want_Top.calls Aw cw ws (topR ws) _ (Kd.C_below HW.out HB.out) HCW.out HTE.out).mono ?_;rintro e w3 ⟨vt,rfl,ht,hb⟩;have n0_:=am_ (Kd.R_lower ht (below_size HB.out));have n1_:=am_ (blk_below BK.out hb);have n2_:=am_ (below_step HB.out hb);clear HB BK ht hb;have HT:=n0_;have BK:=n1_;have HB:=n2_;clear n0_ n1_ n2_;obtain ⟨At,ct,et⟩:=Kd.R_slice HT.out;subst et))
  clear HTE HTR HCK
  generalize hTE:topR ws=top at HTL HT
  have HTP2:=Aside0.mk hTE
  clear hTE
  go_loopg [24] top.length (fun kq v24 w'=> ∃(pre post:List Want) (u:Value) (wd:Bool),top=pre++post∧kq=post.length∧v24= .int .i64 (pre.length:Int)∧Aside0 (wideP l ms false top=wideP l ms wd post)∧Aside0 (w'.heap[b]?=some (Obj.cells #[u, .bool wd, .slice none 0 0] 139 (0,0)))∧Aside0 (Kd.R k141 141 w' w.heap.size (fun _=>True) u (pre.map (goalOf l)))∧Aside0 (Kd.R k39 39 w' w.heap.size (fun _=>True) (.slice At top.length ct) top)∧Aside0 (Below w.heap.size w w'))
  case atStart=>exact ⟨[],top, .slice none 0 0,false,rfl,rfl,rfl,⟨rfl⟩,BK,⟨Kd.R_nil _ _ _ _ _⟩,HT,HB⟩
  case round=>
    clear BK HT HB
    obtain ⟨pre,post,u,wd,htop,hkq,rfl,HWD,BK,HG,HT,HB⟩:=hrel
    obtain ⟨Au,cu,eu⟩:=Kd.R_slice HG.out
    subst eu
    cases post with
    | nil =>
      have c1:decide ((pre.length:Int)<(top.length:Int))=false:=decide_eq_false (by rw [htop,List.append_nil];omega)
      rw [List.append_nil] at htop
      subst htop
      go_wp2_with (first|(go_at_call 94;refine (planRaise_calls w _ b _ _ wd (top.map (goalOf l)) [] BK.out GE.out HB.out HG.out (Kd.R_nil _ _ _ _ _) (by simp only [List.length_append,List.length_map,List.length_nil,List.length_reverse];have:=HTL.out;have:=HML.out;have h1_:=raiseG_len wd (top.map (goalOf l));have h2_:=moveG_len ((top.map (goalOf l)).map (upG wd));have h3_:=lowerG_len ((top.map (goalOf l)).map (upG wd)).reverse;simp only [List.length_map,List.length_reverse] at h1_ h2_ h3_;omega)).mono ?_;rintro e w31 ⟨rfl,vo1,hbk,hg1,ho1,hb⟩;clear BK HG HB;have BK:=Aside0.mk hbk;have HG:=Aside0.mk hg1;have HO:=Aside0.mk ho1;have HB:=Aside0.mk hb;clear hbk hg1 ho1 hb)|(go_at_call 95;refine (planMove_calls w _ b _ _ wd ((top.map (goalOf l)).map (upG wd)) _ BK.out GE.out HB.out HG.out HO.out (by simp only [List.length_append,List.length_map,List.length_nil,List.length_reverse];have:=HTL.out;have:=HML.out;have h1_:=raiseG_len wd (top.map (goalOf l));have h2_:=moveG_len ((top.map (goalOf l)).map (upG wd));have h3_:=lowerG_len ((top.map (goalOf l)).map (upG wd)).reverse;simp only [List.length_map,List.length_reverse] at h1_ h2_ h3_;omega)).mono ?_;rintro e w32 ⟨rfl,vo1,hbk,hg1,ho1,hb⟩;clear BK HG HB HO;have BK:=Aside0.mk hbk;have HG:=Aside0.mk hg1;have HO:=Aside0.mk ho1;have HB:=Aside0.mk hb;clear hbk hg1 ho1 hb)|(go_at_call 96;refine (planLower_calls w _ b _ _ wd ((top.map (goalOf l)).map (upG wd)) _ BK.out GE.out HB.out HG.out HO.out (by simp only [List.length_append,List.length_map,List.length_nil,List.length_reverse];have:=HTL.out;have:=HML.out;have h1_:=raiseG_len wd (top.map (goalOf l));have h2_:=moveG_len ((top.map (goalOf l)).map (upG wd));have h3_:=lowerG_len ((top.map (goalOf l)).map (upG wd)).reverse;simp only [List.length_map,List.length_reverse] at h1_ h2_ h3_;omega)).mono ?_;rintro e w33 ⟨rfl,vo1,hbk,hg1,ho1,hb⟩;clear BK HG HB HO;have BK:=Aside0.mk hbk;have HG:=Aside0.mk hg1;have HO:=Aside0.mk ho1;have HB:=Aside0.mk hb;clear hbk hg1 ho1 hb)|(go_at_call 97;refine (planDrop_calls w _ b _ _ wd ((top.map (goalOf l)).map (upG wd)) _ Am cm ms Al cl l HM.out HCM.out HC.out HCL.out (by have:=HLL.out;omega) BK.out GE.out HB.out HG.out HO.out (by simp only [List.length_append,List.length_map,List.length_nil,List.length_reverse];have:=HTL.out;have:=HML.out;have h1_:=raiseG_len wd (top.map (goalOf l));have h2_:=moveG_len ((top.map (goalOf l)).map (upG wd));have h3_:=lowerG_len ((top.map (goalOf l)).map (upG wd)).reverse;simp only [List.length_map,List.length_reverse] at h1_ h2_ h3_;omega)).mono ?_;rintro e w34 ⟨rfl,ns,vo1,hgo,hbk,ho1,hb⟩;clear BK HG HB HO;have BK:=Aside0.mk hbk;have HO:=Aside0.mk ho1;have HB:=Aside0.mk hb;have GO:=Aside0.mk hgo;clear hbk ho1 hb hgo;have cb2:=(blk_cell BK.out 2).trans rfl))
      go_ret2
      refine ⟨_,_,0,rfl, ?_,HO.out,HB.out⟩
      have HW2:=HWD.out
      unfold PlanIs
      rw [if_pos HCE.out,HTP2.out,HW2]
      exact ⟨rfl,ns,GO.out,by rw [List.nil_append]⟩
    | cons y post =>
      have hn:top.length=pre.length+(post.length+1):=by rw [htop,List.length_append,List.length_cons]
      have c1:decide ((pre.length:Int)<(top.length:Int))=true:=decide_eq_true (by omega)
      have p6:(0:Int)≤((pre.length:Nat):Int):=by omega
      have q6:((pre.length:Nat):Int)<(top.length:Int):=by omega
      obtain ⟨ad0,e6,k0,k1_,k2,k3,k4⟩:=at_T39 (Kd.R_reads' HT.out).2.2 ((pre.length:Nat):Int) p6 q6
      subst e6
      have em:rd_T39 top ((pre.length:Nat):Int)=y:=by
        rw [rd_want,Int.toNat_natCast,htop,List.getD_eq_getElem?_getD,List.getElem?_append_right (Nat.le_refl _),Nat.sub_self]
        rfl
      rw [em] at k0 k1_ k2 k3 k4
      simp only [Int.toNat_natCast] at k0 k1_ k2 k3 k4
      have HTP:=Aside0.mk htop
      have HKQ:=Aside0.mk hkq
      have HN:=Aside0.mk hn
      clear htop hkq hn em
      replace p6:=eq_true p6
      replace q6:=eq_true q6
      go_upto_if 35 with (first|((with_reducible refine gate_dst (N:=11) rfl ?_);refine bx_ (N:=11) (cs:=#[.string ⟨#[]⟩, .string ⟨#[]⟩, .int .i64 0, .int .i64 0, .int .i64 0]) (t:=39) ?_;intro gb11 hg w11 hbox hb;have NE11_BK:=am_ (show _≠gb11 from by have:=blk_lt BK.out;rw [hg];exact Nat.ne_of_lt this);have OL11_HG:=am_ (show some gb11≠(Value.slice Au (pre.map (goalOf l)).length cu).ownBlock from fun e=>by have q:=Kd.R_lt HG.out gb11 e.symm;rw [hg] at q;exact Nat.lt_irrefl _ q);have OL11_HT:=am_ (show some gb11≠(Value.slice (some ad0) top.length ct).ownBlock from fun e=>by have q:=Kd.R_lt HT.out gb11 e.symm;rw [hg] at q;exact Nat.lt_irrefl _ q);have GE11:=am_ (show w.heap.size≤gb11 from by rw [hg];exact below_size HB.out);replace HG:=am_ (Kd.R_below HG.out hb);replace HT:=am_ (Kd.R_below HT.out hb);replace BK:=am_ (blk_below BK.out hb);replace HB:=am_ (below_step HB.out hb);have B11:=Aside0.mk hbox;clear hbox hb hg)|((with_reducible refine gate_store (t:=39) (p:=11) (v:= .tmp 27) rfl ?_);refine store_all B11.out 39 (.tmp 11) (.tmp 27) rfl rfl rfl (.agg #[.string y.f0, .string y.f1, .int .i64 y.f2.f0, .int .i64 y.f2.f1, .int .i64 y.f2.f2]) [.string y.f0, .string y.f1, .int .i64 y.f2.f0, .int .i64 y.f2.f1, .int .i64 y.f2.f2] rfl rfl rfl (by kernel_rfl) rfl (by intro q hq;simp only [List.mem_cons,List.not_mem_nil,or_false] at hq;rcases hq with rfl|rfl|rfl|rfl|rfl<;>rfl) ?_;intro w112 hbk hg;replace HG:=am_ (R_elder HG.out hg OL11_HG.out);replace HT:=am_ (R_elder HT.out hg OL11_HT.out);replace BK:=am_ (blk_put_other BK.out hg NE11_BK.out);replace HB:=am_ (below_put HB.out (below_size HB.out) hg GE11.out);replace B11:=am_ (hbk);clear hbk hg k0 k1_ k2 k3 k4;have d0:=(blk_cell B11.out 0).trans rfl;have d1:=(blk_cell B11.out 1).trans rfl;have d2:=(blk_cell B11.out 2).trans rfl;have d3:=(blk_cell B11.out 3).trans rfl;have d4:=(blk_cell B11.out 4).trans rfl)|((with_reducible refine gate_dst (N:=12) rfl ?_);refine bx_ (N:=12) (cs:=#[.string ⟨#[]⟩, .string ⟨#[]⟩, .int .i64 0, .int .i64 0, .int .i64 0, .string ⟨#[]⟩, .string ⟨#[]⟩, .int .i64 0, .int .i64 0, .int .i64 0, .int .i64 0, .int .i64 0, .int .i64 0, .int .i64 0, .int .i64 0, .int .i64 0, .int .i64 0, .bool false, .int .i64 0, .int .i64 0, .int .i64 0]) (t:=141) ?_;intro gb12 hg w12 hbox hb;have NE12_BK:=am_ (show _≠gb12 from by have:=blk_lt BK.out;rw [hg];exact Nat.ne_of_lt this);have NE12_B11:=am_ (show _≠gb12 from by have:=blk_lt B11.out;rw [hg];exact Nat.ne_of_lt this);have OL12_HG:=am_ (show some gb12≠(Value.slice Au (pre.map (goalOf l)).length cu).ownBlock from fun e=>by have q:=Kd.R_lt HG.out gb12 e.symm;rw [hg] at q;exact Nat.lt_irrefl _ q);have OL12_HT:=am_ (show some gb12≠(Value.slice (some ad0) top.length ct).ownBlock from fun e=>by have q:=Kd.R_lt HT.out gb12 e.symm;rw [hg] at q;exact Nat.lt_irrefl _ q);have GE12:=am_ (show w.heap.size≤gb12 from by rw [hg];exact below_size HB.out);replace HG:=am_ (Kd.R_below HG.out hb);replace HT:=am_ (Kd.R_below HT.out hb);replace BK:=am_ (blk_below BK.out hb);replace B11:=am_ (blk_below B11.out hb);replace HB:=am_ (below_step HB.out hb);have B12:=Aside0.mk hbox;clear d0 d1 d2 d3 d4;clear hbox hb hg)|((with_reducible refine gate_store (t:=141) (p:=12) (v:= .tmp 29) rfl ?_);refine store_all B12.out 141 (.tmp 12) (.tmp 29) rfl rfl rfl (.agg (goalCells (gzero y)).toArray) (goalCells (gzero y)) rfl rfl rfl goalCells_info rfl (goalCells_one _) ?_;intro w122 hbk hg;replace HG:=am_ (R_elder HG.out hg OL12_HG.out);replace HT:=am_ (R_elder HT.out hg OL12_HT.out);replace BK:=am_ (blk_put_other BK.out hg NE12_BK.out);replace B11:=am_ (blk_put_other B11.out hg NE12_B11.out);replace HB:=am_ (below_put HB.out (below_size HB.out) hg GE12.out);replace B12:=am_ (hbk);clear hbk hg;have d0:=(blk_cell B11.out 0).trans rfl)|(go_at_call 91;refine (tree_Find.calls Al cl l y.f0 (fnd l y.f0) _ (Kd.C_below HC.out HB.out) HCL.out rfl).mono ?_;rintro e w13 ⟨rfl,hb⟩;replace HG:=am_ (Kd.R_below HG.out hb);replace HT:=am_ (Kd.R_below HT.out hb);replace BK:=am_ (blk_below BK.out hb);replace B11:=am_ (blk_below B11.out hb);replace B12:=am_ (blk_below B12.out hb);replace HB:=am_ (below_step HB.out hb);clear hb d0))
      go_cut [] (fun wc=>Aside0 (wc.heap[b]?=some (Obj.cells #[.slice Au (pre.map (goalOf l)).length cu, .bool wd, .slice none 0 0] 139 (0,0)))∧Aside0 (wc.heap[gb11]?=some (Obj.cells #[.string y.f0, .string y.f1, .int .i64 y.f2.f0, .int .i64 y.f2.f1, .int .i64 y.f2.f2] 39 (0,0)))∧Aside0 (wc.heap[gb12]?=some (Obj.cells (goalCells (goalOf l y)).toArray 141 (0,0)))∧Aside0 (Kd.R k141 141 wc w.heap.size (fun _=>True) (.slice Au (pre.map (goalOf l)).length cu) (pre.map (goalOf l)))∧Aside0 (Kd.R k39 39 wc w.heap.size (fun _=>True) (.slice (some ad0) top.length ct) top)∧Aside0 (Below w.heap.size w wc))
      case first=>
        cases hlk:look l y.f0 with
        | none =>
          have HGE:Aside0 (goalOf l y=gzero y):=⟨by unfold goalOf;rw [hlk]⟩
          have c2:decide (0≤fnd l y.f0)=false:=decide_eq_false (Int.not_le.2 (fnd_neg.2 hlk))
          clear hlk
          rw [c2]
          go_wp2_with fail
          go_meet
          case rel=>exact ⟨BK,B11,⟨by rw [HGE.out];exact B12.out⟩,HG,HT,HB⟩
        | some x =>
          have HGE:Aside0 (goalOf l y=⟨y,x,true,⟨0,0,0⟩⟩):=⟨by unfold goalOf;rw [hlk]⟩
          have p8:0≤fnd l y.f0:=fnd_ge.2 ⟨x,hlk⟩
          have q8:=fnd_lt l y.f0
          obtain ⟨ad,ea,hLI⟩:=at_item (Kd.C_below HC.out HB.out) p8 q8 (fnd_rd hlk)
          have LI:=Aside0.mk hLI
          have c2:decide (0≤fnd l y.f0)=true:=decide_eq_true p8
          clear hlk hLI
          subst ea
          rw [c2]
          clear c2
          replace p8:=eq_true p8
          replace q8:=eq_true q8
          go_wp2_with (first|((with_reducible refine gate_dst (N:=39) rfl ?_);refine load_ad (itemRow x) rfl (.tmp 38) rfl (ad:=ad.add ((fnd l y.f0).toNat*12)) rfl _ hu79 rfl itemRow_info LI.out ?_)|((with_reducible refine gate_store (t:=79) (p:=40) (v:= .tmp 39) rfl ?_);refine store_part B12.out 79 (.tmp 40) (.tmp 39) rfl rfl rfl 5 (.agg (itemRow x).toArray) (itemRow x) (goalCells ⟨y,x,false,⟨0,0,0⟩⟩) rfl rfl rfl (by kernel_rfl) (show (17:Nat)≤21 from by decide) ?one rfl ?_;(case one=>first|exact itemRow_one x|(intro q hq;simp only [List.mem_cons,List.not_mem_nil,or_false] at hq;rcases hq with rfl;rfl));intro w40 hbk hg;replace HG:=am_ (R_elder HG.out hg OL12_HG.out);replace HT:=am_ (R_elder HT.out hg OL12_HT.out);replace BK:=am_ (blk_put_other BK.out hg NE12_BK.out);replace B11:=am_ (blk_put_other B11.out hg NE12_B11.out);replace HB:=am_ (below_put HB.out (below_size HB.out) hg GE12.out);replace B12:=am_ (hbk);clear hbk hg)|((with_reducible refine gate_store (t:=4) (p:=41) (v:= .const (.bool true)) rfl ?_);refine store_part B12.out 4 (.tmp 41) (.const (.bool true)) rfl rfl rfl 17 (.bool true) ([.bool true]) (goalCells ⟨y,x,true,⟨0,0,0⟩⟩) rfl rfl rfl (by kernel_rfl) (show (18:Nat)≤21 from by decide) ?one rfl ?_;(case one=>first|exact itemRow_one x|(intro q hq;simp only [List.mem_cons,List.not_mem_nil,or_false] at hq;rcases hq with rfl;rfl));intro w41 hbk hg;replace HG:=am_ (R_elder HG.out hg OL12_HG.out);replace HT:=am_ (R_elder HT.out hg OL12_HT.out);replace BK:=am_ (blk_put_other BK.out hg NE12_BK.out);replace B11:=am_ (blk_put_other B11.out hg NE12_B11.out);replace HB:=am_ (below_put HB.out (below_size HB.out) hg GE12.out);replace B12:=am_ (hbk);clear hbk hg))
          go_meet
          case rel=>exact ⟨BK,B11,⟨by rw [HGE.out];exact B12.out⟩,HG,HT,HB⟩
      case rest=>
        clear BK B11 B12 HG HT HB
        obtain ⟨BK,B11,B12,HG,HT,HB⟩:=hcut
        rename_i hK0
        refine hK0 _ _ ?_
        refine wp_seq_k ?_
        intro K1 hK1
        go_cut [] (fun wc=>Aside0 (badW l ms y=false)∧Aside0 (wc.heap[b]?=some (Obj.cells #[.slice Au (pre.map (goalOf l)).length cu, .bool wd, .slice none 0 0] 139 (0,0)))∧Aside0 (wc.heap[gb12]?=some (Obj.cells (goalCells (goalOf l y)).toArray 141 (0,0)))∧Aside0 (Kd.R k141 141 wc w.heap.size (fun _=>True) (.slice Au (pre.map (goalOf l)).length cu) (pre.map (goalOf l)))∧Aside0 (Kd.R k39 39 wc w.heap.size (fun _=>True) (.slice (some ad0) top.length ct) top)∧Aside0 (Below w.heap.size w wc))
        case first=>
          cases hlk:look l y.f0 with
          | none =>
            have HBD:Aside0 (badW l ms y=false):=⟨by unfold badW;rw [hlk];rfl⟩
            have c17:wc.cell? ⟨gb12,17,none⟩=some (.bool false):=(blk_cell B12.out 17).trans (by unfold goalOf;rw [hlk];rfl)
            clear hlk
            go_wp2_with fail
            go_meet
            case rel=>exact ⟨HBD,BK,B12,HG,HT,HB⟩
          | some x =>
            have c17:wc.cell? ⟨gb12,17,none⟩=some (.bool true):=(blk_cell B12.out 17).trans (by unfold goalOf;rw [hlk];rfl)
            cases hmk:ms.any (fun m=>m.f0.toList==y.f0.toList) with
            | false =>
              have HBD:Aside0 (badW l ms y=true):=⟨by unfold badW;rw [hlk,hmk];rfl⟩
              clear hlk
              go_wp2_with (first|(go_at_call 92;refine (hasMark_calls 93 #[.pointer (some ⟨gb11,0,none⟩)] (fun m=>m.f0.toList==y.f0.toList) (enters_of Try.func93 (by kernel_rfl) rfl) _ (fun W' m hb=>stepsHas_calls W' gb11 y m (blk_below B11.out hb)) Am cm ms (Kd.C_below HM.out HB.out) HCM.out).mono ?_;rintro e w47 ⟨rfl,hb⟩;try rw [hmk];replace HG:=am_ (Kd.R_below HG.out hb);replace HT:=am_ (Kd.R_below HT.out hb);replace BK:=am_ (blk_below BK.out hb);replace B11:=am_ (blk_below B11.out hb);replace B12:=am_ (blk_below B12.out hb);replace HB:=am_ (below_step HB.out hb);clear hb))
              go_ret2
              refine ⟨_,[],3,rfl, ?_,Kd.R_nil _ _ _ _ _,HB.out⟩
              unfold PlanIs
              rw [if_pos HCE.out,HTP2.out,HWD.out]
              unfold wideP
              rw [if_pos HBD.out]
              exact ⟨rfl,rfl⟩
            | true =>
              have HBD:Aside0 (badW l ms y=false):=⟨by unfold badW;rw [hmk,Bool.not_true,Bool.and_false]⟩
              clear hlk
              go_wp2_with (first|(go_at_call 92;refine (hasMark_calls 93 #[.pointer (some ⟨gb11,0,none⟩)] (fun m=>m.f0.toList==y.f0.toList) (enters_of Try.func93 (by kernel_rfl) rfl) _ (fun W' m hb=>stepsHas_calls W' gb11 y m (blk_below B11.out hb)) Am cm ms (Kd.C_below HM.out HB.out) HCM.out).mono ?_;rintro e w47 ⟨rfl,hb⟩;try rw [hmk];replace HG:=am_ (Kd.R_below HG.out hb);replace HT:=am_ (Kd.R_below HT.out hb);replace BK:=am_ (blk_below BK.out hb);replace B11:=am_ (blk_below B11.out hb);replace B12:=am_ (blk_below B12.out hb);replace HB:=am_ (below_step HB.out hb);clear hb))
              go_meet
              case rel=>exact ⟨HBD,BK,B12,HG,HT,HB⟩
        case rest=>
          clear BK B11 B12 HG HT HB
          obtain ⟨HBD,BK,B12,HG,HT,HB⟩:=hcut
          refine hK1 _ _ ?_
          refine wp_seq_k ?_
          intro K2 hK2
          go_cut [] (fun wc=>Aside0 (wc.heap[b]?=some (Obj.cells #[.slice Au (pre.map (goalOf l)).length cu, .bool (wd||wideOf l y), .slice none 0 0] 139 (0,0)))∧Aside0 (wc.heap[gb12]?=some (Obj.cells (goalCells (goalOf l y)).toArray 141 (0,0)))∧Aside0 (Kd.R k141 141 wc w.heap.size (fun _=>True) (.slice Au (pre.map (goalOf l)).length cu) (pre.map (goalOf l)))∧Aside0 (Kd.R k39 39 wc w.heap.size (fun _=>True) (.slice (some ad0) top.length ct) top)∧Aside0 (Below w.heap.size w wc))
          case first=>
            have b1:=(blk_cell BK.out 1).trans rfl
            cases wd with
            | true =>
              go_wp2_with (first|((with_reducible refine gate_store (t:=4) (p:=69) (v:= .tmp 67) rfl ?_);refine store_part BK.out 4 (.tmp 69) (.tmp 67) rfl rfl rfl 1 (.bool true) [.bool true] [.slice Au (pre.map (goalOf l)).length cu, .bool true, .slice none 0 0] rfl rfl rfl (by kernel_rfl) (show (2:Nat)≤3 from by decide) (by intro q hq;simp only [List.mem_cons,List.not_mem_nil,or_false] at hq;rcases hq with rfl;rfl) rfl ?_;intro w69 hbk hg;replace HG:=am_ (R_put HG.out BK.out (by decide) hg);replace HT:=am_ (R_put HT.out BK.out (by decide) hg);replace B12:=am_ (blk_put_other B12.out hg (Ne.symm NE12_BK.out));replace HB:=am_ (below_put HB.out (below_size HB.out) hg GE.out);replace BK:=am_ (hbk);clear hbk hg))
              go_meet
              case rel=>exact ⟨⟨by rw [Bool.true_or];exact BK.out⟩,B12,HG,HT,HB⟩
            | false =>
              cases hlk:look l y.f0 with
              | none =>
                have HWI:Aside0 (wideOf l y=false):=⟨by unfold wideOf;rw [hlk]⟩
                have c17:wc.cell? ⟨gb12,17,none⟩=some (.bool false):=(blk_cell B12.out 17).trans (by unfold goalOf;rw [hlk];rfl)
                clear hlk
                go_wp2_with (first|((with_reducible refine gate_store (t:=4) (p:=69) (v:= .tmp 67) rfl ?_);refine store_part BK.out 4 (.tmp 69) (.tmp 67) rfl rfl rfl 1 (.bool false) [.bool false] [.slice Au (pre.map (goalOf l)).length cu, .bool false, .slice none 0 0] rfl rfl rfl (by kernel_rfl) (show (2:Nat)≤3 from by decide) (by intro q hq;simp only [List.mem_cons,List.not_mem_nil,or_false] at hq;rcases hq with rfl;rfl) rfl ?_;intro w69 hbk hg;replace HG:=am_ (R_put HG.out BK.out (by decide) hg);replace HT:=am_ (R_put HT.out BK.out (by decide) hg);replace B12:=am_ (blk_put_other B12.out hg (Ne.symm NE12_BK.out));replace HB:=am_ (below_put HB.out (below_size HB.out) hg GE.out);replace BK:=am_ (hbk);clear hbk hg))
                go_meet
                case rel=>exact ⟨⟨by rw [Bool.false_or,HWI.out];exact BK.out⟩,B12,HG,HT,HB⟩
              | some x =>
                have c17:wc.cell? ⟨gb12,17,none⟩=some (.bool true):=(blk_cell B12.out 17).trans (by unfold goalOf;rw [hlk];rfl)
                have c6:wc.cell? ⟨gb12,5+1,none⟩=some (.string x.f1):=(blk_cell B12.out 6).trans (by unfold goalOf;rw [hlk];rfl)
                have c1_:wc.cell? ⟨gb12,1,none⟩=some (.string y.f1):=(blk_cell B12.out 1).trans (by unfold goalOf;rw [hlk];rfl)
                cases hne:(x.f1.toList !=y.f1.toList) with
                | true =>
                  have HWI:Aside0 (wideOf l y=true):=⟨by unfold wideOf;rw [hlk];exact hne⟩
                  have hp1:(x.f1.toList==y.f1.toList)=false:=by simpa using hne
                  clear hlk
                  go_wp2_with (first|((with_reducible refine gate_store (t:=4) (p:=69) (v:= .tmp 67) rfl ?_);refine store_part BK.out 4 (.tmp 69) (.tmp 67) rfl rfl rfl 1 (.bool true) [.bool true] [.slice Au (pre.map (goalOf l)).length cu, .bool true, .slice none 0 0] rfl rfl rfl (by kernel_rfl) (show (2:Nat)≤3 from by decide) (by intro q hq;simp only [List.mem_cons,List.not_mem_nil,or_false] at hq;rcases hq with rfl;rfl) rfl ?_;intro w69 hbk hg;replace HG:=am_ (R_put HG.out BK.out (by decide) hg);replace HT:=am_ (R_put HT.out BK.out (by decide) hg);replace B12:=am_ (blk_put_other B12.out hg (Ne.symm NE12_BK.out));replace HB:=am_ (below_put HB.out (below_size HB.out) hg GE.out);replace BK:=am_ (hbk);clear hbk hg))
                  go_meet
                  case rel=>exact ⟨⟨by rw [Bool.false_or,HWI.out];exact BK.out⟩,B12,HG,HT,HB⟩
                | false =>
                  have HWI:Aside0 (wideOf l y=false):=⟨by unfold wideOf;rw [hlk];exact hne⟩
                  have hp1:(x.f1.toList==y.f1.toList)=true:=by simpa using hne
                  clear hlk
                  go_wp2_with (first|((with_reducible refine gate_store (t:=4) (p:=69) (v:= .tmp 67) rfl ?_);refine store_part BK.out 4 (.tmp 69) (.tmp 67) rfl rfl rfl 1 (.bool false) [.bool false] [.slice Au (pre.map (goalOf l)).length cu, .bool false, .slice none 0 0] rfl rfl rfl (by kernel_rfl) (show (2:Nat)≤3 from by decide) (by intro q hq;simp only [List.mem_cons,List.not_mem_nil,or_false] at hq;rcases hq with rfl;rfl) rfl ?_;intro w69 hbk hg;replace HG:=am_ (R_put HG.out BK.out (by decide) hg);replace HT:=am_ (R_put HT.out BK.out (by decide) hg);replace B12:=am_ (blk_put_other B12.out hg (Ne.symm NE12_BK.out));replace HB:=am_ (below_put HB.out (below_size HB.out) hg GE.out);replace BK:=am_ (hbk);clear hbk hg))
                  go_meet
                  case rel=>exact ⟨⟨by rw [Bool.false_or,HWI.out];exact BK.out⟩,B12,HG,HT,HB⟩
          case rest=>
            clear BK B12 HG HT HB
            obtain ⟨BK,B12,HG,HT,HB⟩:=hcut
            have HWD2:Aside0 (wideP l ms false top=wideP l ms (wd||wideOf l y) post):=⟨by rw [HWD.out];show (if badW l ms y=true then none else _)=_;rw [if_neg (by rw [HBD.out];simp)]⟩
            generalize (wd||wideOf l y)=wd2 at BK HWD2
            obtain ⟨z,hz⟩: ∃z,goalOf l y=z:=⟨_,rfl⟩
            have HZ:=Aside0.mk hz
            rw [hz] at B12
            clear hz
            refine hK2 _ _ ?_
            have cb0:=(blk_cell BK.out 0).trans rfl
            replace HG:=am_ (Kd.R_drew HG.out)
            replace HT:=am_ (Kd.R_drew HT.out)
            replace BK:=am_ (blk_drew BK.out)
            replace B12:=am_ (blk_drew B12.out)
            replace HB:=am_ (below_drew1 HB.out)
            refine start_ (n:=11) (S:=fun w'=>w'.cell? ⟨b,0,none⟩=some (.slice Au (pre.map (goalOf l)).length cu)∧w'.heap[gb12]?=some (Obj.cells (goalCells z).toArray 141 (0,0))) (ds:=[10]) (bt_ 11 0) (by kernel_rfl) rfl rfl ⟨(blk_cell BK.out 0).trans rfl,B12.out⟩ (fun hHeld=> ?_)
            generalize wc.drew=w15 at BK HG HT HB B12 hHeld ⊢
            refine pv_ (i:=0) (N:=some 70) (bt_ 11 1) ?_
            refine pv_ (i:=1) (N:=some 71) (bt_ 11 3) ?_
            refine pv_ (i:=2) (N:=some 72) (bt_ 11 7) ?_
            refine pv_ (i:=3) (N:=some 73) (bt_ 11 15) ?_
            refine tv_ (i:=4) (N:=some 74) (bt_ 11 31) hHeld ?_
            refine take_ (i:=5) (N:=some 75) (v:= .agg (goalCells z).toArray) (a':= ?_) (bt_ 11 63) rfl rfl (by kernel_rfl) (fun _ _ _ h=>h) (Or.inl ⟨by rfl, ?_⟩) hHeld ?_ ?_;(rintro w' ⟨s0,s1⟩;exact load_exec (goalCells z) (.tmp 12) rfl (g:=gb12) (off:=0) rfl _ hu141 rfl goalCells_info (fun j v hv=>by rw [Nat.zero_add];exact (blk_cell s1 j).trans (by rw [List.getElem?_toArray];exact hv)));rotate_left;(simp only [Act.put,List.setIfInBounds_toArray,List.set_cons_zero,List.set_cons_succ,i64_w,i32_w];rfl)
            refine one_ (i:=6) (N:=some 76) (bt_ 11 127) rfl rfl (by kernel_rfl) (by decide) (fun K hK=> ?_)
            refine event_step (by rfl) (v:= .slice (some ⟨w15.heap.size,0,none⟩) 1 1) (w1:=w15.alloc (.cells (goalCells z).toArray 141)) ?hr ?_
            (case hr=>exact goalLit_exec z rfl rfl w15)
            refine hK.out _ _ ⟨(World.cell?_alloc_lt _ _ _ (World.block_lt_of_cell? _ _ ((blk_cell BK.out 0).trans rfl))).trans ((blk_cell BK.out 0).trans rfl),blk_alloc B12.out _⟩ (fun hHeld=> ?_)
            clear hK K
            refine norm_ (a':= ?_) ?_ ?_
            rotate_left
            · show Act.put _ (some 76) _ = _
              simp only [Act.put,List.setIfInBounds_toArray,List.set_cons_zero,List.set_cons_succ,i64_w,i32_w]
              rfl
            refine one_ (i:=7) (N:=some 77) (bt_ 11 255) rfl rfl (by kernel_rfl) (by decide) (fun K hK=> ?_)
            refine Kd.R_append_step k141 (w0:=w) w.heap.size (by rfl) (.tmp 74) (.tmp 76) 137 141 (.agg #[.string ⟨#[]⟩, .string ⟨#[]⟩, .int .i64 0, .int .i64 0, .int .i64 0, .string ⟨#[]⟩, .string ⟨#[]⟩, .int .i64 0, .int .i64 0, .int .i64 0, .int .i64 0, .int .i64 0, .int .i64 0, .int .i64 0, .int .i64 0, .int .i64 0, .int .i64 0, .bool false, .int .i64 0, .int .i64 0, .int .i64 0]) 200 rfl Try.underlying137 infoGoal rfl (by decide) (by omega) _ (pre.map (goalOf l)) z (goalCells z) (fun _=>True) (fun _=>False) rfl rfl ?aP (fun _ hk=>hk.elim) (fun _ _=>trivial) (show Kd.R k141 141 w15 w.heap.size (fun _=>True) (.slice Au pre.length cu) (pre.map (goalOf l)) from by have h_:=HG.out;rw [List.length_map] at h_;exact h_) HB.out (below_size HB.out) (by rw [List.length_map];have:=HTL.out;have:=HN.out;omega) ?_
            (case aP=>exact k141_mkM _ _ _ z)
            intro v1 w77 ho hb hg hat
            replace hg:w15.grownBy w77 (Value.slice Au pre.length cu).ownBlock:=hg
            rw [show pre.length=(pre.map (goalOf l)).length from (List.length_map _).symm] at hg
            have OWN: ∀k,(Value.slice Au (pre.map (goalOf l)).length cu).ownBlock=some k→ ∃cells,w15.heap[k]?=some (Obj.cells cells 141 (0,0)):=fun k hk=>by
              obtain ⟨inner,h⟩:=Kd.R_own HG.out
              exact own_typed h k hk
            have n0_:=am_ (blk_row BK.out OWN (by decide) hg)
            have n1_:=am_ (Kd.R_mono (Kd.R_grown (Kd.R_types2 HT.out OWN (by decide)) hg (fun k hk e=>hk e)) (fun _ _=>trivial))
            have n2_:=Aside0.mk ho
            have n3_:=Aside0.mk hb
            have n4_:=am_ (blk_put_other2 B12.out hg (fun e=>OL12_HG.out (by rw [e])))
            clear BK HT HG HB B12 ho hb hat OWN
            have BK:=n0_
            have HT:=n1_
            have HG:=n2_
            have HB:=n3_
            have B12:=n4_
            clear n0_ n1_ n2_ n3_ n4_
            obtain ⟨A1,c1,e1⟩:=Kd.R_slice HG.out
            subst e1
            refine hK.out _ _ ⟨(blk_cell BK.out 0).trans rfl,B12.out⟩ (fun hHeld=> ?_)
            clear hK K hg
            refine norm_ (a':= ?_) ?_ ?_
            rotate_left
            · show Act.put _ (some 77) _ = _
              simp only [Act.put,List.setIfInBounds_toArray,List.set_cons_zero,List.set_cons_succ,i64_w,i32_w]
              rfl
            refine pv_ (i:=8) (N:=some 78) (bt_ 11 511) ?_
            refine pv_ (i:=9) (N:=some 79) (bt_ 11 1023) ?_
            refine last_ (i:=10) (N:=none) (bt_ 11 2047) rfl rfl (by kernel_rfl) (by decide) (fun K hK=> ?_)
            refine store_part_step BK.out (by rfl) 137 (.tmp 79) (.tmp 77) rfl rfl 0 (.slice A1 (pre.map (goalOf l)++ [z]).length c1) [.slice A1 (pre.map (goalOf l)++ [z]).length c1] [.slice A1 (pre.map (goalOf l)++ [z]).length c1, .bool wd2, .slice none 0 0] rfl rfl rfl (by kernel_rfl) (show (1:Nat)≤3 from by decide) (by intro q hq;simp only [List.mem_cons,List.not_mem_nil,or_false] at hq;rcases hq with rfl;rfl) rfl ?_
            intro w78 hbk hg
            have n0_:=am_ (R_put HG.out BK.out (by decide) hg)
            have n1_:=am_ (below_put HB.out (below_size HB.out) hg GE.out)
            have n2_:=am_ (R_put HT.out BK.out (by decide) hg)
            have n3_:=Aside0.mk hbk
            clear HG HB HT BK hbk hg B12
            have HG:=n0_
            have HB:=n1_
            have HT:=n2_
            have BK:=n3_
            clear n0_ n1_ n2_ n3_
            refine hK.out _ _ ?_
            clear hK K hHeld
            refine done_ (by kernel_rfl) ?_
            go_wp2_with fail
            go_roundg post.length
            case measure=>have:=HKQ.out;rw [this,List.length_cons];omega
            case rel=>exact ⟨pre++ [y],post,_,wd2,by rw [HTP.out,List.append_assoc];rfl,rfl,by rw [List.length_append,List.length_singleton,nx_nat (n:=top.length) (by have:=HN.out;omega) (by have:=HTL.out;omega)],HWD2,BK,⟨by rw [List.map_append];show Kd.R _ _ _ _ _ _ (_++ [goalOf l y]);rw [HZ.out];exact HG.out⟩,HT,HB⟩
end Go.Proofs.Ytahidkjncljkaaa.Print

namespace Go.Proofs.Ytahidkjncljkaaa.Print
open Go.RowKit Go.Proofs.YtahidkjncljkaaaW.PrintWords Go.Proofs.YtahidkjncljkaaaW.PrintLast Go.Proofs.YtahidkjncljkaaaW.PrintMore
attribute [local go_sem] max2_int min2_int max_two min_two max_three min_three max_four min_four

noncomputable def plan_Steps.f (l0:List (S39)) (l1:List (S84)) (l2:List (S79)):Option (List (S76)×Int):=open Classical in if h:(smallW l0∧l2.length<10000∧l1.length<10000)∧ ∃p:List (S76)×Int,PlanIs l0 (topR l0) l1 l2 p.1 p.2∧ ∀q:List (S76)×Int,PlanIs l0 (topR l0) l1 l2 q.1 q.2→q=p then some h.2.choose else none
theorem plan_Steps.calls (A0:Option Addr) (c0:Nat) (l0:List (S39)) (A1:Option Addr) (c1:Nat) (l1:List (S84)) (A2:Option Addr) (c2:Nat) (l2:List (S79)) (r1:List (S76)) (r2:Int) (w:World) (hr0:Kd.C k39 w A0 l0.length l0) (hc0:l0.length≤c0) (hr1:Kd.C k84 w A1 l1.length l1) (hc1:l1.length≤c1) (hr2:Kd.C k79 w A2 l2.length l2) (hc2:l2.length≤c2) (h:plan_Steps.f l0 l1 l2=some (r1,r2)):
    Calls Try.prog 48 #[.slice A0 l0.length c0, .slice A1 l1.length c1, .slice A2 l2.length c2] w fun e w'=> ∃v0_:Value,e= .returned (.tuple #[v0_, .int .i64 r2])∧Kd.R k76 76 w' w.heap.size (fun _=>True) v0_ r1∧Below w.heap.size w w':=by
  unfold plan_Steps.f at h
  split at h
  rotate_left
  · cases h


  rename_i hh
  have UQ: ∀q:List (S76)×Int,PlanIs l0 (topR l0) l1 l2 q.1 q.2→q=(r1,r2):=by
    have q:=Option.some.inj h
    rw [←q]
    exact hh.2.choose_spec.2
  obtain ⟨⟨hs,hl,hm⟩,_⟩:=hh
  refine (planSteps_raw A0 c0 l0 A1 c1 l1 A2 c2 l2 w hr0 hc0 hr1 hc1 hr2 hc2 hs hl hm).mono ?_
  rintro e w' ⟨v,r,q,rfl,hp,ho,hb⟩
  have e:=UQ (r,q) hp
  injection e with e1 e2
  subst e1 e2
  exact ⟨v,rfl,ho,hb⟩
mutual
def law11_Make.l0:Nat→List Int→Bool→List (S39)→List Int→Int→Option ((List (S39)))
 |0,_,_,_,_,_=>none
 |k+1,x0,x1,x5,x6,x7=>if (wrap64 (x7+1))<(x0.length:Int) then (law11_Make.j1 k x0 x1 x5 x6 x7 (decide ((x5.length:Int)<24))) else (law11_Make.j1 k x0 x1 x5 x6 x7 false)
def law11_Make.j1:Nat→List Int→Bool→List (S39)→List Int→Int→Bool→Option ((List (S39)))
 |0,_,_,_,_,_,_=>none
 |k+1,x0,x1,x5,x6,x7,x23=>if x23=true then (if 0≤x7 then (if x7<(x0.length:Int) then ((some (([(wrap64 (97+(Int.tmod (wrap64 ((x5.length:Int)*7)) 24))) % 256]:List Int):List Int)).bind fun y5=>(if (x5.length:Int)>0 then (law11_Make.j2 k x0 x1 x5 x6 x7 (x5.length:Int) (wrap64 (rd x0 x7)) 4096 (decide ((Int.tmod (wrap64 (rd x0 x7)) 3)>0)) (strOfNums y5) (⟨#[]⟩:ByteArray) 4096 4096 4096) else (law11_Make.j2 k x0 x1 x5 x6 x7 (x5.length:Int) (wrap64 (rd x0 x7)) 4096 false (strOfNums y5) (⟨#[]⟩:ByteArray) 4096 4096 4096))) else (none)) else (none)) else (some x5)
def law11_Make.j2:Nat→List Int→Bool→List (S39)→List Int→Int→Int→Int→Int→Bool→ByteArray→ByteArray→Int→Int→Int→Option ((List (S39)))
 |0,_,_,_,_,_,_,_,_,_,_,_,_,_,_=>none
 |k+1,x0,x1,x5,x6,x7,x8,x9,x11,x48,x9000,x9001,x9002,x9003,x9004=>if x48=true then (if x8=0 then (none) else (if 0≤(Int.tmod (wrap64 (Int.tdiv x9 3)) x8) then (if (Int.tmod (wrap64 (Int.tdiv x9 3)) x8)<(x5.length:Int) then (if (Int.tmod (wrap64 (Int.tdiv x9 3)) x8)<(x6.length:Int) then ((some (x6.set ((Int.tmod (wrap64 (Int.tdiv x9 3)) x8):Int).toNat (wrap64 ((rd x6 (Int.tmod (wrap64 (Int.tdiv x9 3)) x8)) - (wrap64 (Int.tdiv (rd x6 (Int.tmod (wrap64 (Int.tdiv x9 3)) x8)) 2)))):List Int)).bind fun y12=>(if x1=true then (if 0≤(wrap64 (x7+1)) then (if (wrap64 (x7+1))<(x0.length:Int) then (if (Int.tmod (rd x0 (wrap64 (x7+1))) 16)=0 then (if x5.length<2513169434916 then (if y12.length<17592186044416 then (law11_Make.l0 k x0 x1 (x5++ [(⟨x9000,(rd_T39 x5 (Int.tmod (wrap64 (Int.tdiv x9 3)) x8)).f0,(⟨wrap64 ((wrap64 ((wrap64 (Int.tdiv (rd x6 (Int.tmod (wrap64 (Int.tdiv x9 3)) x8)) 2))*2))+1),wrap64 ((wrap64 ((wrap64 (Int.tdiv (rd x6 (Int.tmod (wrap64 (Int.tdiv x9 3)) x8)) 2))*2))+1),wrap64 ((wrap64 ((wrap64 ((wrap64 (Int.tdiv (rd x6 (Int.tmod (wrap64 (Int.tdiv x9 3)) x8)) 2))*2))+1)) - (wrap64 ((wrap64 (Int.tdiv (wrap64 ((wrap64 ((wrap64 (Int.tdiv (rd x6 (Int.tmod (wrap64 (Int.tdiv x9 3)) x8)) 2))*2))+1)) 3))*(wrap64 (Int.tmod (rd x0 (wrap64 (x7+1))) 2)))))⟩:S37)⟩:S39)]) (y12++ [wrap64 ((wrap64 ((wrap64 ((wrap64 (Int.tdiv (rd x6 (Int.tmod (wrap64 (Int.tdiv x9 3)) x8)) 2))*2))+1)) - (wrap64 (Int.tdiv (wrap64 ((wrap64 ((wrap64 (Int.tdiv (rd x6 (Int.tmod (wrap64 (Int.tdiv x9 3)) x8)) 2))*2))+1)) 3)))]) (wrap64 (x7+2))) else (none)) else (none)) else (if x5.length<2513169434916 then (if y12.length<17592186044416 then (law11_Make.l0 k x0 x1 (x5++ [(⟨x9000,(rd_T39 x5 (Int.tmod (wrap64 (Int.tdiv x9 3)) x8)).f0,(⟨wrap64 (Int.tdiv (rd x6 (Int.tmod (wrap64 (Int.tdiv x9 3)) x8)) 2),wrap64 (Int.tdiv (rd x6 (Int.tmod (wrap64 (Int.tdiv x9 3)) x8)) 2),wrap64 ((wrap64 (Int.tdiv (rd x6 (Int.tmod (wrap64 (Int.tdiv x9 3)) x8)) 2)) - (wrap64 ((wrap64 (Int.tdiv (wrap64 (Int.tdiv (rd x6 (Int.tmod (wrap64 (Int.tdiv x9 3)) x8)) 2)) 3))*(wrap64 (Int.tmod (rd x0 (wrap64 (x7+1))) 2)))))⟩:S37)⟩:S39)]) (y12++ [wrap64 ((wrap64 (Int.tdiv (rd x6 (Int.tmod (wrap64 (Int.tdiv x9 3)) x8)) 2)) - (wrap64 (Int.tdiv (wrap64 (Int.tdiv (rd x6 (Int.tmod (wrap64 (Int.tdiv x9 3)) x8)) 2)) 3)))]) (wrap64 (x7+2))) else (none)) else (none))) else (none)) else (none)) else (if 0≤(wrap64 (x7+1)) then (if (wrap64 (x7+1))<(x0.length:Int) then (if x5.length<2513169434916 then (if y12.length<17592186044416 then (law11_Make.l0 k x0 x1 (x5++ [(⟨x9000,(rd_T39 x5 (Int.tmod (wrap64 (Int.tdiv x9 3)) x8)).f0,(⟨wrap64 (Int.tdiv (rd x6 (Int.tmod (wrap64 (Int.tdiv x9 3)) x8)) 2),wrap64 (Int.tdiv (rd x6 (Int.tmod (wrap64 (Int.tdiv x9 3)) x8)) 2),wrap64 ((wrap64 (Int.tdiv (rd x6 (Int.tmod (wrap64 (Int.tdiv x9 3)) x8)) 2)) - (wrap64 ((wrap64 (Int.tdiv (wrap64 (Int.tdiv (rd x6 (Int.tmod (wrap64 (Int.tdiv x9 3)) x8)) 2)) 3))*(wrap64 (Int.tmod (rd x0 (wrap64 (x7+1))) 2)))))⟩:S37)⟩:S39)]) (y12++ [wrap64 ((wrap64 (Int.tdiv (rd x6 (Int.tmod (wrap64 (Int.tdiv x9 3)) x8)) 2)) - (wrap64 (Int.tdiv (wrap64 (Int.tdiv (rd x6 (Int.tmod (wrap64 (Int.tdiv x9 3)) x8)) 2)) 3)))]) (wrap64 (x7+2))) else (none)) else (none)) else (none)) else (none)))) else (none)) else (none)) else (none))) else (if x1=true then (if 0≤(wrap64 (x7+1)) then (if (wrap64 (x7+1))<(x0.length:Int) then (if (Int.tmod (rd x0 (wrap64 (x7+1))) 16)=0 then (if x5.length<2513169434916 then (if x6.length<17592186044416 then (law11_Make.l0 k x0 x1 (x5++ [(⟨x9000,x9001,(⟨wrap64 ((wrap64 (x11*2))+1),wrap64 ((wrap64 (x11*2))+1),wrap64 ((wrap64 ((wrap64 (x11*2))+1)) - (wrap64 ((wrap64 (Int.tdiv (wrap64 ((wrap64 (x11*2))+1)) 3))*(wrap64 (Int.tmod (rd x0 (wrap64 (x7+1))) 2)))))⟩:S37)⟩:S39)]) (x6++ [wrap64 ((wrap64 ((wrap64 (x11*2))+1)) - (wrap64 (Int.tdiv (wrap64 ((wrap64 (x11*2))+1)) 3)))]) (wrap64 (x7+2))) else (none)) else (none)) else (if x5.length<2513169434916 then (if x6.length<17592186044416 then (law11_Make.l0 k x0 x1 (x5++ [(⟨x9000,x9001,(⟨x11,x11,wrap64 (x11 - (wrap64 ((wrap64 (Int.tdiv x11 3))*(wrap64 (Int.tmod (rd x0 (wrap64 (x7+1))) 2)))))⟩:S37)⟩:S39)]) (x6++ [wrap64 (x11 - (wrap64 (Int.tdiv x11 3)))]) (wrap64 (x7+2))) else (none)) else (none))) else (none)) else (none)) else (if 0≤(wrap64 (x7+1)) then (if (wrap64 (x7+1))<(x0.length:Int) then (if x5.length<2513169434916 then (if x6.length<17592186044416 then (law11_Make.l0 k x0 x1 (x5++ [(⟨x9000,x9001,(⟨x11,x11,wrap64 (x11 - (wrap64 ((wrap64 (Int.tdiv x11 3))*(wrap64 (Int.tmod (rd x0 (wrap64 (x7+1))) 2)))))⟩:S37)⟩:S39)]) (x6++ [wrap64 (x11 - (wrap64 (Int.tdiv x11 3)))]) (wrap64 (x7+2))) else (none)) else (none)) else (none)) else (none)))
end
def law11_Make.f (k:Nat) (l0:List Int) (a1:Bool):Option ((List (S39))):=law11_Make.l0 k l0 a1 ([]:List (S39)) (([]:List Int)) 0
theorem law11_Make.mono_l: ∀k,(∀y0 y1 y2 y3 y4,LeO (law11_Make.l0 k y0 y1 y2 y3 y4) (law11_Make.l0 (k+1) y0 y1 y2 y3 y4))∧(∀y0 y1 y2 y3 y4 y5,LeO (law11_Make.j1 k y0 y1 y2 y3 y4 y5) (law11_Make.j1 (k+1) y0 y1 y2 y3 y4 y5))∧(∀y0 y1 y2 y3 y4 y5 y6 y7 y8 y9 y10 y11 y12 y13,LeO (law11_Make.j2 k y0 y1 y2 y3 y4 y5 y6 y7 y8 y9 y10 y11 y12 y13) (law11_Make.j2 (k+1) y0 y1 y2 y3 y4 y5 y6 y7 y8 y9 y10 y11 y12 y13))
 |0=>⟨fun _ _ _ _ _ r h=>by simp [law11_Make.l0] at h,fun _ _ _ _ _ _ r h=>by simp [law11_Make.j1] at h,fun _ _ _ _ _ _ _ _ _ _ _ _ _ _ r h=>by simp [law11_Make.j2] at h⟩
 |k+1=>by
  obtain ⟨ih0,ih1,ih2⟩:=law11_Make.mono_l k
  refine ⟨?_, ?_, ?_⟩
  ·intro y0 y1 y2 y3 y4
   unfold law11_Make.l0
   repeat' first
   |(with_reducible exact ih0 _ _ _ _ _)
   |(with_reducible exact ih1 _ _ _ _ _ _)
   |(with_reducible exact ih2 _ _ _ _ _ _ _ _ _ _ _ _ _ _)
   |(with_reducible exact LeO.refl _)
   |(with_reducible exact LeO.none _)
   |(with_reducible refine LeO.ite ?_ ?_)
   |(with_reducible refine LeO.bind ?_ (fun _=> ?_))
   |exact ih0 _ _ _ _ _
   |exact ih1 _ _ _ _ _ _
   |exact ih2 _ _ _ _ _ _ _ _ _ _ _ _ _ _
   |exact LeO.none _
   |refine LeO.ite ?_ ?_
   |refine LeO.bind ?_ (fun _=> ?_)
  ·intro y0 y1 y2 y3 y4 y5
   unfold law11_Make.j1
   repeat' first
   |(with_reducible exact ih0 _ _ _ _ _)
   |(with_reducible exact ih1 _ _ _ _ _ _)
   |(with_reducible exact ih2 _ _ _ _ _ _ _ _ _ _ _ _ _ _)
   |(with_reducible exact LeO.refl _)
   |(with_reducible exact LeO.none _)
   |(with_reducible refine LeO.ite ?_ ?_)
   |(with_reducible refine LeO.bind ?_ (fun _=> ?_))
   |exact ih0 _ _ _ _ _
   |exact ih1 _ _ _ _ _ _
   |exact ih2 _ _ _ _ _ _ _ _ _ _ _ _ _ _
   |exact LeO.none _
   |refine LeO.ite ?_ ?_
   |refine LeO.bind ?_ (fun _=> ?_)
  intro y0 y1 y2 y3 y4 y5 y6 y7 y8 y9 y10 y11 y12 y13
  unfold law11_Make.j2
  repeat' first
  |(with_reducible exact ih0 _ _ _ _ _)
  |(with_reducible exact ih1 _ _ _ _ _ _)
  |(with_reducible exact ih2 _ _ _ _ _ _ _ _ _ _ _ _ _ _)
  |(with_reducible exact LeO.refl _)
  |(with_reducible exact LeO.none _)
  |(with_reducible refine LeO.ite ?_ ?_)
  |(with_reducible refine LeO.bind ?_ (fun _=> ?_))
  |exact ih0 _ _ _ _ _
  |exact ih1 _ _ _ _ _ _
  |exact ih2 _ _ _ _ _ _ _ _ _ _ _ _ _ _
  |exact LeO.none _
  |refine LeO.ite ?_ ?_
  |refine LeO.bind ?_ (fun _=> ?_)
theorem law11_Make.mono: ∀a0 a1 k,LeO (law11_Make.f k a0 a1) (law11_Make.f (k+1) a0 a1):=by
 intro a0 a1 k
 obtain ⟨ih0,ih1,ih2⟩:=law11_Make.mono_l k
 unfold law11_Make.f
 repeat' first
  |(with_reducible exact ih0 _ _ _ _ _)
  |(with_reducible exact ih1 _ _ _ _ _ _)
  |(with_reducible exact ih2 _ _ _ _ _ _ _ _ _ _ _ _ _ _)
  |(with_reducible exact LeO.refl _)
  |(with_reducible exact LeO.none _)
  |(with_reducible refine LeO.ite ?_ ?_)
  |(with_reducible refine LeO.bind ?_ (fun _=> ?_))
  |exact ih0 _ _ _ _ _
  |exact ih1 _ _ _ _ _ _
  |exact ih2 _ _ _ _ _ _ _ _ _ _ _ _ _ _
  |exact LeO.none _
  |refine LeO.ite ?_ ?_
  |refine LeO.bind ?_ (fun _=> ?_)
theorem lm_E1:wrap64 ((wrap64 (4096*2))+1)=8193:=by unfold wrap64;rfl
theorem lm_E2:wrap64 (Int.tdiv 8193 3)=2731:=by unfold wrap64;rfl
theorem lm_E3:wrap64 (8193 - 2731)=5462:=by unfold wrap64;rfl
theorem lm_E4:wrap64 (Int.tdiv 4096 3)=1365:=by unfold wrap64;rfl
theorem lm_E5:wrap64 (4096 - 1365)=2731:=by unfold wrap64;rfl
set_option maxHeartbeats 8000000 in
set_option maxRecDepth 100000 in
theorem law11_Make.calls (k:Nat) (A0:Option Addr) (c0:Nat) (l0:List Int) (a1:Bool) (r:List (S39)) (w:World) (hr0:Kd.C (Kd.int .u8) w A0 l0.length l0) (hc0:l0.length≤c0) (h:law11_Make.f k l0 a1=some r):
  Calls Try.prog 32 #[.slice A0 l0.length c0, .bool a1] w fun e w'=> ∃v0_:Value,e= .returned (v0_)∧Kd.R k39 39 w' w.heap.size (fun _=>True) v0_ r∧Below w.heap.size w w':=by
 have HR0:=Aside0.mk hr0
 clear hr0 hc0
 have HB:=am_ (Below.refl w.heap.size w)
 have H:(law11_Make.l0 k l0 a1 ([]:List (S39)) (([]:List Int)) 0)=some r:=h
 clear h
 obtain ⟨y1,hy1⟩: ∃y_:List Int,y_=(([]:List Int)):=⟨_,rfl⟩
 replace H:(law11_Make.l0 k l0 a1 ([]:List (S39)) y1 0)=some r:=by first|(rw [hy1];with_reducible exact H)|(have H2_:=(Option.bind_some _ _).symm.trans H;rw [hy1];with_reducible exact H2_)|(have H2_:=(Option.bind_some _ _).symm.trans H;with_reducible exact H2_)|with_reducible exact H|(rw [hy1];exact H)|exact H
 have Ny1:=Aside0.mk hy1
 clear hy1
 have H':=Aside0.mk H
 clear H
 go_enter Try.func32,Try.ntmps32
 go_wp2_with ((with_reducible refine gate_dst (N:=13) rfl ?_);(try (refine gate_guard (by rfl) ?_;dsimp only));refine Kd.R_lit (Kd.int .i64) _ 3 ?hg (N:=13) ?hd (xs:=([]:List Int)) (inner:=[]) (ok:=fun _=>True) (okp:=fun _=>True) ?hr ?hp (fun _ hk=>hk) trivial (Below.refl _ _) (Nat.le_refl _) (by simp) ?_;(case hd=>rfl);(case hg=>rfl);(case hr=>first|(go_simp;done)|(go_simp;rfl));(case hp=>exact (Reps.none _ _));intro v2 w3 ho4 hb hg_ hnew_;clear hg_ hnew_;(first|rw [←Ny1.out] at ho4|(simp only [Int.reduceToNat] at ho4;rw [←Ny1.out] at ho4));have HO3:=am_ (Kd.R_lower ho4 (below_size (zl0_ HB)));replace HB:=am_ (below_step (zl0_ HB) hb);clear hb ho4)
 repeat (go_quiet (fail);try go_wp2_with fail)
 go_loopg [5,6,7] k (fun kq v5 v6 v7 w'=> ∃(x5_1:List (S39)) (x6_1:List Int) (x7_1:Int),v7= .int .i64 x7_1∧Aside0 (law11_Make.l0 kq l0 a1 x5_1 x6_1 x7_1=some r)∧Aside0 (kq≤k)∧Aside0 (Kd.R k39 39 w' w.heap.size (fun _=>True) v5 x5_1)∧Aside0 (Kd.R (Kd.int .i64) 3 w' w.heap.size (fun _=>True) v6 x6_1)∧Aside0 (Below w.heap.size w w'))
 case atStart=>exact ⟨(([]:List (S39))),(y1),(0),(by first|rfl|(simp;done)|(simp [*];done)),H',⟨Nat.le_refl _⟩,⟨by first|exact Kd.R_nil _ _ _ _ _|exact Kd.N_nil _ _ _ _ _|exact Kd.V_nil _ _ _ _ _|exact Kd.Q_nil _ _ _ _ _|exact Kd.S_nil _ _ _ _ _⟩,⟨by (with_reducible repeat (first|apply Kd.R_alloc|apply Kd.R_drewN|apply Kd.R_drew));exact HO3.out⟩,⟨zl0_ HB⟩⟩
 case round=>
  clear H'
  try clear p2
  try clear c3
  obtain ⟨x5_1,x6_1,x7_1,rfl,HA,HK1,HO_5,HO_6,HB⟩:=hrel
  cases gk with
  |zero=>exact absurd HA.out (by simp [law11_Make.l0])
  |succ k1=>
   have H:=HA.out
   clear HA
   simp only [law11_Make.l0] at H
   have HC5:=Aside0.mk H
   clear H
   go_upto_region 4 with (fail)
   repeat (go_quiet (fail);go_upto_region 4 with (fail))
   go_cut [23] (fun v23 wc=> ∃(kq:Nat) (x23_4:Bool),v23= .bool x23_4∧Aside0 (law11_Make.j1 kq l0 a1 x5_1 x6_1 x7_1 x23_4=some r)∧Aside0 (kq≤k1)∧Aside0 (Kd.R k39 39 wc w.heap.size (fun _=>True) u5 x5_1)∧Aside0 (Kd.R (Kd.int .i64) 3 wc w.heap.size (fun _=>True) u6 x6_1)∧Aside0 (Below w.heap.size w wc))
   case first=>
    have H:=HC5.out
    clear HC5
    by_cases c6:(wrap64 (x7_1+1))<(l0.length:Int)
    rotate_left
    ·rw [if_neg c6] at H
     have c6b0:decide ((wrap64 (x7_1+1))<(l0.length:Int))=false:=decide_eq_false c6
     clear c6
     (first|rw [c6b0]|(simp only [i64_w,i32_w];rw [c6b0])|skip)
     have H':=Aside0.mk H
     clear H
     go_wp2
     repeat (go_quiet (fail);try go_wp2)
     go_meet
     case rel=>exact ⟨_,(false),(by first|rfl|(simp;done)|(simp [*];done)),H',⟨by have:=HK1.out;first|omega|exact Nat.le_refl _⟩,⟨by (with_reducible repeat (first|apply Kd.R_alloc|apply Kd.R_drewN|apply Kd.R_drew));exact HO_5.out⟩,⟨by (with_reducible repeat (first|apply Kd.R_alloc|apply Kd.R_drewN|apply Kd.R_drew));exact HO_6.out⟩,⟨zl0_ HB⟩⟩
    rw [if_pos c6] at H
    have c6b0:decide ((wrap64 (x7_1+1))<(l0.length:Int))=true:=decide_eq_true c6
    clear c6
    (first|rw [c6b0]|(simp only [i64_w,i32_w];rw [c6b0])|skip)
    have H':=Aside0.mk H
    clear H
    obtain ⟨Ao7,co7,eo7⟩:=Kd.R_slice HO_5.out
    subst eo7
    go_wp2
    repeat (go_quiet (fail);try go_wp2)
    go_meet
    case rel=>exact ⟨_,(decide ((x5_1.length:Int)<24)),(by first|rfl|(simp;done)|(simp [*];done)),H',⟨by have:=HK1.out;first|omega|exact Nat.le_refl _⟩,⟨by (with_reducible repeat (first|apply Kd.R_alloc|apply Kd.R_drewN|apply Kd.R_drew));exact HO_5.out⟩,⟨by (with_reducible repeat (first|apply Kd.R_alloc|apply Kd.R_drewN|apply Kd.R_drew));exact HO_6.out⟩,⟨zl0_ HB⟩⟩
   case rest=>
    clear HC5
    try clear p2
    try clear c3
    try clear c6
    try clear c6b0
    try clear p6
    try clear p2
    obtain ⟨kq,x23_4,rfl,HA,HJ4,HO_5,HO_6,HB⟩:=hcut
    cases kq with
    |zero=>exact absurd HA.out (by simp [law11_Make.j1])
    |succ kj4=>
     have H:=HA.out
     clear HA
     simp only [law11_Make.j1] at H
     by_cases c8:x23_4=true
     rotate_left
     ·replace c8:=Bool.eq_false_iff.mpr c8
      subst c8
      have H1:(some x5_1)=some r:=by rw [if_neg (show¬(false=true) by decide)] at H;exact H
      clear H
      have H:=H1
      clear H1
      obtain rfl:=Option.some.inj H
      go_wp2
      repeat (go_quiet (fail);try go_wp2)
      go_ret
      exact ⟨_,by first|rfl|(simp [errW_none,errW_some]<;>rfl)|(simp [*,errW_none,errW_some]<;>rfl),by (with_reducible repeat (first|apply Kd.R_alloc|apply Kd.R_drewN|apply Kd.R_drew));exact HO_5.out,zl0_ HB⟩

     subst c8
     have H1:(if 0≤x7_1 then (if x7_1<(l0.length:Int) then ((some (([(wrap64 (97+(Int.tmod (wrap64 ((x5_1.length:Int)*7)) 24))) % 256]:List Int):List Int)).bind fun y5=>(if (x5_1.length:Int)>0 then (law11_Make.j2 kj4 l0 a1 x5_1 x6_1 x7_1 (x5_1.length:Int) (wrap64 (rd l0 x7_1)) 4096 (decide ((Int.tmod (wrap64 (rd l0 x7_1)) 3)>0)) (strOfNums y5) (⟨#[]⟩:ByteArray) 4096 4096 4096) else (law11_Make.j2 kj4 l0 a1 x5_1 x6_1 x7_1 (x5_1.length:Int) (wrap64 (rd l0 x7_1)) 4096 false (strOfNums y5) (⟨#[]⟩:ByteArray) 4096 4096 4096))) else (none)) else (none))=some r:=by rw [if_pos rfl] at H;exact H
     clear H
     have H:=H1
     clear H1
     by_cases c9:0≤x7_1
     rotate_left
     ·rw [if_neg c9] at H
      exact absurd H (by simp)
     rw [if_pos c9] at H
     have c9b0:decide (0≤x7_1)=true:=decide_eq_true c9
     clear c9
     by_cases c10:x7_1<(l0.length:Int)
     rotate_left
     ·rw [if_neg c10] at H
      exact absurd H (by simp)
     rw [if_pos c10] at H
     have c10b0:decide (x7_1<(l0.length:Int))=true:=decide_eq_true c10
     clear c10
     obtain ⟨y5,hy5⟩: ∃y_:List Int,y_=(([(wrap64 (97+(Int.tmod (wrap64 ((x5_1.length:Int)*7)) 24))) % 256]:List Int)):=⟨_,rfl⟩
     replace H:(if (x5_1.length:Int)>0 then (law11_Make.j2 kj4 l0 a1 x5_1 x6_1 x7_1 (x5_1.length:Int) (wrap64 (rd l0 x7_1)) 4096 (decide ((Int.tmod (wrap64 (rd l0 x7_1)) 3)>0)) (strOfNums y5) (⟨#[]⟩:ByteArray) 4096 4096 4096) else (law11_Make.j2 kj4 l0 a1 x5_1 x6_1 x7_1 (x5_1.length:Int) (wrap64 (rd l0 x7_1)) 4096 false (strOfNums y5) (⟨#[]⟩:ByteArray) 4096 4096 4096))=some r:=by first|(rw [hy5];with_reducible exact H)|(have H2_:=(Option.bind_some _ _).symm.trans H;rw [hy5];with_reducible exact H2_)|(have H2_:=(Option.bind_some _ _).symm.trans H;with_reducible exact H2_)|with_reducible exact H|(rw [hy5];exact H)|exact H
     have Ny5:=Aside0.mk hy5
     clear hy5
     have HC11:=Aside0.mk H
     clear H
     obtain ⟨Ao12,co12,eo12⟩:=Kd.R_slice HO_5.out
     subst eo12
     have p4:0≤(x7_1:Int):=of_decide_eq_true zq_
     have q4:x7_1<(l0.length:Int):=of_decide_eq_true zq_
     obtain ⟨ad4,e4,hx4_0⟩:=Kd.at_int HR0.out x7_1 p4 q4
     cases e4
     replace hx4_0:=zx_ HB hx4_0
     replace p4:=eq_true p4
     replace q4:=eq_true q4
     go_upto_region 9 with (first|((with_reducible refine gate_dst (N:=38) rfl ?_);(try (refine gate_guard (by rfl) ?_;dsimp only));refine Kd.R_lit (Kd.int .u8) _ 5 ?hg (N:=38) ?hd (xs:=([(wrap64 (97+(Int.tmod (wrap64 ((x5_1.length:Int)*7)) 24))) % 256]:List Int)) (inner:=[.int .u8 ((wrap64 (97+(Int.tmod (wrap64 ((x5_1.length:Int)*7)) 24))) % 256)]) (ok:=fun _=>True) (okp:=fun _=>True) ?hr ?hp (fun _ hk=>hk) trivial (Below.refl _ _) (Nat.le_refl _) (by simp) ?_;(case hd=>rfl);(case hg=>rfl);(case hr=>first|(go_simp;done)|(go_simp;rfl));(case hp=>exact (Reps.one (show Kd.M (Kd.int .u8) _ _ _ ((wrap64 (97+(Int.tmod (wrap64 ((x5_1.length:Int)*7)) 24))) % 256) [.int .u8 ((wrap64 (97+(Int.tmod (wrap64 ((x5_1.length:Int)*7)) 24))) % 256)] from rfl) (Reps.none _ _)));intro v6 w13 ho14 hb hg_ hnew_;clear hg_ hnew_;(first|rw [←Ny5.out] at ho14|(simp only [Int.reduceToNat] at ho14;rw [←Ny5.out] at ho14));replace HO_5:=am_ (Kd.R_below (zr_ HO_5) hb);replace HO_6:=am_ (Kd.R_below (zr_ HO_6) hb);have HO7:=am_ (Kd.R_lower ho14 (below_size (zl0_ HB)));replace HB:=am_ (below_step (zl0_ HB) hb);clear hb ho14;have hcv15:=own_string (P:=Try.prog) Try.underlying33 Try.underlying5 Try.underlying9 (Kd.own_of_R HO7.out))|((with_reducible refine gate_dst (N:=10) rfl ?_);(try (refine gate_guard (by rfl) ?_;dsimp only));refine bx_ (N:=10) (cs:=#[.string (⟨#[]⟩:ByteArray), .string (⟨#[]⟩:ByteArray), .int .i64 0, .int .i64 0, .int .i64 0]) (t:=39) ?_;intro gb8 hg w16 hbox hb;have n0_:=am_ (Kd.R_below (Kd.R_elderB (zr_ HO_5) gb8 (Nat.le_of_eq hg.symm)) hb);have n1_:=am_ (Kd.R_below (zr_ HO_6) hb);have n2_:=am_ (Kd.R_below (zr_ HO7) hb);have n3_:=am_ (below_step (zl0_ HB) hb);have n4_:=am_ (hbox);have n6_:=am_ ((zg0_ HB hg:w.heap.size≤gb8));clear HO_5;clear HO_6;clear HO7;clear HB;have HO_5:=n0_;have HO_6:=n1_;have HO7:=n2_;have HB:=n3_;have BK8:=n4_;have GE8:=n6_;clear n0_ n1_ n2_ n3_ n4_ n6_;clear hb hbox hg;obtain ⟨hcz17_0,hcz17_1,hcz17_2,hcz17_3,hcz17_4⟩:=x5_ BK8;have hfz17_0:=blk_frozen BK8.out 0;have hfz17_1:=blk_frozen BK8.out 1;have hfz17_2:=blk_frozen BK8.out 2;have hfz17_3:=blk_frozen BK8.out 3;have hfz17_4:=blk_frozen BK8.out 4))
     repeat (go_quiet (fail);go_upto_region 9 with (first|((with_reducible refine gate_dst (N:=38) rfl ?_);(try (refine gate_guard (by rfl) ?_;dsimp only));refine Kd.R_lit (Kd.int .u8) _ 5 ?hg (N:=38) ?hd (xs:=([(wrap64 (97+(Int.tmod (wrap64 ((x5_1.length:Int)*7)) 24))) % 256]:List Int)) (inner:=[.int .u8 ((wrap64 (97+(Int.tmod (wrap64 ((x5_1.length:Int)*7)) 24))) % 256)]) (ok:=fun _=>True) (okp:=fun _=>True) ?hr ?hp (fun _ hk=>hk) trivial (Below.refl _ _) (Nat.le_refl _) (by simp) ?_;(case hd=>rfl);(case hg=>rfl);(case hr=>first|(go_simp;done)|(go_simp;rfl));(case hp=>exact (Reps.one (show Kd.M (Kd.int .u8) _ _ _ ((wrap64 (97+(Int.tmod (wrap64 ((x5_1.length:Int)*7)) 24))) % 256) [.int .u8 ((wrap64 (97+(Int.tmod (wrap64 ((x5_1.length:Int)*7)) 24))) % 256)] from rfl) (Reps.none _ _)));intro v6 w13 ho14 hb hg_ hnew_;clear hg_ hnew_;(first|rw [←Ny5.out] at ho14|(simp only [Int.reduceToNat] at ho14;rw [←Ny5.out] at ho14));replace HO_5:=am_ (Kd.R_below (zr_ HO_5) hb);replace HO_6:=am_ (Kd.R_below (zr_ HO_6) hb);have HO7:=am_ (Kd.R_lower ho14 (below_size (zl0_ HB)));replace HB:=am_ (below_step (zl0_ HB) hb);clear hb ho14;have hcv15:=own_string (P:=Try.prog) Try.underlying33 Try.underlying5 Try.underlying9 (Kd.own_of_R HO7.out))|((with_reducible refine gate_dst (N:=10) rfl ?_);(try (refine gate_guard (by rfl) ?_;dsimp only));refine bx_ (N:=10) (cs:=#[.string (⟨#[]⟩:ByteArray), .string (⟨#[]⟩:ByteArray), .int .i64 0, .int .i64 0, .int .i64 0]) (t:=39) ?_;intro gb8 hg w16 hbox hb;have n0_:=am_ (Kd.R_below (Kd.R_elderB (zr_ HO_5) gb8 (Nat.le_of_eq hg.symm)) hb);have n1_:=am_ (Kd.R_below (zr_ HO_6) hb);have n2_:=am_ (Kd.R_below (zr_ HO7) hb);have n3_:=am_ (below_step (zl0_ HB) hb);have n4_:=am_ (hbox);have n6_:=am_ ((zg0_ HB hg:w.heap.size≤gb8));clear HO_5;clear HO_6;clear HO7;clear HB;have HO_5:=n0_;have HO_6:=n1_;have HO7:=n2_;have HB:=n3_;have BK8:=n4_;have GE8:=n6_;clear n0_ n1_ n2_ n3_ n4_ n6_;clear hb hbox hg;obtain ⟨hcz17_0,hcz17_1,hcz17_2,hcz17_3,hcz17_4⟩:=x5_ BK8;have hfz17_0:=blk_frozen BK8.out 0;have hfz17_1:=blk_frozen BK8.out 1;have hfz17_2:=blk_frozen BK8.out 2;have hfz17_3:=blk_frozen BK8.out 3;have hfz17_4:=blk_frozen BK8.out 4)))
     (try simp only [Act.put,List.setIfInBounds_toArray,List.set_cons_zero,List.set_cons_succ])
     go_cut [48] (fun v48 wc=> ∃(kq:Nat) (x48_10:Bool),v48= .bool x48_10∧Aside0 (law11_Make.j2 kq l0 a1 x5_1 x6_1 x7_1 (x5_1.length:Int) (wrap64 (rd l0 x7_1)) 4096 x48_10 (strOfNums y5) (⟨#[]⟩:ByteArray) 4096 4096 4096=some r)∧Aside0 (kq≤kj4)∧Aside0 (Kd.R k39 39 wc w.heap.size (fun k_=>k_≠gb8) (.slice Ao12 x5_1.length co12) x5_1)∧Aside0 (Kd.R (Kd.int .i64) 3 wc w.heap.size (fun _=>True) u6 x6_1)∧Aside0 (wc.heap[gb8]?=some (.cells #[.string (strOfNums y5), .string (⟨#[]⟩:ByteArray), .int .i64 4096, .int .i64 4096, .int .i64 4096] 39 (0,0)))∧Aside0 (Below w.heap.size w wc))
     case first=>
      have H:=HC11.out
      clear HC11
      by_cases c18:(x5_1.length:Int)>0
      ·rw [if_pos c18] at H
       have c18b0:decide (0<(x5_1.length:Int))=true:=decide_eq_true c18
       have c18b1:decide (0<x5_1.length)=true:=decide_eq_true (by omega)
       clear c18
       (first|rw [c18b0]|(simp only [i64_w,i32_w];rw [c18b0])|skip)
       have H':=Aside0.mk H
       clear H
       go_wp2
       repeat (go_quiet (fail);try go_wp2)
       go_meet
       case rel=>exact ⟨_,(decide ((Int.tmod (wrap64 (rd l0 x7_1)) 3)>0)),(by first|rfl|(simp;done)|(simp [*];done)),H',⟨by have:=HK1.out;have:=HJ4.out;first|omega|exact Nat.le_refl _⟩,⟨by (with_reducible repeat (first|apply Kd.R_alloc|apply Kd.R_drewN|apply Kd.R_drew));exact Kd.R_mono (Kd.R_far (p:=⟨gb8,4,none⟩) (Kd.R_far (p:=⟨gb8,3,none⟩) (Kd.R_far (p:=⟨gb8,2,none⟩) (Kd.R_far (p:=⟨gb8,1,none⟩) (Kd.R_far (p:=⟨gb8,0,none⟩) (Kd.R_mono HO_5.out (fun k_ hk=>(⟨hk,hk.2⟩:_∧k_≠gb8))) (fun _ hk=>hk.2) (.string (strOfNums y5))) (fun _ hk=>hk.2) (.string (⟨#[]⟩:ByteArray))) (fun _ hk=>hk.2) (.int .i64 4096)) (fun _ hk=>hk.2) (.int .i64 4096)) (fun _ hk=>hk.2) (.int .i64 4096)) (fun _ hk=>hk.1.2)⟩,⟨zy_ HO_6 BK8⟩,⟨zw_ BK8⟩,⟨zl1_ HB GE8⟩⟩
      rw [if_neg c18] at H
      have c18b0:decide (0<(x5_1.length:Int))=false:=decide_eq_false c18
      have c18b1:decide (0<x5_1.length)=false:=decide_eq_false (by omega)
      clear c18
      (first|rw [c18b0]|(simp only [i64_w,i32_w];rw [c18b0])|skip)
      have H':=Aside0.mk H
      clear H
      go_wp2
      repeat (go_quiet (fail);try go_wp2)
      go_meet
      case rel=>exact ⟨_,(false),(by first|rfl|(simp;done)|(simp [*];done)),H',⟨by have:=HK1.out;have:=HJ4.out;first|omega|exact Nat.le_refl _⟩,⟨by (with_reducible repeat (first|apply Kd.R_alloc|apply Kd.R_drewN|apply Kd.R_drew));exact Kd.R_mono (Kd.R_far (p:=⟨gb8,4,none⟩) (Kd.R_far (p:=⟨gb8,3,none⟩) (Kd.R_far (p:=⟨gb8,2,none⟩) (Kd.R_far (p:=⟨gb8,1,none⟩) (Kd.R_far (p:=⟨gb8,0,none⟩) (Kd.R_mono HO_5.out (fun k_ hk=>(⟨hk,hk.2⟩:_∧k_≠gb8))) (fun _ hk=>hk.2) (.string (strOfNums y5))) (fun _ hk=>hk.2) (.string (⟨#[]⟩:ByteArray))) (fun _ hk=>hk.2) (.int .i64 4096)) (fun _ hk=>hk.2) (.int .i64 4096)) (fun _ hk=>hk.2) (.int .i64 4096)) (fun _ hk=>hk.1.2)⟩,⟨zy_ HO_6 BK8⟩,⟨zw_ BK8⟩,⟨zl1_ HB GE8⟩⟩
     case rest=>
      clear HC11
      try clear c1
      try clear hcv1
      try clear p2
      try clear c3
      try clear p4
      try clear q4
      try clear hx4
      try clear c6
      try clear c6b0
      try clear p6
      try clear c8
      try clear c9
      try clear c9b0
      try clear c10
      try clear c10b0
      try clear hcv15
      try clear c18
      try clear c18b0
      try clear c18b1
      try clear hcz17_0
      try clear hcz17_1
      try clear hcz17_2
      try clear hcz17_3
      try clear hcz17_4
      try clear hfz17_0
      try clear hfz17_1
      try clear hfz17_2
      try clear hfz17_3
      try clear hfz17_4
      try clear hx4_0
      try clear p2
      try clear p4
      try clear p6
      try clear q4
      obtain ⟨kq,x48_10,rfl,HA,HJ10,HO_5,HO_6,BK8,HB⟩:=hcut
      cases kq with
      |zero=>exact absurd HA.out (by simp [law11_Make.j2])
      |succ kj10=>
       have H:=HA.out
       clear HA
       simp only [law11_Make.j2] at H
       by_cases c19:x48_10=true
       rotate_left
       ·replace c19:=Bool.eq_false_iff.mpr c19
        subst c19
        have H1:(if a1=true then (if 0≤(wrap64 (x7_1+1)) then (if (wrap64 (x7_1+1))<(l0.length:Int) then (if (Int.tmod (rd l0 (wrap64 (x7_1+1))) 16)=0 then (if x5_1.length<2513169434916 then (if x6_1.length<17592186044416 then (law11_Make.l0 kj10 l0 a1 (x5_1++ [(⟨(strOfNums y5),(⟨#[]⟩:ByteArray),(⟨wrap64 ((wrap64 (4096*2))+1),wrap64 ((wrap64 (4096*2))+1),wrap64 ((wrap64 ((wrap64 (4096*2))+1)) - (wrap64 ((wrap64 (Int.tdiv (wrap64 ((wrap64 (4096*2))+1)) 3))*(wrap64 (Int.tmod (rd l0 (wrap64 (x7_1+1))) 2)))))⟩:S37)⟩:S39)]) (x6_1++ [wrap64 ((wrap64 ((wrap64 (4096*2))+1)) - (wrap64 (Int.tdiv (wrap64 ((wrap64 (4096*2))+1)) 3)))]) (wrap64 (x7_1+2))) else (none)) else (none)) else (if x5_1.length<2513169434916 then (if x6_1.length<17592186044416 then (law11_Make.l0 kj10 l0 a1 (x5_1++ [(⟨(strOfNums y5),(⟨#[]⟩:ByteArray),(⟨4096,4096,wrap64 (4096 - (wrap64 ((wrap64 (Int.tdiv 4096 3))*(wrap64 (Int.tmod (rd l0 (wrap64 (x7_1+1))) 2)))))⟩:S37)⟩:S39)]) (x6_1++ [wrap64 (4096 - (wrap64 (Int.tdiv 4096 3)))]) (wrap64 (x7_1+2))) else (none)) else (none))) else (none)) else (none)) else (if 0≤(wrap64 (x7_1+1)) then (if (wrap64 (x7_1+1))<(l0.length:Int) then (if x5_1.length<2513169434916 then (if x6_1.length<17592186044416 then (law11_Make.l0 kj10 l0 a1 (x5_1++ [(⟨(strOfNums y5),(⟨#[]⟩:ByteArray),(⟨4096,4096,wrap64 (4096 - (wrap64 ((wrap64 (Int.tdiv 4096 3))*(wrap64 (Int.tmod (rd l0 (wrap64 (x7_1+1))) 2)))))⟩:S37)⟩:S39)]) (x6_1++ [wrap64 (4096 - (wrap64 (Int.tdiv 4096 3)))]) (wrap64 (x7_1+2))) else (none)) else (none)) else (none)) else (none)))=some r:=by rw [if_neg (show¬(false=true) by decide)] at H;exact H
        clear H
        have H:=H1
        clear H1
        by_cases c64:a1=true
        rotate_left
        ·replace c64:=Bool.eq_false_iff.mpr c64
         subst c64
         have H1:(if 0≤(wrap64 (x7_1+1)) then (if (wrap64 (x7_1+1))<(l0.length:Int) then (if x5_1.length<2513169434916 then (if x6_1.length<17592186044416 then (law11_Make.l0 kj10 l0 false (x5_1++ [(⟨(strOfNums y5),(⟨#[]⟩:ByteArray),(⟨4096,4096,wrap64 (4096 - (wrap64 ((wrap64 (Int.tdiv 4096 3))*(wrap64 (Int.tmod (rd l0 (wrap64 (x7_1+1))) 2)))))⟩:S37)⟩:S39)]) (x6_1++ [wrap64 (4096 - (wrap64 (Int.tdiv 4096 3)))]) (wrap64 (x7_1+2))) else (none)) else (none)) else (none)) else (none))=some r:=by rw [if_neg (show¬(false=true) by decide)] at H;exact H
         clear H
         have H:=H1
         clear H1
         obtain ⟨ji79,hji79⟩: ∃j_:Int,(wrap64 (x7_1+1))=j_:=⟨_,rfl⟩
         replace H:(if 0≤(ji79) then (if (ji79)<(l0.length:Int) then (if x5_1.length<2513169434916 then (if x6_1.length<17592186044416 then (law11_Make.l0 kj10 l0 false (x5_1++ [(⟨(strOfNums y5),(⟨#[]⟩:ByteArray),(⟨4096,4096,wrap64 (4096 - (wrap64 ((wrap64 (Int.tdiv 4096 3))*(wrap64 (Int.tmod (rd l0 (ji79)) 2)))))⟩:S37)⟩:S39)]) (x6_1++ [wrap64 (4096 - (wrap64 (Int.tdiv 4096 3)))]) (wrap64 (x7_1+2))) else (none)) else (none)) else (none)) else (none))=some r:=by first|(rw [hji79] at H;exact H)|(simp only [hji79] at H ⊢;exact H)
         have hji79w:(IntKind.i64.wrap (x7_1+1))=ji79:=(i64_w _).trans hji79
         by_cases c80:0≤(ji79)
         rotate_left
         ·rw [if_neg c80] at H
          exact absurd H (by simp)
         rw [if_pos c80] at H
         have c80b0:decide (0≤(ji79))=true:=decide_eq_true c80
         clear c80
         by_cases c81:(ji79)<(l0.length:Int)
         rotate_left
         ·rw [if_neg c81] at H
          exact absurd H (by simp)
         rw [if_pos c81] at H
         have c81b0:decide ((ji79)<(l0.length:Int))=true:=decide_eq_true c81
         clear c81
         by_cases c82:x5_1.length<2513169434916
         rotate_left
         ·rw [if_neg c82] at H
          exact absurd H (by simp)
         rw [if_pos c82] at H
         have LMc82:=Aside0.mk c82
         clear c82
         simp only [lm_E1,lm_E2,lm_E3,lm_E4,lm_E5] at H
         obtain ⟨y51,hy51⟩: ∃y_:List (S39),y_=(x5_1++ [(⟨(strOfNums y5),(⟨#[]⟩:ByteArray),(⟨4096,4096,wrap64 (4096 - (wrap64 ((1365)*(wrap64 (Int.tmod (rd l0 (ji79)) 2)))))⟩:S37)⟩:S39)]):=⟨_,rfl⟩
         replace H:(if x6_1.length<17592186044416 then (law11_Make.l0 kj10 l0 false y51 (x6_1++ [2731]) (wrap64 (x7_1+2))) else (none))=some r:=by first|(rw [hy51];with_reducible exact H)|(have H2_:=(Option.bind_some _ _).symm.trans H;rw [hy51];with_reducible exact H2_)|(have H2_:=(Option.bind_some _ _).symm.trans H;with_reducible exact H2_)|with_reducible exact H|(rw [hy51];exact H)|exact H
         have Ny51:=Aside0.mk hy51
         clear hy51
         by_cases c83:x6_1.length<17592186044416
         rotate_left
         ·rw [if_neg c83] at H
          exact absurd H (by simp)
         rw [if_pos c83] at H
         have LMc83:=Aside0.mk c83
         clear c83
         obtain ⟨y54,hy54⟩: ∃y_:List Int,y_=(x6_1++ [2731]):=⟨_,rfl⟩
         replace H:(law11_Make.l0 kj10 l0 false y51 y54 (wrap64 (x7_1+2)))=some r:=by first|(rw [hy54];with_reducible exact H)|(have H2_:=(Option.bind_some _ _).symm.trans H;rw [hy54];with_reducible exact H2_)|(have H2_:=(Option.bind_some _ _).symm.trans H;with_reducible exact H2_)|with_reducible exact H|(rw [hy54];exact H)|exact H
         have Ny54:=Aside0.mk hy54
         clear hy54
         have H':=Aside0.mk H
         clear H
         have p50:0≤((ji79):Int):=of_decide_eq_true zq_
         have q50:(ji79)<(l0.length:Int):=of_decide_eq_true zq_
         obtain ⟨ad50,e50,hx50_0⟩:=Kd.at_int HR0.out (ji79) p50 q50
         obtain rfl:ad4=ad50:=(by injection e50)
         replace hx50_0:=zx_ HB hx50_0
         replace p50:=eq_true p50
         replace q50:=eq_true q50
         obtain ⟨hcz84_0,hcz84_1,hcz84_2,hcz84_3,hcz84_4⟩:=x5_ BK8
         have hfz84_2:=blk_frozen BK8.out 2
         have hfz84_3:=blk_frozen BK8.out 3
         have hfz84_4:=blk_frozen BK8.out 4
         go_wp2_with (first|((with_reducible refine gate_builtin (b:= .append) (xs:=#[.tmp 102, .tmp 104]) rfl ?_);(try (refine gate_guard (by rfl) ?_;dsimp only));at_builtin;refine Kd.R_append k39 (w0:=w) w.heap.size rfl (.tmp 102) (.tmp 104) 22 39 (.agg #[(.string ⟨#[]⟩),(.string ⟨#[]⟩),(.int .i64 0),(.int .i64 0),(.int .i64 0)]) 56 rfl Try.underlying22 info39 rfl (by decide) (by omega) (.slice Ao12 x5_1.length co12) x5_1 (⟨(strOfNums y5),(⟨#[]⟩:ByteArray),(⟨4096,4096,wrap64 (4096 - (wrap64 ((1365)*(wrap64 (Int.tmod (rd l0 (ji79)) 2)))))⟩:S37)⟩:S39) [.string (strOfNums y5), .string (⟨#[]⟩:ByteArray), .int .i64 4096, .int .i64 4096, .int .i64 (wrap64 (4096 - (wrap64 ((1365)*(wrap64 (Int.tmod (rd l0 (ji79)) 2))))))] (fun k_=>k_≠gb8) (fun _=>False) rfl (by first|(go_simp;done)|(go_simp;rfl)) ?aP (fun _ hk=>hk.elim) ?aF ?aO ?aB ?aS ?aL ?_;(case aP=>exact k39_mkM _ _ _ (⟨(strOfNums y5),(⟨#[]⟩:ByteArray),(⟨4096,4096,wrap64 (4096 - (wrap64 ((1365)*(wrap64 (Int.tmod (rd l0 (ji79)) 2)))))⟩:S37)⟩:S39));(case aB=>exact (zl1_ HB GE8));(case aF=>exact (fun k_ hk=>Kd.freshB (g:=gb8) (o:= .cells #[.string (strOfNums y5), .string (⟨#[]⟩:ByteArray), .int .i64 4096, .int .i64 4096, .int .i64 (wrap64 (4096 - (wrap64 ((1365)*(wrap64 (Int.tmod (rd l0 (ji79)) 2))))))] 39 (0,0)) (zw_ BK8) k_ hk));(case aO=>exact (by refine zt_ ?_;exact Kd.R_mono (Kd.R_far (p:=⟨gb8,4,none⟩) (Kd.R_far (p:=⟨gb8,3,none⟩) (Kd.R_far (p:=⟨gb8,2,none⟩) (Kd.R_mono HO_5.out (fun k_ hk=>(⟨hk,hk⟩:_∧k_≠gb8))) (fun _ hk=>hk.2) (.int .i64 4096)) (fun _ hk=>hk.2) (.int .i64 4096)) (fun _ hk=>hk.2) (.int .i64 (wrap64 (4096 - (wrap64 ((1365)*(wrap64 (Int.tmod (rd l0 (ji79)) 2)))))))) (fun _ hk=>hk.1)));(case aS=>exact (below_size (zl1_ HB GE8)));(case aL=>have:=LMc82.out;omega);intro v52 w85 ho hb hg hat;rw [←Ny51.out] at ho;have n0_:=am_ (Kd.R_over' (by refine zt_ ?_;exact (Kd.R_mono (Kd.R_far (p:=⟨gb8,4,none⟩) (Kd.R_far (p:=⟨gb8,3,none⟩) (Kd.R_far (p:=⟨gb8,2,none⟩) (Kd.R_types HO_6.out BK8.out (by decide)) (fun _ hk=>hk.2) (.int .i64 4096)) (fun _ hk=>hk.2) (.int .i64 4096)) (fun _ hk=>hk.2) (.int .i64 (wrap64 (4096 - (wrap64 ((1365)*(wrap64 (Int.tmod (rd l0 (ji79)) 2)))))))) (fun _ h_=>h_.1))) (Kd.R_typed (by refine zt_ ?_;exact (Kd.R_mono (Kd.R_far (p:=⟨gb8,4,none⟩) (Kd.R_far (p:=⟨gb8,3,none⟩) (Kd.R_far (p:=⟨gb8,2,none⟩) (Kd.R_mono HO_5.out (fun k_ hk=>(⟨hk,hk⟩:_∧k_≠gb8))) (fun _ hk=>hk.2) (.int .i64 4096)) (fun _ hk=>hk.2) (.int .i64 4096)) (fun _ hk=>hk.2) (.int .i64 (wrap64 (4096 - (wrap64 ((1365)*(wrap64 (Int.tmod (rd l0 (ji79)) 2)))))))) (fun _ h_=>h_.1)))) (by decide) hg);have n1_:=am_ (blk_grown (g:=gb8) (o:= .cells #[.string (strOfNums y5), .string (⟨#[]⟩:ByteArray), .int .i64 4096, .int .i64 4096, .int .i64 (wrap64 (4096 - (wrap64 ((1365)*(wrap64 (Int.tmod (rd l0 (ji79)) 2))))))] 39 (0,0)) (zw_ BK8) hg (Kd.R_away HO_5.out (fun _ hk=>hk)));have n2_:=am_ (hb);have n3_:=am_ (ho);clear HO_6;clear BK8;clear HB;clear HO_5;have HO_6:=n0_;have BK8:=n1_;have HB:=n2_;have HO53:=n3_;clear n0_ n1_ n2_ n3_;clear ho hb hg hat)|((with_reducible refine gate_builtin (b:= .append) (xs:=#[.tmp 106, .tmp 111]) rfl ?_);(try (refine gate_guard (by rfl) ?_;dsimp only));at_builtin;refine Kd.R_append (Kd.int .i64) (w0:=w) w.heap.size rfl (.tmp 106) (.tmp 111) 122 3 (.int .i64 0) 8 rfl Try.underlying122 info3 rfl (by decide) (by omega) u6 x6_1 (2731) [.int .i64 (2731)] (fun _=>True) (fun _=>False) rfl rfl ?aP (fun _ hk=>hk.elim) ?aF ?aO ?aB ?aS ?aL ?_;(case aP=>exact rfl);(case aB=>exact (zl1_ HB GE8));(case aF=>exact (fun _ _=>trivial));(case aO=>exact (zr_ HO_6));(case aS=>exact (below_size (zl1_ HB GE8)));(case aL=>have:=LMc83.out;omega);intro v55 w86 ho hb hg hat;rw [←Ny54.out] at ho;have n0_:=am_ (blk_grown (g:=gb8) (o:= .cells #[.string (strOfNums y5), .string (⟨#[]⟩:ByteArray), .int .i64 4096, .int .i64 4096, .int .i64 (wrap64 (4096 - (wrap64 ((1365)*(wrap64 (Int.tmod (rd l0 (ji79)) 2))))))] 39 (0,0)) (zb_ BK8) hg (Kd.R_ne HO_6.out BK8.out (by decide)));have n1_:=am_ (Kd.R_over' (zr_ HO53) (Kd.R_typed (zr_ HO_6)) (by decide) hg);have n2_:=am_ (hb);have n3_:=am_ (ho);clear BK8;clear HO53;clear HB;clear HO_6;have BK8:=n0_;have HO53:=n1_;have HB:=n2_;have HO56:=n3_;clear n0_ n1_ n2_ n3_;clear ho hb hg hat))
         repeat (go_quiet (fail);try go_wp2_with fail)
         go_roundg kj10
         case measure=>have:=HK1.out;have:=HJ4.out;have:=HJ10.out;omega
         case rel=>exact ⟨(y51),(y54),(wrap64 (x7_1+2)),(by first|rfl|(simp;done)|(simp [*];done)),H',⟨by have:=HK1.out;have:=HJ4.out;have:=HJ10.out;omega⟩,⟨by (with_reducible repeat (first|apply Kd.R_alloc|apply Kd.R_drewN|apply Kd.R_drew));exact Kd.R_mono HO53.out (fun _ hk=>trivial)⟩,⟨by (with_reducible repeat (first|apply Kd.R_alloc|apply Kd.R_drewN|apply Kd.R_drew));exact HO56.out⟩,⟨zl1_ HB GE8⟩⟩
        subst c64
        have H1:(if 0≤(wrap64 (x7_1+1)) then (if (wrap64 (x7_1+1))<(l0.length:Int) then (if (Int.tmod (rd l0 (wrap64 (x7_1+1))) 16)=0 then (if x5_1.length<2513169434916 then (if x6_1.length<17592186044416 then (law11_Make.l0 kj10 l0 true (x5_1++ [(⟨(strOfNums y5),(⟨#[]⟩:ByteArray),(⟨wrap64 ((wrap64 (4096*2))+1),wrap64 ((wrap64 (4096*2))+1),wrap64 ((wrap64 ((wrap64 (4096*2))+1)) - (wrap64 ((wrap64 (Int.tdiv (wrap64 ((wrap64 (4096*2))+1)) 3))*(wrap64 (Int.tmod (rd l0 (wrap64 (x7_1+1))) 2)))))⟩:S37)⟩:S39)]) (x6_1++ [wrap64 ((wrap64 ((wrap64 (4096*2))+1)) - (wrap64 (Int.tdiv (wrap64 ((wrap64 (4096*2))+1)) 3)))]) (wrap64 (x7_1+2))) else (none)) else (none)) else (if x5_1.length<2513169434916 then (if x6_1.length<17592186044416 then (law11_Make.l0 kj10 l0 true (x5_1++ [(⟨(strOfNums y5),(⟨#[]⟩:ByteArray),(⟨4096,4096,wrap64 (4096 - (wrap64 ((wrap64 (Int.tdiv 4096 3))*(wrap64 (Int.tmod (rd l0 (wrap64 (x7_1+1))) 2)))))⟩:S37)⟩:S39)]) (x6_1++ [wrap64 (4096 - (wrap64 (Int.tdiv 4096 3)))]) (wrap64 (x7_1+2))) else (none)) else (none))) else (none)) else (none))=some r:=by rw [if_pos rfl] at H;exact H
        clear H
        have H:=H1
        clear H1
        obtain ⟨ji65,hji65⟩: ∃j_:Int,(wrap64 (x7_1+1))=j_:=⟨_,rfl⟩
        replace H:(if 0≤(ji65) then (if (ji65)<(l0.length:Int) then (if (Int.tmod (rd l0 (ji65)) 16)=0 then (if x5_1.length<2513169434916 then (if x6_1.length<17592186044416 then (law11_Make.l0 kj10 l0 true (x5_1++ [(⟨(strOfNums y5),(⟨#[]⟩:ByteArray),(⟨wrap64 ((wrap64 (4096*2))+1),wrap64 ((wrap64 (4096*2))+1),wrap64 ((wrap64 ((wrap64 (4096*2))+1)) - (wrap64 ((wrap64 (Int.tdiv (wrap64 ((wrap64 (4096*2))+1)) 3))*(wrap64 (Int.tmod (rd l0 (ji65)) 2)))))⟩:S37)⟩:S39)]) (x6_1++ [wrap64 ((wrap64 ((wrap64 (4096*2))+1)) - (wrap64 (Int.tdiv (wrap64 ((wrap64 (4096*2))+1)) 3)))]) (wrap64 (x7_1+2))) else (none)) else (none)) else (if x5_1.length<2513169434916 then (if x6_1.length<17592186044416 then (law11_Make.l0 kj10 l0 true (x5_1++ [(⟨(strOfNums y5),(⟨#[]⟩:ByteArray),(⟨4096,4096,wrap64 (4096 - (wrap64 ((wrap64 (Int.tdiv 4096 3))*(wrap64 (Int.tmod (rd l0 (ji65)) 2)))))⟩:S37)⟩:S39)]) (x6_1++ [wrap64 (4096 - (wrap64 (Int.tdiv 4096 3)))]) (wrap64 (x7_1+2))) else (none)) else (none))) else (none)) else (none))=some r:=by first|(rw [hji65] at H;exact H)|(simp only [hji65] at H ⊢;exact H)
        have hji65w:(IntKind.i64.wrap (x7_1+1))=ji65:=(i64_w _).trans hji65
        by_cases c66:0≤(ji65)
        rotate_left
        ·rw [if_neg c66] at H
         exact absurd H (by simp)
        rw [if_pos c66] at H
        have c66b0:decide (0≤(ji65))=true:=decide_eq_true c66
        clear c66
        by_cases c67:(ji65)<(l0.length:Int)
        rotate_left
        ·rw [if_neg c67] at H
         exact absurd H (by simp)
        rw [if_pos c67] at H
        have c67b0:decide ((ji65)<(l0.length:Int))=true:=decide_eq_true c67
        clear c67
        by_cases c68:(Int.tmod (rd l0 (ji65)) 16)=0
        ·rw [if_pos c68] at H
         have c68b0:((Int.tmod (rd l0 (ji65)) 16)==0)=true:=beq_iff_eq.mpr c68
         clear c68
         by_cases c69:x5_1.length<2513169434916
         rotate_left
         ·rw [if_neg c69] at H
          exact absurd H (by simp)
         rw [if_pos c69] at H
         have LMc69:=Aside0.mk c69
         clear c69
         simp only [lm_E1,lm_E2,lm_E3,lm_E4,lm_E5] at H
         obtain ⟨y37,hy37⟩: ∃y_:List (S39),y_=(x5_1++ [(⟨(strOfNums y5),(⟨#[]⟩:ByteArray),(⟨8193,8193,wrap64 ((8193) - (wrap64 ((2731)*(wrap64 (Int.tmod (rd l0 (ji65)) 2)))))⟩:S37)⟩:S39)]):=⟨_,rfl⟩
         replace H:(if x6_1.length<17592186044416 then (law11_Make.l0 kj10 l0 true y37 (x6_1++ [5462]) (wrap64 (x7_1+2))) else (none))=some r:=by first|(rw [hy37];with_reducible exact H)|(have H2_:=(Option.bind_some _ _).symm.trans H;rw [hy37];with_reducible exact H2_)|(have H2_:=(Option.bind_some _ _).symm.trans H;with_reducible exact H2_)|with_reducible exact H|(rw [hy37];exact H)|exact H
         have Ny37:=Aside0.mk hy37
         clear hy37
         by_cases c70:x6_1.length<17592186044416
         rotate_left
         ·rw [if_neg c70] at H
          exact absurd H (by simp)
         rw [if_pos c70] at H
         have LMc70:=Aside0.mk c70
         clear c70
         obtain ⟨y40,hy40⟩: ∃y_:List Int,y_=(x6_1++ [5462]):=⟨_,rfl⟩
         replace H:(law11_Make.l0 kj10 l0 true y37 y40 (wrap64 (x7_1+2)))=some r:=by first|(rw [hy40];with_reducible exact H)|(have H2_:=(Option.bind_some _ _).symm.trans H;rw [hy40];with_reducible exact H2_)|(have H2_:=(Option.bind_some _ _).symm.trans H;with_reducible exact H2_)|with_reducible exact H|(rw [hy40];exact H)|exact H
         have Ny40:=Aside0.mk hy40
         clear hy40
         have H':=Aside0.mk H
         clear H
         have p35:0≤((ji65):Int):=of_decide_eq_true zq_
         have q35:(ji65)<(l0.length:Int):=of_decide_eq_true zq_
         obtain ⟨ad35,e35,hx35_0⟩:=Kd.at_int HR0.out (ji65) p35 q35
         obtain rfl:ad4=ad35:=(by injection e35)
         replace hx35_0:=zx_ HB hx35_0
         replace p35:=eq_true p35
         replace q35:=eq_true q35
         have p36:0≤((ji65):Int):=of_decide_eq_true zq_
         have q36:(ji65)<(l0.length:Int):=of_decide_eq_true zq_
         obtain ⟨ad36,e36,hx36_0⟩:=Kd.at_int HR0.out (ji65) p36 q36
         obtain rfl:ad4=ad36:=(by injection e36)
         replace hx36_0:=zx_ HB hx36_0
         replace p36:=eq_true p36
         replace q36:=eq_true q36
         obtain ⟨hcz71_0,hcz71_1,hcz71_2,hcz71_3,hcz71_4⟩:=x5_ BK8
         have hfz71_2:=blk_frozen BK8.out 2
         have hfz71_3:=blk_frozen BK8.out 3
         have hfz71_4:=blk_frozen BK8.out 4
         go_wp2_with (first|((with_reducible refine gate_builtin (b:= .append) (xs:=#[.tmp 102, .tmp 104]) rfl ?_);(try (refine gate_guard (by rfl) ?_;dsimp only));at_builtin;refine Kd.R_append k39 (w0:=w) w.heap.size rfl (.tmp 102) (.tmp 104) 22 39 (.agg #[(.string ⟨#[]⟩),(.string ⟨#[]⟩),(.int .i64 0),(.int .i64 0),(.int .i64 0)]) 56 rfl Try.underlying22 info39 rfl (by decide) (by omega) (.slice Ao12 x5_1.length co12) x5_1 (⟨(strOfNums y5),(⟨#[]⟩:ByteArray),(⟨8193,8193,wrap64 ((8193) - (wrap64 ((2731)*(wrap64 (Int.tmod (rd l0 (ji65)) 2)))))⟩:S37)⟩:S39) [.string (strOfNums y5), .string (⟨#[]⟩:ByteArray), .int .i64 (8193), .int .i64 (8193), .int .i64 (wrap64 ((8193) - (wrap64 ((2731)*(wrap64 (Int.tmod (rd l0 (ji65)) 2))))))] (fun k_=>k_≠gb8) (fun _=>False) rfl (by first|(go_simp;done)|(go_simp;rfl)) ?aP (fun _ hk=>hk.elim) ?aF ?aO ?aB ?aS ?aL ?_;(case aP=>exact k39_mkM _ _ _ (⟨(strOfNums y5),(⟨#[]⟩:ByteArray),(⟨8193,8193,wrap64 ((8193) - (wrap64 ((2731)*(wrap64 (Int.tmod (rd l0 (ji65)) 2)))))⟩:S37)⟩:S39));(case aB=>exact (zl1_ HB GE8));(case aF=>exact (fun k_ hk=>Kd.freshB (g:=gb8) (o:= .cells #[.string (strOfNums y5), .string (⟨#[]⟩:ByteArray), .int .i64 (8193), .int .i64 (8193), .int .i64 (wrap64 ((8193) - (wrap64 ((2731)*(wrap64 (Int.tmod (rd l0 (ji65)) 2))))))] 39 (0,0)) (zw_ BK8) k_ hk));(case aO=>exact (by refine zt_ ?_;exact Kd.R_mono (Kd.R_far (p:=⟨gb8,4,none⟩) (Kd.R_far (p:=⟨gb8,3,none⟩) (Kd.R_far (p:=⟨gb8,2,none⟩) (Kd.R_mono HO_5.out (fun k_ hk=>(⟨hk,hk⟩:_∧k_≠gb8))) (fun _ hk=>hk.2) (.int .i64 (8193))) (fun _ hk=>hk.2) (.int .i64 (8193))) (fun _ hk=>hk.2) (.int .i64 (wrap64 ((8193) - (wrap64 ((2731)*(wrap64 (Int.tmod (rd l0 (ji65)) 2)))))))) (fun _ hk=>hk.1)));(case aS=>exact (below_size (zl1_ HB GE8)));(case aL=>have:=LMc69.out;omega);intro v38 w72 ho hb hg hat;rw [←Ny37.out] at ho;have n0_:=am_ (Kd.R_over' (by refine zt_ ?_;exact (Kd.R_mono (Kd.R_far (p:=⟨gb8,4,none⟩) (Kd.R_far (p:=⟨gb8,3,none⟩) (Kd.R_far (p:=⟨gb8,2,none⟩) (Kd.R_types HO_6.out BK8.out (by decide)) (fun _ hk=>hk.2) (.int .i64 (8193))) (fun _ hk=>hk.2) (.int .i64 (8193))) (fun _ hk=>hk.2) (.int .i64 (wrap64 ((8193) - (wrap64 ((2731)*(wrap64 (Int.tmod (rd l0 (ji65)) 2)))))))) (fun _ h_=>h_.1))) (Kd.R_typed (by refine zt_ ?_;exact (Kd.R_mono (Kd.R_far (p:=⟨gb8,4,none⟩) (Kd.R_far (p:=⟨gb8,3,none⟩) (Kd.R_far (p:=⟨gb8,2,none⟩) (Kd.R_mono HO_5.out (fun k_ hk=>(⟨hk,hk⟩:_∧k_≠gb8))) (fun _ hk=>hk.2) (.int .i64 (8193))) (fun _ hk=>hk.2) (.int .i64 (8193))) (fun _ hk=>hk.2) (.int .i64 (wrap64 ((8193) - (wrap64 ((2731)*(wrap64 (Int.tmod (rd l0 (ji65)) 2)))))))) (fun _ h_=>h_.1)))) (by decide) hg);have n1_:=am_ (blk_grown (g:=gb8) (o:= .cells #[.string (strOfNums y5), .string (⟨#[]⟩:ByteArray), .int .i64 (8193), .int .i64 (8193), .int .i64 (wrap64 ((8193) - (wrap64 ((2731)*(wrap64 (Int.tmod (rd l0 (ji65)) 2))))))] 39 (0,0)) (zw_ BK8) hg (Kd.R_away HO_5.out (fun _ hk=>hk)));have n2_:=am_ (hb);have n3_:=am_ (ho);clear HO_6;clear BK8;clear HB;clear HO_5;have HO_6:=n0_;have BK8:=n1_;have HB:=n2_;have HO39:=n3_;clear n0_ n1_ n2_ n3_;clear ho hb hg hat)|((with_reducible refine gate_builtin (b:= .append) (xs:=#[.tmp 106, .tmp 111]) rfl ?_);(try (refine gate_guard (by rfl) ?_;dsimp only));at_builtin;refine Kd.R_append (Kd.int .i64) (w0:=w) w.heap.size rfl (.tmp 106) (.tmp 111) 122 3 (.int .i64 0) 8 rfl Try.underlying122 info3 rfl (by decide) (by omega) u6 x6_1 (5462) [.int .i64 (5462)] (fun _=>True) (fun _=>False) rfl rfl ?aP (fun _ hk=>hk.elim) ?aF ?aO ?aB ?aS ?aL ?_;(case aP=>exact rfl);(case aB=>exact (zl1_ HB GE8));(case aF=>exact (fun _ _=>trivial));(case aO=>exact (zr_ HO_6));(case aS=>exact (below_size (zl1_ HB GE8)));(case aL=>have:=LMc70.out;omega);intro v41 w73 ho hb hg hat;rw [←Ny40.out] at ho;have n0_:=am_ (blk_grown (g:=gb8) (o:= .cells #[.string (strOfNums y5), .string (⟨#[]⟩:ByteArray), .int .i64 (8193), .int .i64 (8193), .int .i64 (wrap64 ((8193) - (wrap64 ((2731)*(wrap64 (Int.tmod (rd l0 (ji65)) 2))))))] 39 (0,0)) (zb_ BK8) hg (Kd.R_ne HO_6.out BK8.out (by decide)));have n1_:=am_ (Kd.R_over' (zr_ HO39) (Kd.R_typed (zr_ HO_6)) (by decide) hg);have n2_:=am_ (hb);have n3_:=am_ (ho);clear BK8;clear HO39;clear HB;clear HO_6;have BK8:=n0_;have HO39:=n1_;have HB:=n2_;have HO42:=n3_;clear n0_ n1_ n2_ n3_;clear ho hb hg hat))
         repeat (go_quiet (fail);try go_wp2_with fail)
         go_roundg kj10
         case measure=>have:=HK1.out;have:=HJ4.out;have:=HJ10.out;omega
         case rel=>exact ⟨(y37),(y40),(wrap64 (x7_1+2)),(by first|rfl|(simp;done)|(simp [*];done)),H',⟨by have:=HK1.out;have:=HJ4.out;have:=HJ10.out;omega⟩,⟨by (with_reducible repeat (first|apply Kd.R_alloc|apply Kd.R_drewN|apply Kd.R_drew));exact Kd.R_mono HO39.out (fun _ hk=>trivial)⟩,⟨by (with_reducible repeat (first|apply Kd.R_alloc|apply Kd.R_drewN|apply Kd.R_drew));exact HO42.out⟩,⟨zl1_ HB GE8⟩⟩
        rw [if_neg c68] at H
        have c68b0:((Int.tmod (rd l0 (ji65)) 16)==0)=false:=beq_eq_false_iff_ne.mpr c68
        by_cases c74:x5_1.length<2513169434916
        rotate_left
        ·rw [if_neg c74] at H
         exact absurd H (by simp)
        rw [if_pos c74] at H
        have LMc74:=Aside0.mk c74
        clear c74
        simp only [lm_E1,lm_E2,lm_E3,lm_E4,lm_E5] at H
        obtain ⟨y44,hy44⟩: ∃y_:List (S39),y_=(x5_1++ [(⟨(strOfNums y5),(⟨#[]⟩:ByteArray),(⟨4096,4096,wrap64 (4096 - (wrap64 ((1365)*(wrap64 (Int.tmod (rd l0 (ji65)) 2)))))⟩:S37)⟩:S39)]):=⟨_,rfl⟩
        replace H:(if x6_1.length<17592186044416 then (law11_Make.l0 kj10 l0 true y44 (x6_1++ [2731]) (wrap64 (x7_1+2))) else (none))=some r:=by first|(rw [hy44];with_reducible exact H)|(have H2_:=(Option.bind_some _ _).symm.trans H;rw [hy44];with_reducible exact H2_)|(have H2_:=(Option.bind_some _ _).symm.trans H;with_reducible exact H2_)|with_reducible exact H|(rw [hy44];exact H)|exact H
        have Ny44:=Aside0.mk hy44
        clear hy44
        by_cases c75:x6_1.length<17592186044416
        rotate_left
        ·rw [if_neg c75] at H
         exact absurd H (by simp)
        rw [if_pos c75] at H
        have LMc75:=Aside0.mk c75
        clear c75
        obtain ⟨y47,hy47⟩: ∃y_:List Int,y_=(x6_1++ [2731]):=⟨_,rfl⟩
        replace H:(law11_Make.l0 kj10 l0 true y44 y47 (wrap64 (x7_1+2)))=some r:=by first|(rw [hy47];with_reducible exact H)|(have H2_:=(Option.bind_some _ _).symm.trans H;rw [hy47];with_reducible exact H2_)|(have H2_:=(Option.bind_some _ _).symm.trans H;with_reducible exact H2_)|with_reducible exact H|(rw [hy47];exact H)|exact H
        have Ny47:=Aside0.mk hy47
        clear hy47
        have H':=Aside0.mk H
        clear H
        have p35:0≤((ji65):Int):=of_decide_eq_true zq_
        have q35:(ji65)<(l0.length:Int):=of_decide_eq_true zq_
        obtain ⟨ad35,e35,hx35_0⟩:=Kd.at_int HR0.out (ji65) p35 q35
        obtain rfl:ad4=ad35:=(by injection e35)
        replace hx35_0:=zx_ HB hx35_0
        replace p35:=eq_true p35
        replace q35:=eq_true q35
        have p43:0≤((ji65):Int):=of_decide_eq_true zq_
        have q43:(ji65)<(l0.length:Int):=of_decide_eq_true zq_
        obtain ⟨ad43,e43,hx43_0⟩:=Kd.at_int HR0.out (ji65) p43 q43
        obtain rfl:ad4=ad43:=(by injection e43)
        replace hx43_0:=zx_ HB hx43_0
        replace p43:=eq_true p43
        replace q43:=eq_true q43
        obtain ⟨hcz76_0,hcz76_1,hcz76_2,hcz76_3,hcz76_4⟩:=x5_ BK8
        have hfz76_2:=blk_frozen BK8.out 2
        have hfz76_3:=blk_frozen BK8.out 3
        have hfz76_4:=blk_frozen BK8.out 4
        go_wp2_with (first|((with_reducible refine gate_builtin (b:= .append) (xs:=#[.tmp 102, .tmp 104]) rfl ?_);(try (refine gate_guard (by rfl) ?_;dsimp only));at_builtin;refine Kd.R_append k39 (w0:=w) w.heap.size rfl (.tmp 102) (.tmp 104) 22 39 (.agg #[(.string ⟨#[]⟩),(.string ⟨#[]⟩),(.int .i64 0),(.int .i64 0),(.int .i64 0)]) 56 rfl Try.underlying22 info39 rfl (by decide) (by omega) (.slice Ao12 x5_1.length co12) x5_1 (⟨(strOfNums y5),(⟨#[]⟩:ByteArray),(⟨4096,4096,wrap64 (4096 - (wrap64 ((1365)*(wrap64 (Int.tmod (rd l0 (ji65)) 2)))))⟩:S37)⟩:S39) [.string (strOfNums y5), .string (⟨#[]⟩:ByteArray), .int .i64 4096, .int .i64 4096, .int .i64 (wrap64 (4096 - (wrap64 ((1365)*(wrap64 (Int.tmod (rd l0 (ji65)) 2))))))] (fun k_=>k_≠gb8) (fun _=>False) rfl (by first|(go_simp;done)|(go_simp;rfl)) ?aP (fun _ hk=>hk.elim) ?aF ?aO ?aB ?aS ?aL ?_;(case aP=>exact k39_mkM _ _ _ (⟨(strOfNums y5),(⟨#[]⟩:ByteArray),(⟨4096,4096,wrap64 (4096 - (wrap64 ((1365)*(wrap64 (Int.tmod (rd l0 (ji65)) 2)))))⟩:S37)⟩:S39));(case aB=>exact (zl1_ HB GE8));(case aF=>exact (fun k_ hk=>Kd.freshB (g:=gb8) (o:= .cells #[.string (strOfNums y5), .string (⟨#[]⟩:ByteArray), .int .i64 4096, .int .i64 4096, .int .i64 (wrap64 (4096 - (wrap64 ((1365)*(wrap64 (Int.tmod (rd l0 (ji65)) 2))))))] 39 (0,0)) (zw_ BK8) k_ hk));(case aO=>exact (by refine zt_ ?_;exact Kd.R_mono (Kd.R_far (p:=⟨gb8,4,none⟩) (Kd.R_far (p:=⟨gb8,3,none⟩) (Kd.R_far (p:=⟨gb8,2,none⟩) (Kd.R_mono HO_5.out (fun k_ hk=>(⟨hk,hk⟩:_∧k_≠gb8))) (fun _ hk=>hk.2) (.int .i64 4096)) (fun _ hk=>hk.2) (.int .i64 4096)) (fun _ hk=>hk.2) (.int .i64 (wrap64 (4096 - (wrap64 ((1365)*(wrap64 (Int.tmod (rd l0 (ji65)) 2)))))))) (fun _ hk=>hk.1)));(case aS=>exact (below_size (zl1_ HB GE8)));(case aL=>have:=LMc74.out;omega);intro v45 w77 ho hb hg hat;rw [←Ny44.out] at ho;have n0_:=am_ (Kd.R_over' (by refine zt_ ?_;exact (Kd.R_mono (Kd.R_far (p:=⟨gb8,4,none⟩) (Kd.R_far (p:=⟨gb8,3,none⟩) (Kd.R_far (p:=⟨gb8,2,none⟩) (Kd.R_types HO_6.out BK8.out (by decide)) (fun _ hk=>hk.2) (.int .i64 4096)) (fun _ hk=>hk.2) (.int .i64 4096)) (fun _ hk=>hk.2) (.int .i64 (wrap64 (4096 - (wrap64 ((1365)*(wrap64 (Int.tmod (rd l0 (ji65)) 2)))))))) (fun _ h_=>h_.1))) (Kd.R_typed (by refine zt_ ?_;exact (Kd.R_mono (Kd.R_far (p:=⟨gb8,4,none⟩) (Kd.R_far (p:=⟨gb8,3,none⟩) (Kd.R_far (p:=⟨gb8,2,none⟩) (Kd.R_mono HO_5.out (fun k_ hk=>(⟨hk,hk⟩:_∧k_≠gb8))) (fun _ hk=>hk.2) (.int .i64 4096)) (fun _ hk=>hk.2) (.int .i64 4096)) (fun _ hk=>hk.2) (.int .i64 (wrap64 (4096 - (wrap64 ((1365)*(wrap64 (Int.tmod (rd l0 (ji65)) 2)))))))) (fun _ h_=>h_.1)))) (by decide) hg);have n1_:=am_ (blk_grown (g:=gb8) (o:= .cells #[.string (strOfNums y5), .string (⟨#[]⟩:ByteArray), .int .i64 4096, .int .i64 4096, .int .i64 (wrap64 (4096 - (wrap64 ((1365)*(wrap64 (Int.tmod (rd l0 (ji65)) 2))))))] 39 (0,0)) (zw_ BK8) hg (Kd.R_away HO_5.out (fun _ hk=>hk)));have n2_:=am_ (hb);have n3_:=am_ (ho);clear HO_6;clear BK8;clear HB;clear HO_5;have HO_6:=n0_;have BK8:=n1_;have HB:=n2_;have HO46:=n3_;clear n0_ n1_ n2_ n3_;clear ho hb hg hat)|((with_reducible refine gate_builtin (b:= .append) (xs:=#[.tmp 106, .tmp 111]) rfl ?_);(try (refine gate_guard (by rfl) ?_;dsimp only));at_builtin;refine Kd.R_append (Kd.int .i64) (w0:=w) w.heap.size rfl (.tmp 106) (.tmp 111) 122 3 (.int .i64 0) 8 rfl Try.underlying122 info3 rfl (by decide) (by omega) u6 x6_1 (2731) [.int .i64 (2731)] (fun _=>True) (fun _=>False) rfl rfl ?aP (fun _ hk=>hk.elim) ?aF ?aO ?aB ?aS ?aL ?_;(case aP=>exact rfl);(case aB=>exact (zl1_ HB GE8));(case aF=>exact (fun _ _=>trivial));(case aO=>exact (zr_ HO_6));(case aS=>exact (below_size (zl1_ HB GE8)));(case aL=>have:=LMc75.out;omega);intro v48 w78 ho hb hg hat;rw [←Ny47.out] at ho;have n0_:=am_ (blk_grown (g:=gb8) (o:= .cells #[.string (strOfNums y5), .string (⟨#[]⟩:ByteArray), .int .i64 4096, .int .i64 4096, .int .i64 (wrap64 (4096 - (wrap64 ((1365)*(wrap64 (Int.tmod (rd l0 (ji65)) 2))))))] 39 (0,0)) (zb_ BK8) hg (Kd.R_ne HO_6.out BK8.out (by decide)));have n1_:=am_ (Kd.R_over' (zr_ HO46) (Kd.R_typed (zr_ HO_6)) (by decide) hg);have n2_:=am_ (hb);have n3_:=am_ (ho);clear BK8;clear HO46;clear HB;clear HO_6;have BK8:=n0_;have HO46:=n1_;have HB:=n2_;have HO49:=n3_;clear n0_ n1_ n2_ n3_;clear ho hb hg hat))
        repeat (go_quiet (fail);try go_wp2_with fail)
        go_roundg kj10
        case measure=>have:=HK1.out;have:=HJ4.out;have:=HJ10.out;omega
        case rel=>exact ⟨(y44),(y47),(wrap64 (x7_1+2)),(by first|rfl|(simp;done)|(simp [*];done)),H',⟨by have:=HK1.out;have:=HJ4.out;have:=HJ10.out;omega⟩,⟨by (with_reducible repeat (first|apply Kd.R_alloc|apply Kd.R_drewN|apply Kd.R_drew));exact Kd.R_mono HO46.out (fun _ hk=>trivial)⟩,⟨by (with_reducible repeat (first|apply Kd.R_alloc|apply Kd.R_drewN|apply Kd.R_drew));exact HO49.out⟩,⟨zl1_ HB GE8⟩⟩
       subst c19
       have H1:(if (x5_1.length:Int)=0 then (none) else (if 0≤(Int.tmod (wrap64 (Int.tdiv (wrap64 (rd l0 x7_1)) 3)) (x5_1.length:Int)) then (if (Int.tmod (wrap64 (Int.tdiv (wrap64 (rd l0 x7_1)) 3)) (x5_1.length:Int))<(x5_1.length:Int) then (if (Int.tmod (wrap64 (Int.tdiv (wrap64 (rd l0 x7_1)) 3)) (x5_1.length:Int))<(x6_1.length:Int) then ((some (x6_1.set ((Int.tmod (wrap64 (Int.tdiv (wrap64 (rd l0 x7_1)) 3)) (x5_1.length:Int)):Int).toNat (wrap64 ((rd x6_1 (Int.tmod (wrap64 (Int.tdiv (wrap64 (rd l0 x7_1)) 3)) (x5_1.length:Int))) - (wrap64 (Int.tdiv (rd x6_1 (Int.tmod (wrap64 (Int.tdiv (wrap64 (rd l0 x7_1)) 3)) (x5_1.length:Int))) 2)))):List Int)).bind fun y12=>(if a1=true then (if 0≤(wrap64 (x7_1+1)) then (if (wrap64 (x7_1+1))<(l0.length:Int) then (if (Int.tmod (rd l0 (wrap64 (x7_1+1))) 16)=0 then (if x5_1.length<2513169434916 then (if y12.length<17592186044416 then (law11_Make.l0 kj10 l0 a1 (x5_1++ [(⟨(strOfNums y5),(rd_T39 x5_1 (Int.tmod (wrap64 (Int.tdiv (wrap64 (rd l0 x7_1)) 3)) (x5_1.length:Int))).f0,(⟨wrap64 ((wrap64 ((wrap64 (Int.tdiv (rd x6_1 (Int.tmod (wrap64 (Int.tdiv (wrap64 (rd l0 x7_1)) 3)) (x5_1.length:Int))) 2))*2))+1),wrap64 ((wrap64 ((wrap64 (Int.tdiv (rd x6_1 (Int.tmod (wrap64 (Int.tdiv (wrap64 (rd l0 x7_1)) 3)) (x5_1.length:Int))) 2))*2))+1),wrap64 ((wrap64 ((wrap64 ((wrap64 (Int.tdiv (rd x6_1 (Int.tmod (wrap64 (Int.tdiv (wrap64 (rd l0 x7_1)) 3)) (x5_1.length:Int))) 2))*2))+1)) - (wrap64 ((wrap64 (Int.tdiv (wrap64 ((wrap64 ((wrap64 (Int.tdiv (rd x6_1 (Int.tmod (wrap64 (Int.tdiv (wrap64 (rd l0 x7_1)) 3)) (x5_1.length:Int))) 2))*2))+1)) 3))*(wrap64 (Int.tmod (rd l0 (wrap64 (x7_1+1))) 2)))))⟩:S37)⟩:S39)]) (y12++ [wrap64 ((wrap64 ((wrap64 ((wrap64 (Int.tdiv (rd x6_1 (Int.tmod (wrap64 (Int.tdiv (wrap64 (rd l0 x7_1)) 3)) (x5_1.length:Int))) 2))*2))+1)) - (wrap64 (Int.tdiv (wrap64 ((wrap64 ((wrap64 (Int.tdiv (rd x6_1 (Int.tmod (wrap64 (Int.tdiv (wrap64 (rd l0 x7_1)) 3)) (x5_1.length:Int))) 2))*2))+1)) 3)))]) (wrap64 (x7_1+2))) else (none)) else (none)) else (if x5_1.length<2513169434916 then (if y12.length<17592186044416 then (law11_Make.l0 kj10 l0 a1 (x5_1++ [(⟨(strOfNums y5),(rd_T39 x5_1 (Int.tmod (wrap64 (Int.tdiv (wrap64 (rd l0 x7_1)) 3)) (x5_1.length:Int))).f0,(⟨wrap64 (Int.tdiv (rd x6_1 (Int.tmod (wrap64 (Int.tdiv (wrap64 (rd l0 x7_1)) 3)) (x5_1.length:Int))) 2),wrap64 (Int.tdiv (rd x6_1 (Int.tmod (wrap64 (Int.tdiv (wrap64 (rd l0 x7_1)) 3)) (x5_1.length:Int))) 2),wrap64 ((wrap64 (Int.tdiv (rd x6_1 (Int.tmod (wrap64 (Int.tdiv (wrap64 (rd l0 x7_1)) 3)) (x5_1.length:Int))) 2)) - (wrap64 ((wrap64 (Int.tdiv (wrap64 (Int.tdiv (rd x6_1 (Int.tmod (wrap64 (Int.tdiv (wrap64 (rd l0 x7_1)) 3)) (x5_1.length:Int))) 2)) 3))*(wrap64 (Int.tmod (rd l0 (wrap64 (x7_1+1))) 2)))))⟩:S37)⟩:S39)]) (y12++ [wrap64 ((wrap64 (Int.tdiv (rd x6_1 (Int.tmod (wrap64 (Int.tdiv (wrap64 (rd l0 x7_1)) 3)) (x5_1.length:Int))) 2)) - (wrap64 (Int.tdiv (wrap64 (Int.tdiv (rd x6_1 (Int.tmod (wrap64 (Int.tdiv (wrap64 (rd l0 x7_1)) 3)) (x5_1.length:Int))) 2)) 3)))]) (wrap64 (x7_1+2))) else (none)) else (none))) else (none)) else (none)) else (if 0≤(wrap64 (x7_1+1)) then (if (wrap64 (x7_1+1))<(l0.length:Int) then (if x5_1.length<2513169434916 then (if y12.length<17592186044416 then (law11_Make.l0 kj10 l0 a1 (x5_1++ [(⟨(strOfNums y5),(rd_T39 x5_1 (Int.tmod (wrap64 (Int.tdiv (wrap64 (rd l0 x7_1)) 3)) (x5_1.length:Int))).f0,(⟨wrap64 (Int.tdiv (rd x6_1 (Int.tmod (wrap64 (Int.tdiv (wrap64 (rd l0 x7_1)) 3)) (x5_1.length:Int))) 2),wrap64 (Int.tdiv (rd x6_1 (Int.tmod (wrap64 (Int.tdiv (wrap64 (rd l0 x7_1)) 3)) (x5_1.length:Int))) 2),wrap64 ((wrap64 (Int.tdiv (rd x6_1 (Int.tmod (wrap64 (Int.tdiv (wrap64 (rd l0 x7_1)) 3)) (x5_1.length:Int))) 2)) - (wrap64 ((wrap64 (Int.tdiv (wrap64 (Int.tdiv (rd x6_1 (Int.tmod (wrap64 (Int.tdiv (wrap64 (rd l0 x7_1)) 3)) (x5_1.length:Int))) 2)) 3))*(wrap64 (Int.tmod (rd l0 (wrap64 (x7_1+1))) 2)))))⟩:S37)⟩:S39)]) (y12++ [wrap64 ((wrap64 (Int.tdiv (rd x6_1 (Int.tmod (wrap64 (Int.tdiv (wrap64 (rd l0 x7_1)) 3)) (x5_1.length:Int))) 2)) - (wrap64 (Int.tdiv (wrap64 (Int.tdiv (rd x6_1 (Int.tmod (wrap64 (Int.tdiv (wrap64 (rd l0 x7_1)) 3)) (x5_1.length:Int))) 2)) 3)))]) (wrap64 (x7_1+2))) else (none)) else (none)) else (none)) else (none)))) else (none)) else (none)) else (none)))=some r:=by rw [if_pos rfl] at H;exact H
       clear H
       have H:=H1
       clear H1
       by_cases c20:(x5_1.length:Int)=0
       ·rw [if_pos c20] at H
        exact absurd H (by simp)
       rw [if_neg c20] at H
       have c20b2: ¬(x5_1=[]):=fun h_=>c20 (by rw [h_];rfl)
       obtain ⟨ji21,hji21⟩: ∃j_:Int,(Int.tmod (wrap64 (Int.tdiv (wrap64 (rd l0 x7_1)) 3)) (x5_1.length:Int))=j_:=⟨_,rfl⟩
       replace H:(if 0≤(ji21) then (if (ji21)<(x5_1.length:Int) then (if (ji21)<(x6_1.length:Int) then ((some (x6_1.set ((ji21):Int).toNat (wrap64 ((rd x6_1 (ji21)) - (wrap64 (Int.tdiv (rd x6_1 (ji21)) 2)))):List Int)).bind fun y12=>(if a1=true then (if 0≤(wrap64 (x7_1+1)) then (if (wrap64 (x7_1+1))<(l0.length:Int) then (if (Int.tmod (rd l0 (wrap64 (x7_1+1))) 16)=0 then (if x5_1.length<2513169434916 then (if y12.length<17592186044416 then (law11_Make.l0 kj10 l0 a1 (x5_1++ [(⟨(strOfNums y5),(rd_T39 x5_1 (ji21)).f0,(⟨wrap64 ((wrap64 ((wrap64 (Int.tdiv (rd x6_1 (ji21)) 2))*2))+1),wrap64 ((wrap64 ((wrap64 (Int.tdiv (rd x6_1 (ji21)) 2))*2))+1),wrap64 ((wrap64 ((wrap64 ((wrap64 (Int.tdiv (rd x6_1 (ji21)) 2))*2))+1)) - (wrap64 ((wrap64 (Int.tdiv (wrap64 ((wrap64 ((wrap64 (Int.tdiv (rd x6_1 (ji21)) 2))*2))+1)) 3))*(wrap64 (Int.tmod (rd l0 (wrap64 (x7_1+1))) 2)))))⟩:S37)⟩:S39)]) (y12++ [wrap64 ((wrap64 ((wrap64 ((wrap64 (Int.tdiv (rd x6_1 (ji21)) 2))*2))+1)) - (wrap64 (Int.tdiv (wrap64 ((wrap64 ((wrap64 (Int.tdiv (rd x6_1 (ji21)) 2))*2))+1)) 3)))]) (wrap64 (x7_1+2))) else (none)) else (none)) else (if x5_1.length<2513169434916 then (if y12.length<17592186044416 then (law11_Make.l0 kj10 l0 a1 (x5_1++ [(⟨(strOfNums y5),(rd_T39 x5_1 (ji21)).f0,(⟨wrap64 (Int.tdiv (rd x6_1 (ji21)) 2),wrap64 (Int.tdiv (rd x6_1 (ji21)) 2),wrap64 ((wrap64 (Int.tdiv (rd x6_1 (ji21)) 2)) - (wrap64 ((wrap64 (Int.tdiv (wrap64 (Int.tdiv (rd x6_1 (ji21)) 2)) 3))*(wrap64 (Int.tmod (rd l0 (wrap64 (x7_1+1))) 2)))))⟩:S37)⟩:S39)]) (y12++ [wrap64 ((wrap64 (Int.tdiv (rd x6_1 (ji21)) 2)) - (wrap64 (Int.tdiv (wrap64 (Int.tdiv (rd x6_1 (ji21)) 2)) 3)))]) (wrap64 (x7_1+2))) else (none)) else (none))) else (none)) else (none)) else (if 0≤(wrap64 (x7_1+1)) then (if (wrap64 (x7_1+1))<(l0.length:Int) then (if x5_1.length<2513169434916 then (if y12.length<17592186044416 then (law11_Make.l0 kj10 l0 a1 (x5_1++ [(⟨(strOfNums y5),(rd_T39 x5_1 (ji21)).f0,(⟨wrap64 (Int.tdiv (rd x6_1 (ji21)) 2),wrap64 (Int.tdiv (rd x6_1 (ji21)) 2),wrap64 ((wrap64 (Int.tdiv (rd x6_1 (ji21)) 2)) - (wrap64 ((wrap64 (Int.tdiv (wrap64 (Int.tdiv (rd x6_1 (ji21)) 2)) 3))*(wrap64 (Int.tmod (rd l0 (wrap64 (x7_1+1))) 2)))))⟩:S37)⟩:S39)]) (y12++ [wrap64 ((wrap64 (Int.tdiv (rd x6_1 (ji21)) 2)) - (wrap64 (Int.tdiv (wrap64 (Int.tdiv (rd x6_1 (ji21)) 2)) 3)))]) (wrap64 (x7_1+2))) else (none)) else (none)) else (none)) else (none)))) else (none)) else (none)) else (none))=some r:=by first|(rw [hji21] at H;exact H)|(simp only [hji21] at H ⊢;exact H)
       by_cases c22:0≤(ji21)
       rotate_left
       ·rw [if_neg c22] at H
        exact absurd H (by simp)
       rw [if_pos c22] at H
       have c22b0:decide (0≤(ji21))=true:=decide_eq_true c22
       clear c22
       by_cases c23:(ji21)<(x5_1.length:Int)
       rotate_left
       ·rw [if_neg c23] at H
        exact absurd H (by simp)
       rw [if_pos c23] at H
       have c23b0:decide ((ji21)<(x5_1.length:Int))=true:=decide_eq_true c23
       clear c23
       by_cases c24:(ji21)<(x6_1.length:Int)
       rotate_left
       ·rw [if_neg c24] at H
        exact absurd H (by simp)
       rw [if_pos c24] at H
       have c24b0:decide ((ji21)<(x6_1.length:Int))=true:=decide_eq_true c24
       clear c24
       obtain ⟨y12,hy12⟩: ∃y_:List Int,y_=(x6_1.set ((ji21):Int).toNat (wrap64 ((rd x6_1 (ji21)) - (wrap64 (Int.tdiv (rd x6_1 (ji21)) 2))))):=⟨_,rfl⟩
       replace H:(if a1=true then (if 0≤(wrap64 (x7_1+1)) then (if (wrap64 (x7_1+1))<(l0.length:Int) then (if (Int.tmod (rd l0 (wrap64 (x7_1+1))) 16)=0 then (if x5_1.length<2513169434916 then (if y12.length<17592186044416 then (law11_Make.l0 kj10 l0 a1 (x5_1++ [(⟨(strOfNums y5),(rd_T39 x5_1 (ji21)).f0,(⟨wrap64 ((wrap64 ((wrap64 (Int.tdiv (rd x6_1 (ji21)) 2))*2))+1),wrap64 ((wrap64 ((wrap64 (Int.tdiv (rd x6_1 (ji21)) 2))*2))+1),wrap64 ((wrap64 ((wrap64 ((wrap64 (Int.tdiv (rd x6_1 (ji21)) 2))*2))+1)) - (wrap64 ((wrap64 (Int.tdiv (wrap64 ((wrap64 ((wrap64 (Int.tdiv (rd x6_1 (ji21)) 2))*2))+1)) 3))*(wrap64 (Int.tmod (rd l0 (wrap64 (x7_1+1))) 2)))))⟩:S37)⟩:S39)]) (y12++ [wrap64 ((wrap64 ((wrap64 ((wrap64 (Int.tdiv (rd x6_1 (ji21)) 2))*2))+1)) - (wrap64 (Int.tdiv (wrap64 ((wrap64 ((wrap64 (Int.tdiv (rd x6_1 (ji21)) 2))*2))+1)) 3)))]) (wrap64 (x7_1+2))) else (none)) else (none)) else (if x5_1.length<2513169434916 then (if y12.length<17592186044416 then (law11_Make.l0 kj10 l0 a1 (x5_1++ [(⟨(strOfNums y5),(rd_T39 x5_1 (ji21)).f0,(⟨wrap64 (Int.tdiv (rd x6_1 (ji21)) 2),wrap64 (Int.tdiv (rd x6_1 (ji21)) 2),wrap64 ((wrap64 (Int.tdiv (rd x6_1 (ji21)) 2)) - (wrap64 ((wrap64 (Int.tdiv (wrap64 (Int.tdiv (rd x6_1 (ji21)) 2)) 3))*(wrap64 (Int.tmod (rd l0 (wrap64 (x7_1+1))) 2)))))⟩:S37)⟩:S39)]) (y12++ [wrap64 ((wrap64 (Int.tdiv (rd x6_1 (ji21)) 2)) - (wrap64 (Int.tdiv (wrap64 (Int.tdiv (rd x6_1 (ji21)) 2)) 3)))]) (wrap64 (x7_1+2))) else (none)) else (none))) else (none)) else (none)) else (if 0≤(wrap64 (x7_1+1)) then (if (wrap64 (x7_1+1))<(l0.length:Int) then (if x5_1.length<2513169434916 then (if y12.length<17592186044416 then (law11_Make.l0 kj10 l0 a1 (x5_1++ [(⟨(strOfNums y5),(rd_T39 x5_1 (ji21)).f0,(⟨wrap64 (Int.tdiv (rd x6_1 (ji21)) 2),wrap64 (Int.tdiv (rd x6_1 (ji21)) 2),wrap64 ((wrap64 (Int.tdiv (rd x6_1 (ji21)) 2)) - (wrap64 ((wrap64 (Int.tdiv (wrap64 (Int.tdiv (rd x6_1 (ji21)) 2)) 3))*(wrap64 (Int.tmod (rd l0 (wrap64 (x7_1+1))) 2)))))⟩:S37)⟩:S39)]) (y12++ [wrap64 ((wrap64 (Int.tdiv (rd x6_1 (ji21)) 2)) - (wrap64 (Int.tdiv (wrap64 (Int.tdiv (rd x6_1 (ji21)) 2)) 3)))]) (wrap64 (x7_1+2))) else (none)) else (none)) else (none)) else (none)))=some r:=by first|(rw [hy12];with_reducible exact H)|(have H2_:=(Option.bind_some _ _).symm.trans H;rw [hy12];with_reducible exact H2_)|(have H2_:=(Option.bind_some _ _).symm.trans H;with_reducible exact H2_)|with_reducible exact H|(rw [hy12];exact H)|exact H
       have Ny12:=Aside0.mk hy12
       clear hy12
       by_cases c26:a1=true
       rotate_left
       ·replace c26:=Bool.eq_false_iff.mpr c26
        subst c26
        have H1:(if 0≤(wrap64 (x7_1+1)) then (if (wrap64 (x7_1+1))<(l0.length:Int) then (if x5_1.length<2513169434916 then (if y12.length<17592186044416 then (law11_Make.l0 kj10 l0 false (x5_1++ [(⟨(strOfNums y5),(rd_T39 x5_1 (ji21)).f0,(⟨wrap64 (Int.tdiv (rd x6_1 (ji21)) 2),wrap64 (Int.tdiv (rd x6_1 (ji21)) 2),wrap64 ((wrap64 (Int.tdiv (rd x6_1 (ji21)) 2)) - (wrap64 ((wrap64 (Int.tdiv (wrap64 (Int.tdiv (rd x6_1 (ji21)) 2)) 3))*(wrap64 (Int.tmod (rd l0 (wrap64 (x7_1+1))) 2)))))⟩:S37)⟩:S39)]) (y12++ [wrap64 ((wrap64 (Int.tdiv (rd x6_1 (ji21)) 2)) - (wrap64 (Int.tdiv (wrap64 (Int.tdiv (rd x6_1 (ji21)) 2)) 3)))]) (wrap64 (x7_1+2))) else (none)) else (none)) else (none)) else (none))=some r:=by rw [if_neg (show¬(false=true) by decide)] at H;exact H
        clear H
        have H:=H1
        clear H1
        obtain ⟨ji51,hji51⟩: ∃j_:Int,(wrap64 (x7_1+1))=j_:=⟨_,rfl⟩
        replace H:(if 0≤(ji51) then (if (ji51)<(l0.length:Int) then (if x5_1.length<2513169434916 then (if y12.length<17592186044416 then (law11_Make.l0 kj10 l0 false (x5_1++ [(⟨(strOfNums y5),(rd_T39 x5_1 (ji21)).f0,(⟨wrap64 (Int.tdiv (rd x6_1 (ji21)) 2),wrap64 (Int.tdiv (rd x6_1 (ji21)) 2),wrap64 ((wrap64 (Int.tdiv (rd x6_1 (ji21)) 2)) - (wrap64 ((wrap64 (Int.tdiv (wrap64 (Int.tdiv (rd x6_1 (ji21)) 2)) 3))*(wrap64 (Int.tmod (rd l0 (ji51)) 2)))))⟩:S37)⟩:S39)]) (y12++ [wrap64 ((wrap64 (Int.tdiv (rd x6_1 (ji21)) 2)) - (wrap64 (Int.tdiv (wrap64 (Int.tdiv (rd x6_1 (ji21)) 2)) 3)))]) (wrap64 (x7_1+2))) else (none)) else (none)) else (none)) else (none))=some r:=by first|(rw [hji51] at H;exact H)|(simp only [hji51] at H ⊢;exact H)
        have hji51w:(IntKind.i64.wrap (x7_1+1))=ji51:=(i64_w _).trans hji51
        by_cases c52:0≤(ji51)
        rotate_left
        ·rw [if_neg c52] at H
         exact absurd H (by simp)
        rw [if_pos c52] at H
        have c52b0:decide (0≤(ji51))=true:=decide_eq_true c52
        clear c52
        by_cases c53:(ji51)<(l0.length:Int)
        rotate_left
        ·rw [if_neg c53] at H
         exact absurd H (by simp)
        rw [if_pos c53] at H
        have c53b0:decide ((ji51)<(l0.length:Int))=true:=decide_eq_true c53
        clear c53
        by_cases c54:x5_1.length<2513169434916
        rotate_left
        ·rw [if_neg c54] at H
         exact absurd H (by simp)
        rw [if_pos c54] at H
        have LMc54:=Aside0.mk c54
        clear c54
        obtain ⟨y29,hy29⟩: ∃y_:List (S39),y_=(x5_1++ [(⟨(strOfNums y5),(rd_T39 x5_1 (ji21)).f0,(⟨wrap64 (Int.tdiv (rd x6_1 (ji21)) 2),wrap64 (Int.tdiv (rd x6_1 (ji21)) 2),wrap64 ((wrap64 (Int.tdiv (rd x6_1 (ji21)) 2)) - (wrap64 ((wrap64 (Int.tdiv (wrap64 (Int.tdiv (rd x6_1 (ji21)) 2)) 3))*(wrap64 (Int.tmod (rd l0 (ji51)) 2)))))⟩:S37)⟩:S39)]):=⟨_,rfl⟩
        replace H:(if y12.length<17592186044416 then (law11_Make.l0 kj10 l0 false y29 (y12++ [wrap64 ((wrap64 (Int.tdiv (rd x6_1 (ji21)) 2)) - (wrap64 (Int.tdiv (wrap64 (Int.tdiv (rd x6_1 (ji21)) 2)) 3)))]) (wrap64 (x7_1+2))) else (none))=some r:=by first|(rw [hy29];with_reducible exact H)|(have H2_:=(Option.bind_some _ _).symm.trans H;rw [hy29];with_reducible exact H2_)|(have H2_:=(Option.bind_some _ _).symm.trans H;with_reducible exact H2_)|with_reducible exact H|(rw [hy29];exact H)|exact H
        have Ny29:=Aside0.mk hy29
        clear hy29
        by_cases c55:y12.length<17592186044416
        rotate_left
        ·rw [if_neg c55] at H
         exact absurd H (by simp)
        rw [if_pos c55] at H
        have LMc55:=Aside0.mk c55
        clear c55
        obtain ⟨y32,hy32⟩: ∃y_:List Int,y_=(y12++ [wrap64 ((wrap64 (Int.tdiv (rd x6_1 (ji21)) 2)) - (wrap64 (Int.tdiv (wrap64 (Int.tdiv (rd x6_1 (ji21)) 2)) 3)))]):=⟨_,rfl⟩
        replace H:(law11_Make.l0 kj10 l0 false y29 y32 (wrap64 (x7_1+2)))=some r:=by first|(rw [hy32];with_reducible exact H)|(have H2_:=(Option.bind_some _ _).symm.trans H;rw [hy32];with_reducible exact H2_)|(have H2_:=(Option.bind_some _ _).symm.trans H;with_reducible exact H2_)|with_reducible exact H|(rw [hy32];exact H)|exact H
        have Ny32:=Aside0.mk hy32
        clear hy32
        have H':=Aside0.mk H
        clear H
        have p9:0≤((ji21):Int):=of_decide_eq_true zq_
        have q9:(ji21)<(x5_1.length:Int):=of_decide_eq_true zq_
        obtain ⟨ad9,e9,hx9_0,hx9_1,hx9_2,hx9_3,hx9_4⟩:=at_T39 (Kd.R_reads' HO_5.out).2.2 (ji21) p9 q9
        cases e9
        replace p9:=eq_true p9
        replace q9:=eq_true q9
        have hcz56_1:=zz_ BK8 1
        have hfz56_1:=blk_frozen BK8.out 1
        go_wp2_with (first|((with_reducible refine gate_store (t:=9) (p:=58) rfl ?_);(try (rw [drewN_self wc];generalize hq_:World.drewN wc _=wc;have n0_:=am_ (Kd.R_at hq_ HO_5.out);have n1_:=am_ (Kd.R_at hq_ HO_6.out);have n2_:=am_ (blk_at hq_ BK8.out);have n3_:=am_ (below_at hq_ HB.out);clear hq_ HO_5 HO_6 BK8 HB;have HO_5:=n0_;have HO_6:=n1_;have BK8:=n2_;have HB:=n3_;clear n0_ n1_ n2_ n3_));refine store_event (t:=9) (p:=58) (v:= ?vo_w57) (w1:=(wc.setCell ⟨gb8,1,none⟩ (.string ((rd_T39 x5_1 (ji21)).f0)))) ?hg ?ho ?hn ?hr ?_;(case ho=>rfl);(case hg=>rfl);(case hn=>rfl);(case hr=>first|(go_simp;done)|(go_simp;rfl));intro w57 hw;have n0_:Aside0 (Kd.R k39 39 w57 w.heap.size (fun k_=>k_≠gb8) (.slice (some ad9) x5_1.length co12) x5_1):=⟨(by rw [hw];exact (by refine zt_ ?_;exact Kd.R_mono (Kd.R_far (p:=⟨gb8,1,none⟩) (Kd.R_mono HO_5.out (fun k_ hk=>(⟨hk,hk⟩:_∧k_≠gb8))) (fun _ hk=>hk.2) (.string ((rd_T39 x5_1 (ji21)).f0))) (fun _ hk=>hk.1)))⟩;have n1_:Aside0 (Kd.R (Kd.int .i64) 3 w57 w.heap.size (fun _=>True) u6 x6_1):=⟨(by rw [hw];exact (by refine zt_ ?_;exact Kd.R_mono (Kd.R_far (p:=⟨gb8,1,none⟩) (Kd.R_types HO_6.out BK8.out (by decide)) (fun _ hk=>hk.2) (.string ((rd_T39 x5_1 (ji21)).f0))) (fun _ hk=>trivial)))⟩;have n2_:Aside0 (w57.heap[gb8]?=some (.cells #[.string (strOfNums y5), .string ((rd_T39 x5_1 (ji21)).f0), .int .i64 4096, .int .i64 4096, .int .i64 4096] 39 (0,0))):=⟨(by rw [hw];exact (zw_ BK8))⟩;have n3_:Aside0 (Below w.heap.size w w57):=⟨(by rw [hw];exact (zl1_ HB GE8))⟩;clear hw;clear HO_5;clear HO_6;clear BK8;clear HB;have HO_5:=n0_;have HO_6:=n1_;have BK8:=n2_;have HB:=n3_;clear n0_ n1_ n2_ n3_;obtain ⟨Ao58,co58,eo58⟩:=Kd.R_slice HO_6.out;subst eo58;have p10:0≤((ji21):Int):=of_decide_eq_true zq_;have q10:(ji21)<(x6_1.length:Int):=of_decide_eq_true zq_;obtain ⟨ad10,e10,hx10_0⟩:=Kd.at_int (Kd.R_reads' HO_6.out).2.2 (ji21) p10 q10;cases e10;replace p10:=eq_true p10;replace q10:=eq_true q10;have p11:0≤((ji21):Int):=of_decide_eq_true zq_;have q11:(ji21)<(x6_1.length:Int):=of_decide_eq_true zq_;obtain ⟨ad11,e11,hx11_0⟩:=Kd.at_int (Kd.R_reads' HO_6.out).2.2 (ji21) p11 q11;obtain rfl:ad10=ad11:=(by injection e11);replace p11:=eq_true p11;replace q11:=eq_true q11;have p25:0≤((ji21):Int):=of_decide_eq_true zq_;have q25:((ji21):Int)<((x6_1.length:Int):Int):=of_decide_eq_true zq_;obtain ⟨go25,co25,eo25,gb25,gl25,cl25,HG25⟩:=Kd.R_form HO_6.out (by omega);(first|cases eo25|(injection eo25 with ea_ en_ ec_;(first|subst ea_|(injection ea_ with ea_;subst ea_));subst ec_;clear en_));have GB25:=Aside0.mk gb25;clear gb25 gl25 HG25;replace hx10_0:=zv_ hx10_0;replace hx11_0:=zv_ hx11_0;obtain ⟨hx25_0,hf25_0⟩:=Kd.R_celln 0 HO_6.out ((ji21):Int) p25 q25;replace p25:=eq_true p25;replace q25:=eq_true q25;obtain ⟨hy59_,hz59_⟩:=Kd.R_celln 0 HO_6.out ((ji21):Int) (of_decide_eq_true zq_) (of_decide_eq_true zq_);have HP59:=Kd.R_putg HO_6.out ((ji21):Int) (wrap64 ((rd x6_1 (ji21)) - (wrap64 (Int.tdiv (rd x6_1 (ji21)) 2)))))|((with_reducible refine gate_store (t:=3) (p:=72) rfl ?_);(try (rw [drewN_self w57];generalize hq_:World.drewN w57 _=w57;have n0_:=am_ (Kd.R_at hq_ HO_5.out);have n1_:=am_ (Kd.R_at hq_ HO_6.out);have n2_:=am_ (blk_at hq_ BK8.out);have n3_:=am_ (below_at hq_ HB.out);clear hq_ HO_5 HO_6 BK8 HB;have HO_5:=n0_;have HO_6:=n1_;have BK8:=n2_;have HB:=n3_;clear n0_ n1_ n2_ n3_;(try (obtain ⟨hy59_,hz59_⟩:=Kd.R_celln 0 HO_6.out ((ji21):Int) (of_decide_eq_true zq_) (of_decide_eq_true zq_)));(try (have HP59:=Kd.R_putg HO_6.out ((ji21):Int) (wrap64 ((rd x6_1 (ji21)) - (wrap64 (Int.tdiv (rd x6_1 (ji21)) 2))))))));refine store_event (t:=3) (p:=72) (v:= ?vo_w60) (w1:=(w57.setCell ⟨go25,((ji21):Int).toNat,none⟩ (.int .i64 (wrap64 ((rd x6_1 (ji21)) - (wrap64 (Int.tdiv (rd x6_1 (ji21)) 2))))))) ?hg ?ho ?hn ?hr ?_;(case ho=>rfl);(case hg=>rfl);(case hn=>rfl);(case hr=>first|(go_simp;done)|(go_simp;rfl));intro w60 hw;have hg:w57.grownBy w60 (some go25):=(by rw [hw];exact HP59.2);have hp_:Kd.R (Kd.int .i64) 3 w60 w.heap.size (fun _=>True) (.slice (some ⟨go25,0,none⟩) x6_1.length co58) y12:=(by rw [hw,Ny12.out];exact HP59.1);clear HP59;replace HO_5:=am_ (Kd.R_over' (v:=(.slice (some ⟨go25,0,none⟩) x6_1.length co58)) (zr_ HO_5) (Kd.R_typed HO_6.out) (by decide) hg);replace BK8:=am_ (blk_grown (zb_ BK8) hg (Kd.R_ne HO_6.out BK8.out (by decide)));replace HO_6:=am_ (hp_);replace HB:=am_ ((by rw [hw];exact below_set (HB.out) GB25.out:Below w.heap.size w w60));clear hg hw hp_;have p28:0≤((ji51):Int):=of_decide_eq_true zq_;have q28:(ji51)<(l0.length:Int):=of_decide_eq_true zq_;obtain ⟨ad28,e28,hx28_0⟩:=Kd.at_int HR0.out (ji51) p28 q28;obtain rfl:ad4=ad28:=(by injection e28);replace hx28_0:=zx_ HB hx28_0;replace p28:=eq_true p28;replace q28:=eq_true q28;obtain ⟨hcz61_0,hcz61_1,hcz61_2,hcz61_3,hcz61_4⟩:=x5_ BK8;have hfz61_2:=blk_frozen BK8.out 2;have hfz61_3:=blk_frozen BK8.out 3;have hfz61_4:=blk_frozen BK8.out 4)|((with_reducible refine gate_builtin (b:= .append) (xs:=#[.tmp 102, .tmp 104]) rfl ?_);(try (refine gate_guard (by rfl) ?_;dsimp only));at_builtin;refine Kd.R_append k39 (w0:=w) w.heap.size rfl (.tmp 102) (.tmp 104) 22 39 (.agg #[(.string ⟨#[]⟩),(.string ⟨#[]⟩),(.int .i64 0),(.int .i64 0),(.int .i64 0)]) 56 rfl Try.underlying22 info39 rfl (by decide) (by omega) (.slice (some ad9) x5_1.length co12) x5_1 (⟨(strOfNums y5),(rd_T39 x5_1 (ji21)).f0,(⟨wrap64 (Int.tdiv (rd x6_1 (ji21)) 2),wrap64 (Int.tdiv (rd x6_1 (ji21)) 2),wrap64 ((wrap64 (Int.tdiv (rd x6_1 (ji21)) 2)) - (wrap64 ((wrap64 (Int.tdiv (wrap64 (Int.tdiv (rd x6_1 (ji21)) 2)) 3))*(wrap64 (Int.tmod (rd l0 (ji51)) 2)))))⟩:S37)⟩:S39) [.string (strOfNums y5), .string ((rd_T39 x5_1 (ji21)).f0), .int .i64 (wrap64 (Int.tdiv (rd x6_1 (ji21)) 2)), .int .i64 (wrap64 (Int.tdiv (rd x6_1 (ji21)) 2)), .int .i64 (wrap64 ((wrap64 (Int.tdiv (rd x6_1 (ji21)) 2)) - (wrap64 ((wrap64 (Int.tdiv (wrap64 (Int.tdiv (rd x6_1 (ji21)) 2)) 3))*(wrap64 (Int.tmod (rd l0 (ji51)) 2))))))] (fun k_=>k_≠gb8) (fun _=>False) rfl (by first|(go_simp;done)|(go_simp;rfl)) ?aP (fun _ hk=>hk.elim) ?aF ?aO ?aB ?aS ?aL ?_;(case aP=>exact k39_mkM _ _ _ (⟨(strOfNums y5),(rd_T39 x5_1 (ji21)).f0,(⟨wrap64 (Int.tdiv (rd x6_1 (ji21)) 2),wrap64 (Int.tdiv (rd x6_1 (ji21)) 2),wrap64 ((wrap64 (Int.tdiv (rd x6_1 (ji21)) 2)) - (wrap64 ((wrap64 (Int.tdiv (wrap64 (Int.tdiv (rd x6_1 (ji21)) 2)) 3))*(wrap64 (Int.tmod (rd l0 (ji51)) 2)))))⟩:S37)⟩:S39));(case aB=>exact (zl1_ HB GE8));(case aF=>exact (fun k_ hk=>Kd.freshB (g:=gb8) (o:= .cells #[.string (strOfNums y5), .string ((rd_T39 x5_1 (ji21)).f0), .int .i64 (wrap64 (Int.tdiv (rd x6_1 (ji21)) 2)), .int .i64 (wrap64 (Int.tdiv (rd x6_1 (ji21)) 2)), .int .i64 (wrap64 ((wrap64 (Int.tdiv (rd x6_1 (ji21)) 2)) - (wrap64 ((wrap64 (Int.tdiv (wrap64 (Int.tdiv (rd x6_1 (ji21)) 2)) 3))*(wrap64 (Int.tmod (rd l0 (ji51)) 2))))))] 39 (0,0)) (zw_ BK8) k_ hk));(case aO=>exact (by refine zt_ ?_;exact Kd.R_mono (Kd.R_far (p:=⟨gb8,4,none⟩) (Kd.R_far (p:=⟨gb8,3,none⟩) (Kd.R_far (p:=⟨gb8,2,none⟩) (Kd.R_mono HO_5.out (fun k_ hk=>(⟨hk,hk⟩:_∧k_≠gb8))) (fun _ hk=>hk.2) (.int .i64 (wrap64 (Int.tdiv (rd x6_1 (ji21)) 2)))) (fun _ hk=>hk.2) (.int .i64 (wrap64 (Int.tdiv (rd x6_1 (ji21)) 2)))) (fun _ hk=>hk.2) (.int .i64 (wrap64 ((wrap64 (Int.tdiv (rd x6_1 (ji21)) 2)) - (wrap64 ((wrap64 (Int.tdiv (wrap64 (Int.tdiv (rd x6_1 (ji21)) 2)) 3))*(wrap64 (Int.tmod (rd l0 (ji51)) 2)))))))) (fun _ hk=>hk.1)));(case aS=>exact (below_size (zl1_ HB GE8)));(case aL=>have:=LMc54.out;omega);intro v30 w62 ho hb hg hat;rw [←Ny29.out] at ho;have n0_:=am_ (Kd.R_over' (by refine zt_ ?_;exact (Kd.R_mono (Kd.R_far (p:=⟨gb8,4,none⟩) (Kd.R_far (p:=⟨gb8,3,none⟩) (Kd.R_far (p:=⟨gb8,2,none⟩) (Kd.R_types HO_6.out BK8.out (by decide)) (fun _ hk=>hk.2) (.int .i64 (wrap64 (Int.tdiv (rd x6_1 (ji21)) 2)))) (fun _ hk=>hk.2) (.int .i64 (wrap64 (Int.tdiv (rd x6_1 (ji21)) 2)))) (fun _ hk=>hk.2) (.int .i64 (wrap64 ((wrap64 (Int.tdiv (rd x6_1 (ji21)) 2)) - (wrap64 ((wrap64 (Int.tdiv (wrap64 (Int.tdiv (rd x6_1 (ji21)) 2)) 3))*(wrap64 (Int.tmod (rd l0 (ji51)) 2)))))))) (fun _ h_=>h_.1))) (Kd.R_typed (by refine zt_ ?_;exact (Kd.R_mono (Kd.R_far (p:=⟨gb8,4,none⟩) (Kd.R_far (p:=⟨gb8,3,none⟩) (Kd.R_far (p:=⟨gb8,2,none⟩) (Kd.R_mono HO_5.out (fun k_ hk=>(⟨hk,hk⟩:_∧k_≠gb8))) (fun _ hk=>hk.2) (.int .i64 (wrap64 (Int.tdiv (rd x6_1 (ji21)) 2)))) (fun _ hk=>hk.2) (.int .i64 (wrap64 (Int.tdiv (rd x6_1 (ji21)) 2)))) (fun _ hk=>hk.2) (.int .i64 (wrap64 ((wrap64 (Int.tdiv (rd x6_1 (ji21)) 2)) - (wrap64 ((wrap64 (Int.tdiv (wrap64 (Int.tdiv (rd x6_1 (ji21)) 2)) 3))*(wrap64 (Int.tmod (rd l0 (ji51)) 2)))))))) (fun _ h_=>h_.1)))) (by decide) hg);have n1_:=am_ (blk_grown (g:=gb8) (o:= .cells #[.string (strOfNums y5), .string ((rd_T39 x5_1 (ji21)).f0), .int .i64 (wrap64 (Int.tdiv (rd x6_1 (ji21)) 2)), .int .i64 (wrap64 (Int.tdiv (rd x6_1 (ji21)) 2)), .int .i64 (wrap64 ((wrap64 (Int.tdiv (rd x6_1 (ji21)) 2)) - (wrap64 ((wrap64 (Int.tdiv (wrap64 (Int.tdiv (rd x6_1 (ji21)) 2)) 3))*(wrap64 (Int.tmod (rd l0 (ji51)) 2))))))] 39 (0,0)) (zw_ BK8) hg (Kd.R_away HO_5.out (fun _ hk=>hk)));have n2_:=am_ (hb);have n3_:=am_ (ho);clear HO_6;clear BK8;clear HB;clear HO_5;have HO_6:=n0_;have BK8:=n1_;have HB:=n2_;have HO31:=n3_;clear n0_ n1_ n2_ n3_;clear ho hb hg hat)|((with_reducible refine gate_builtin (b:= .append) (xs:=#[.tmp 106, .tmp 111]) rfl ?_);(try (refine gate_guard (by rfl) ?_;dsimp only));at_builtin;refine Kd.R_append (Kd.int .i64) (w0:=w) w.heap.size rfl (.tmp 106) (.tmp 111) 122 3 (.int .i64 0) 8 rfl Try.underlying122 info3 rfl (by decide) (by omega) (.slice (some ⟨go25,0,none⟩) x6_1.length co58) y12 (wrap64 ((wrap64 (Int.tdiv (rd x6_1 (ji21)) 2)) - (wrap64 (Int.tdiv (wrap64 (Int.tdiv (rd x6_1 (ji21)) 2)) 3)))) [.int .i64 (wrap64 ((wrap64 (Int.tdiv (rd x6_1 (ji21)) 2)) - (wrap64 (Int.tdiv (wrap64 (Int.tdiv (rd x6_1 (ji21)) 2)) 3))))] (fun _=>True) (fun _=>False) rfl rfl ?aP (fun _ hk=>hk.elim) ?aF ?aO ?aB ?aS ?aL ?_;(case aP=>exact rfl);(case aB=>exact (zl1_ HB GE8));(case aF=>exact (fun _ _=>trivial));(case aO=>exact (zr_ HO_6));(case aS=>exact (below_size (zl1_ HB GE8)));(case aL=>have:=LMc55.out;omega);intro v33 w63 ho hb hg hat;rw [←Ny32.out] at ho;have n0_:=am_ (blk_grown (zb_ BK8) hg (Kd.R_ne HO_6.out BK8.out (by decide)));have n1_:=am_ (Kd.R_over' (zr_ HO31) (Kd.R_typed (zr_ HO_6)) (by decide) hg);have n2_:=am_ (hb);have n3_:=am_ (ho);clear BK8;clear HO31;clear HB;clear HO_6;have BK8:=n0_;have HO31:=n1_;have HB:=n2_;have HO34:=n3_;clear n0_ n1_ n2_ n3_;clear ho hb hg hat))
        repeat (go_quiet (fail);try go_wp2_with fail)
        go_roundg kj10
        case measure=>have:=HK1.out;have:=HJ4.out;have:=HJ10.out;omega
        case rel=>exact ⟨(y29),(y32),(wrap64 (x7_1+2)),(by first|rfl|(simp;done)|(simp [*];done)),H',⟨by have:=HK1.out;have:=HJ4.out;have:=HJ10.out;omega⟩,⟨by (with_reducible repeat (first|apply Kd.R_alloc|apply Kd.R_drewN|apply Kd.R_drew));exact Kd.R_mono HO31.out (fun _ hk=>trivial)⟩,⟨by (with_reducible repeat (first|apply Kd.R_alloc|apply Kd.R_drewN|apply Kd.R_drew));exact HO34.out⟩,⟨zl1_ HB GE8⟩⟩
       subst c26
       have H1:(if 0≤(wrap64 (x7_1+1)) then (if (wrap64 (x7_1+1))<(l0.length:Int) then (if (Int.tmod (rd l0 (wrap64 (x7_1+1))) 16)=0 then (if x5_1.length<2513169434916 then (if y12.length<17592186044416 then (law11_Make.l0 kj10 l0 true (x5_1++ [(⟨(strOfNums y5),(rd_T39 x5_1 (ji21)).f0,(⟨wrap64 ((wrap64 ((wrap64 (Int.tdiv (rd x6_1 (ji21)) 2))*2))+1),wrap64 ((wrap64 ((wrap64 (Int.tdiv (rd x6_1 (ji21)) 2))*2))+1),wrap64 ((wrap64 ((wrap64 ((wrap64 (Int.tdiv (rd x6_1 (ji21)) 2))*2))+1)) - (wrap64 ((wrap64 (Int.tdiv (wrap64 ((wrap64 ((wrap64 (Int.tdiv (rd x6_1 (ji21)) 2))*2))+1)) 3))*(wrap64 (Int.tmod (rd l0 (wrap64 (x7_1+1))) 2)))))⟩:S37)⟩:S39)]) (y12++ [wrap64 ((wrap64 ((wrap64 ((wrap64 (Int.tdiv (rd x6_1 (ji21)) 2))*2))+1)) - (wrap64 (Int.tdiv (wrap64 ((wrap64 ((wrap64 (Int.tdiv (rd x6_1 (ji21)) 2))*2))+1)) 3)))]) (wrap64 (x7_1+2))) else (none)) else (none)) else (if x5_1.length<2513169434916 then (if y12.length<17592186044416 then (law11_Make.l0 kj10 l0 true (x5_1++ [(⟨(strOfNums y5),(rd_T39 x5_1 (ji21)).f0,(⟨wrap64 (Int.tdiv (rd x6_1 (ji21)) 2),wrap64 (Int.tdiv (rd x6_1 (ji21)) 2),wrap64 ((wrap64 (Int.tdiv (rd x6_1 (ji21)) 2)) - (wrap64 ((wrap64 (Int.tdiv (wrap64 (Int.tdiv (rd x6_1 (ji21)) 2)) 3))*(wrap64 (Int.tmod (rd l0 (wrap64 (x7_1+1))) 2)))))⟩:S37)⟩:S39)]) (y12++ [wrap64 ((wrap64 (Int.tdiv (rd x6_1 (ji21)) 2)) - (wrap64 (Int.tdiv (wrap64 (Int.tdiv (rd x6_1 (ji21)) 2)) 3)))]) (wrap64 (x7_1+2))) else (none)) else (none))) else (none)) else (none))=some r:=by rw [if_pos rfl] at H;exact H
       clear H
       have H:=H1
       clear H1
       obtain ⟨ji27,hji27⟩: ∃j_:Int,(wrap64 (x7_1+1))=j_:=⟨_,rfl⟩
       replace H:(if 0≤(ji27) then (if (ji27)<(l0.length:Int) then (if (Int.tmod (rd l0 (ji27)) 16)=0 then (if x5_1.length<2513169434916 then (if y12.length<17592186044416 then (law11_Make.l0 kj10 l0 true (x5_1++ [(⟨(strOfNums y5),(rd_T39 x5_1 (ji21)).f0,(⟨wrap64 ((wrap64 ((wrap64 (Int.tdiv (rd x6_1 (ji21)) 2))*2))+1),wrap64 ((wrap64 ((wrap64 (Int.tdiv (rd x6_1 (ji21)) 2))*2))+1),wrap64 ((wrap64 ((wrap64 ((wrap64 (Int.tdiv (rd x6_1 (ji21)) 2))*2))+1)) - (wrap64 ((wrap64 (Int.tdiv (wrap64 ((wrap64 ((wrap64 (Int.tdiv (rd x6_1 (ji21)) 2))*2))+1)) 3))*(wrap64 (Int.tmod (rd l0 (ji27)) 2)))))⟩:S37)⟩:S39)]) (y12++ [wrap64 ((wrap64 ((wrap64 ((wrap64 (Int.tdiv (rd x6_1 (ji21)) 2))*2))+1)) - (wrap64 (Int.tdiv (wrap64 ((wrap64 ((wrap64 (Int.tdiv (rd x6_1 (ji21)) 2))*2))+1)) 3)))]) (wrap64 (x7_1+2))) else (none)) else (none)) else (if x5_1.length<2513169434916 then (if y12.length<17592186044416 then (law11_Make.l0 kj10 l0 true (x5_1++ [(⟨(strOfNums y5),(rd_T39 x5_1 (ji21)).f0,(⟨wrap64 (Int.tdiv (rd x6_1 (ji21)) 2),wrap64 (Int.tdiv (rd x6_1 (ji21)) 2),wrap64 ((wrap64 (Int.tdiv (rd x6_1 (ji21)) 2)) - (wrap64 ((wrap64 (Int.tdiv (wrap64 (Int.tdiv (rd x6_1 (ji21)) 2)) 3))*(wrap64 (Int.tmod (rd l0 (ji27)) 2)))))⟩:S37)⟩:S39)]) (y12++ [wrap64 ((wrap64 (Int.tdiv (rd x6_1 (ji21)) 2)) - (wrap64 (Int.tdiv (wrap64 (Int.tdiv (rd x6_1 (ji21)) 2)) 3)))]) (wrap64 (x7_1+2))) else (none)) else (none))) else (none)) else (none))=some r:=by first|(rw [hji27] at H;exact H)|(simp only [hji27] at H ⊢;exact H)
       have hji27w:(IntKind.i64.wrap (x7_1+1))=ji27:=(i64_w _).trans hji27
       by_cases c28:0≤(ji27)
       rotate_left
       ·rw [if_neg c28] at H
        exact absurd H (by simp)
       rw [if_pos c28] at H
       have c28b0:decide (0≤(ji27))=true:=decide_eq_true c28
       clear c28
       by_cases c29:(ji27)<(l0.length:Int)
       rotate_left
       ·rw [if_neg c29] at H
        exact absurd H (by simp)
       rw [if_pos c29] at H
       have c29b0:decide ((ji27)<(l0.length:Int))=true:=decide_eq_true c29
       clear c29
       by_cases c30:(Int.tmod (rd l0 (ji27)) 16)=0
       ·rw [if_pos c30] at H
        have c30b0:((Int.tmod (rd l0 (ji27)) 16)==0)=true:=beq_iff_eq.mpr c30
        clear c30
        by_cases c31:x5_1.length<2513169434916
        rotate_left
        ·rw [if_neg c31] at H
         exact absurd H (by simp)
        rw [if_pos c31] at H
        have LMc31:=Aside0.mk c31
        clear c31
        obtain ⟨y15,hy15⟩: ∃y_:List (S39),y_=(x5_1++ [(⟨(strOfNums y5),(rd_T39 x5_1 (ji21)).f0,(⟨wrap64 ((wrap64 ((wrap64 (Int.tdiv (rd x6_1 (ji21)) 2))*2))+1),wrap64 ((wrap64 ((wrap64 (Int.tdiv (rd x6_1 (ji21)) 2))*2))+1),wrap64 ((wrap64 ((wrap64 ((wrap64 (Int.tdiv (rd x6_1 (ji21)) 2))*2))+1)) - (wrap64 ((wrap64 (Int.tdiv (wrap64 ((wrap64 ((wrap64 (Int.tdiv (rd x6_1 (ji21)) 2))*2))+1)) 3))*(wrap64 (Int.tmod (rd l0 (ji27)) 2)))))⟩:S37)⟩:S39)]):=⟨_,rfl⟩
        replace H:(if y12.length<17592186044416 then (law11_Make.l0 kj10 l0 true y15 (y12++ [wrap64 ((wrap64 ((wrap64 ((wrap64 (Int.tdiv (rd x6_1 (ji21)) 2))*2))+1)) - (wrap64 (Int.tdiv (wrap64 ((wrap64 ((wrap64 (Int.tdiv (rd x6_1 (ji21)) 2))*2))+1)) 3)))]) (wrap64 (x7_1+2))) else (none))=some r:=by first|(rw [hy15];with_reducible exact H)|(have H2_:=(Option.bind_some _ _).symm.trans H;rw [hy15];with_reducible exact H2_)|(have H2_:=(Option.bind_some _ _).symm.trans H;with_reducible exact H2_)|with_reducible exact H|(rw [hy15];exact H)|exact H
        have Ny15:=Aside0.mk hy15
        clear hy15
        by_cases c32:y12.length<17592186044416
        rotate_left
        ·rw [if_neg c32] at H
         exact absurd H (by simp)
        rw [if_pos c32] at H
        have LMc32:=Aside0.mk c32
        clear c32
        obtain ⟨y18,hy18⟩: ∃y_:List Int,y_=(y12++ [wrap64 ((wrap64 ((wrap64 ((wrap64 (Int.tdiv (rd x6_1 (ji21)) 2))*2))+1)) - (wrap64 (Int.tdiv (wrap64 ((wrap64 ((wrap64 (Int.tdiv (rd x6_1 (ji21)) 2))*2))+1)) 3)))]):=⟨_,rfl⟩
        replace H:(law11_Make.l0 kj10 l0 true y15 y18 (wrap64 (x7_1+2)))=some r:=by first|(rw [hy18];with_reducible exact H)|(have H2_:=(Option.bind_some _ _).symm.trans H;rw [hy18];with_reducible exact H2_)|(have H2_:=(Option.bind_some _ _).symm.trans H;with_reducible exact H2_)|with_reducible exact H|(rw [hy18];exact H)|exact H
        have Ny18:=Aside0.mk hy18
        clear hy18
        have H':=Aside0.mk H
        clear H
        have p9:0≤((ji21):Int):=of_decide_eq_true zq_
        have q9:(ji21)<(x5_1.length:Int):=of_decide_eq_true zq_
        obtain ⟨ad9,e9,hx9_0,hx9_1,hx9_2,hx9_3,hx9_4⟩:=at_T39 (Kd.R_reads' HO_5.out).2.2 (ji21) p9 q9
        cases e9
        replace p9:=eq_true p9
        replace q9:=eq_true q9
        have hcz33_1:=zz_ BK8 1
        have hfz33_1:=blk_frozen BK8.out 1
        go_wp2_with (first|((with_reducible refine gate_store (t:=9) (p:=58) rfl ?_);(try (rw [drewN_self wc];generalize hq_:World.drewN wc _=wc;have n0_:=am_ (Kd.R_at hq_ HO_5.out);have n1_:=am_ (Kd.R_at hq_ HO_6.out);have n2_:=am_ (blk_at hq_ BK8.out);have n3_:=am_ (below_at hq_ HB.out);clear hq_ HO_5 HO_6 BK8 HB;have HO_5:=n0_;have HO_6:=n1_;have BK8:=n2_;have HB:=n3_;clear n0_ n1_ n2_ n3_));refine store_event (t:=9) (p:=58) (v:= ?vo_w34) (w1:=(wc.setCell ⟨gb8,1,none⟩ (.string ((rd_T39 x5_1 (ji21)).f0)))) ?hg ?ho ?hn ?hr ?_;(case ho=>rfl);(case hg=>rfl);(case hn=>rfl);(case hr=>first|(go_simp;done)|(go_simp;rfl));intro w34 hw;have n0_:Aside0 (Kd.R k39 39 w34 w.heap.size (fun k_=>k_≠gb8) (.slice (some ad9) x5_1.length co12) x5_1):=⟨(by rw [hw];exact (by refine zt_ ?_;exact Kd.R_mono (Kd.R_far (p:=⟨gb8,1,none⟩) (Kd.R_mono HO_5.out (fun k_ hk=>(⟨hk,hk⟩:_∧k_≠gb8))) (fun _ hk=>hk.2) (.string ((rd_T39 x5_1 (ji21)).f0))) (fun _ hk=>hk.1)))⟩;have n1_:Aside0 (Kd.R (Kd.int .i64) 3 w34 w.heap.size (fun _=>True) u6 x6_1):=⟨(by rw [hw];exact (by refine zt_ ?_;exact Kd.R_mono (Kd.R_far (p:=⟨gb8,1,none⟩) (Kd.R_types HO_6.out BK8.out (by decide)) (fun _ hk=>hk.2) (.string ((rd_T39 x5_1 (ji21)).f0))) (fun _ hk=>trivial)))⟩;have n2_:Aside0 (w34.heap[gb8]?=some (.cells #[.string (strOfNums y5), .string ((rd_T39 x5_1 (ji21)).f0), .int .i64 4096, .int .i64 4096, .int .i64 4096] 39 (0,0))):=⟨(by rw [hw];exact (zw_ BK8))⟩;have n3_:Aside0 (Below w.heap.size w w34):=⟨(by rw [hw];exact (zl1_ HB GE8))⟩;clear hw;clear HO_5;clear HO_6;clear BK8;clear HB;have HO_5:=n0_;have HO_6:=n1_;have BK8:=n2_;have HB:=n3_;clear n0_ n1_ n2_ n3_;obtain ⟨Ao35,co35,eo35⟩:=Kd.R_slice HO_6.out;subst eo35;have p10:0≤((ji21):Int):=of_decide_eq_true zq_;have q10:(ji21)<(x6_1.length:Int):=of_decide_eq_true zq_;obtain ⟨ad10,e10,hx10_0⟩:=Kd.at_int (Kd.R_reads' HO_6.out).2.2 (ji21) p10 q10;cases e10;replace p10:=eq_true p10;replace q10:=eq_true q10;have p11:0≤((ji21):Int):=of_decide_eq_true zq_;have q11:(ji21)<(x6_1.length:Int):=of_decide_eq_true zq_;obtain ⟨ad11,e11,hx11_0⟩:=Kd.at_int (Kd.R_reads' HO_6.out).2.2 (ji21) p11 q11;obtain rfl:ad10=ad11:=(by injection e11);replace p11:=eq_true p11;replace q11:=eq_true q11;have p25:0≤((ji21):Int):=of_decide_eq_true zq_;have q25:((ji21):Int)<((x6_1.length:Int):Int):=of_decide_eq_true zq_;obtain ⟨go25,co25,eo25,gb25,gl25,cl25,HG25⟩:=Kd.R_form HO_6.out (by omega);(first|cases eo25|(injection eo25 with ea_ en_ ec_;(first|subst ea_|(injection ea_ with ea_;subst ea_));subst ec_;clear en_));have GB25:=Aside0.mk gb25;clear gb25 gl25 HG25;replace hx10_0:=zv_ hx10_0;replace hx11_0:=zv_ hx11_0;obtain ⟨hx25_0,hf25_0⟩:=Kd.R_celln 0 HO_6.out ((ji21):Int) p25 q25;replace p25:=eq_true p25;replace q25:=eq_true q25;obtain ⟨hy36_,hz36_⟩:=Kd.R_celln 0 HO_6.out ((ji21):Int) (of_decide_eq_true zq_) (of_decide_eq_true zq_);have HP36:=Kd.R_putg HO_6.out ((ji21):Int) (wrap64 ((rd x6_1 (ji21)) - (wrap64 (Int.tdiv (rd x6_1 (ji21)) 2)))))|((with_reducible refine gate_store (t:=3) (p:=72) rfl ?_);(try (rw [drewN_self w34];generalize hq_:World.drewN w34 _=w34;have n0_:=am_ (Kd.R_at hq_ HO_5.out);have n1_:=am_ (Kd.R_at hq_ HO_6.out);have n2_:=am_ (blk_at hq_ BK8.out);have n3_:=am_ (below_at hq_ HB.out);clear hq_ HO_5 HO_6 BK8 HB;have HO_5:=n0_;have HO_6:=n1_;have BK8:=n2_;have HB:=n3_;clear n0_ n1_ n2_ n3_;(try (obtain ⟨hy36_,hz36_⟩:=Kd.R_celln 0 HO_6.out ((ji21):Int) (of_decide_eq_true zq_) (of_decide_eq_true zq_)));(try (have HP36:=Kd.R_putg HO_6.out ((ji21):Int) (wrap64 ((rd x6_1 (ji21)) - (wrap64 (Int.tdiv (rd x6_1 (ji21)) 2))))))));refine store_event (t:=3) (p:=72) (v:= ?vo_w37) (w1:=(w34.setCell ⟨go25,((ji21):Int).toNat,none⟩ (.int .i64 (wrap64 ((rd x6_1 (ji21)) - (wrap64 (Int.tdiv (rd x6_1 (ji21)) 2))))))) ?hg ?ho ?hn ?hr ?_;(case ho=>rfl);(case hg=>rfl);(case hn=>rfl);(case hr=>first|(go_simp;done)|(go_simp;rfl));intro w37 hw;have hg:w34.grownBy w37 (some go25):=(by rw [hw];exact HP36.2);have hp_:Kd.R (Kd.int .i64) 3 w37 w.heap.size (fun _=>True) (.slice (some ⟨go25,0,none⟩) x6_1.length co35) y12:=(by rw [hw,Ny12.out];exact HP36.1);clear HP36;replace HO_5:=am_ (Kd.R_over' (v:=(.slice (some ⟨go25,0,none⟩) x6_1.length co35)) (zr_ HO_5) (Kd.R_typed HO_6.out) (by decide) hg);replace BK8:=am_ (blk_grown (zb_ BK8) hg (Kd.R_ne HO_6.out BK8.out (by decide)));replace HO_6:=am_ (hp_);replace HB:=am_ ((by rw [hw];exact below_set (HB.out) GB25.out:Below w.heap.size w w37));clear hg hw hp_;have p13:0≤((ji27):Int):=of_decide_eq_true zq_;have q13:(ji27)<(l0.length:Int):=of_decide_eq_true zq_;obtain ⟨ad13,e13,hx13_0⟩:=Kd.at_int HR0.out (ji27) p13 q13;obtain rfl:ad4=ad13:=(by injection e13);replace hx13_0:=zx_ HB hx13_0;replace p13:=eq_true p13;replace q13:=eq_true q13;have p14:0≤((ji27):Int):=of_decide_eq_true zq_;have q14:(ji27)<(l0.length:Int):=of_decide_eq_true zq_;obtain ⟨ad14,e14,hx14_0⟩:=Kd.at_int HR0.out (ji27) p14 q14;obtain rfl:ad4=ad14:=(by injection e14);replace hx14_0:=zx_ HB hx14_0;replace p14:=eq_true p14;replace q14:=eq_true q14;obtain ⟨hcz38_0,hcz38_1,hcz38_2,hcz38_3,hcz38_4⟩:=x5_ BK8;have hfz38_2:=blk_frozen BK8.out 2;have hfz38_3:=blk_frozen BK8.out 3;have hfz38_4:=blk_frozen BK8.out 4)|((with_reducible refine gate_builtin (b:= .append) (xs:=#[.tmp 102, .tmp 104]) rfl ?_);(try (refine gate_guard (by rfl) ?_;dsimp only));at_builtin;refine Kd.R_append k39 (w0:=w) w.heap.size rfl (.tmp 102) (.tmp 104) 22 39 (.agg #[(.string ⟨#[]⟩),(.string ⟨#[]⟩),(.int .i64 0),(.int .i64 0),(.int .i64 0)]) 56 rfl Try.underlying22 info39 rfl (by decide) (by omega) (.slice (some ad9) x5_1.length co12) x5_1 (⟨(strOfNums y5),(rd_T39 x5_1 (ji21)).f0,(⟨wrap64 ((wrap64 ((wrap64 (Int.tdiv (rd x6_1 (ji21)) 2))*2))+1),wrap64 ((wrap64 ((wrap64 (Int.tdiv (rd x6_1 (ji21)) 2))*2))+1),wrap64 ((wrap64 ((wrap64 ((wrap64 (Int.tdiv (rd x6_1 (ji21)) 2))*2))+1)) - (wrap64 ((wrap64 (Int.tdiv (wrap64 ((wrap64 ((wrap64 (Int.tdiv (rd x6_1 (ji21)) 2))*2))+1)) 3))*(wrap64 (Int.tmod (rd l0 (ji27)) 2)))))⟩:S37)⟩:S39) [.string (strOfNums y5), .string ((rd_T39 x5_1 (ji21)).f0), .int .i64 (wrap64 ((wrap64 ((wrap64 (Int.tdiv (rd x6_1 (ji21)) 2))*2))+1)), .int .i64 (wrap64 ((wrap64 ((wrap64 (Int.tdiv (rd x6_1 (ji21)) 2))*2))+1)), .int .i64 (wrap64 ((wrap64 ((wrap64 ((wrap64 (Int.tdiv (rd x6_1 (ji21)) 2))*2))+1)) - (wrap64 ((wrap64 (Int.tdiv (wrap64 ((wrap64 ((wrap64 (Int.tdiv (rd x6_1 (ji21)) 2))*2))+1)) 3))*(wrap64 (Int.tmod (rd l0 (ji27)) 2))))))] (fun k_=>k_≠gb8) (fun _=>False) rfl (by first|(go_simp;done)|(go_simp;rfl)) ?aP (fun _ hk=>hk.elim) ?aF ?aO ?aB ?aS ?aL ?_;(case aP=>exact k39_mkM _ _ _ (⟨(strOfNums y5),(rd_T39 x5_1 (ji21)).f0,(⟨wrap64 ((wrap64 ((wrap64 (Int.tdiv (rd x6_1 (ji21)) 2))*2))+1),wrap64 ((wrap64 ((wrap64 (Int.tdiv (rd x6_1 (ji21)) 2))*2))+1),wrap64 ((wrap64 ((wrap64 ((wrap64 (Int.tdiv (rd x6_1 (ji21)) 2))*2))+1)) - (wrap64 ((wrap64 (Int.tdiv (wrap64 ((wrap64 ((wrap64 (Int.tdiv (rd x6_1 (ji21)) 2))*2))+1)) 3))*(wrap64 (Int.tmod (rd l0 (ji27)) 2)))))⟩:S37)⟩:S39));(case aB=>exact (zl1_ HB GE8));(case aF=>exact (fun k_ hk=>Kd.freshB (g:=gb8) (o:= .cells #[.string (strOfNums y5), .string ((rd_T39 x5_1 (ji21)).f0), .int .i64 (wrap64 ((wrap64 ((wrap64 (Int.tdiv (rd x6_1 (ji21)) 2))*2))+1)), .int .i64 (wrap64 ((wrap64 ((wrap64 (Int.tdiv (rd x6_1 (ji21)) 2))*2))+1)), .int .i64 (wrap64 ((wrap64 ((wrap64 ((wrap64 (Int.tdiv (rd x6_1 (ji21)) 2))*2))+1)) - (wrap64 ((wrap64 (Int.tdiv (wrap64 ((wrap64 ((wrap64 (Int.tdiv (rd x6_1 (ji21)) 2))*2))+1)) 3))*(wrap64 (Int.tmod (rd l0 (ji27)) 2))))))] 39 (0,0)) (zw_ BK8) k_ hk));(case aO=>exact (by refine zt_ ?_;exact Kd.R_mono (Kd.R_far (p:=⟨gb8,4,none⟩) (Kd.R_far (p:=⟨gb8,3,none⟩) (Kd.R_far (p:=⟨gb8,2,none⟩) (Kd.R_mono HO_5.out (fun k_ hk=>(⟨hk,hk⟩:_∧k_≠gb8))) (fun _ hk=>hk.2) (.int .i64 (wrap64 ((wrap64 ((wrap64 (Int.tdiv (rd x6_1 (ji21)) 2))*2))+1)))) (fun _ hk=>hk.2) (.int .i64 (wrap64 ((wrap64 ((wrap64 (Int.tdiv (rd x6_1 (ji21)) 2))*2))+1)))) (fun _ hk=>hk.2) (.int .i64 (wrap64 ((wrap64 ((wrap64 ((wrap64 (Int.tdiv (rd x6_1 (ji21)) 2))*2))+1)) - (wrap64 ((wrap64 (Int.tdiv (wrap64 ((wrap64 ((wrap64 (Int.tdiv (rd x6_1 (ji21)) 2))*2))+1)) 3))*(wrap64 (Int.tmod (rd l0 (ji27)) 2)))))))) (fun _ hk=>hk.1)));(case aS=>exact (below_size (zl1_ HB GE8)));(case aL=>have:=LMc31.out;omega);intro v16 w39 ho hb hg hat;rw [←Ny15.out] at ho;have n0_:=am_ (Kd.R_over' (by refine zt_ ?_;exact (Kd.R_mono (Kd.R_far (p:=⟨gb8,4,none⟩) (Kd.R_far (p:=⟨gb8,3,none⟩) (Kd.R_far (p:=⟨gb8,2,none⟩) (Kd.R_types HO_6.out BK8.out (by decide)) (fun _ hk=>hk.2) (.int .i64 (wrap64 ((wrap64 ((wrap64 (Int.tdiv (rd x6_1 (ji21)) 2))*2))+1)))) (fun _ hk=>hk.2) (.int .i64 (wrap64 ((wrap64 ((wrap64 (Int.tdiv (rd x6_1 (ji21)) 2))*2))+1)))) (fun _ hk=>hk.2) (.int .i64 (wrap64 ((wrap64 ((wrap64 ((wrap64 (Int.tdiv (rd x6_1 (ji21)) 2))*2))+1)) - (wrap64 ((wrap64 (Int.tdiv (wrap64 ((wrap64 ((wrap64 (Int.tdiv (rd x6_1 (ji21)) 2))*2))+1)) 3))*(wrap64 (Int.tmod (rd l0 (ji27)) 2)))))))) (fun _ h_=>h_.1))) (Kd.R_typed (by refine zt_ ?_;exact (Kd.R_mono (Kd.R_far (p:=⟨gb8,4,none⟩) (Kd.R_far (p:=⟨gb8,3,none⟩) (Kd.R_far (p:=⟨gb8,2,none⟩) (Kd.R_mono HO_5.out (fun k_ hk=>(⟨hk,hk⟩:_∧k_≠gb8))) (fun _ hk=>hk.2) (.int .i64 (wrap64 ((wrap64 ((wrap64 (Int.tdiv (rd x6_1 (ji21)) 2))*2))+1)))) (fun _ hk=>hk.2) (.int .i64 (wrap64 ((wrap64 ((wrap64 (Int.tdiv (rd x6_1 (ji21)) 2))*2))+1)))) (fun _ hk=>hk.2) (.int .i64 (wrap64 ((wrap64 ((wrap64 ((wrap64 (Int.tdiv (rd x6_1 (ji21)) 2))*2))+1)) - (wrap64 ((wrap64 (Int.tdiv (wrap64 ((wrap64 ((wrap64 (Int.tdiv (rd x6_1 (ji21)) 2))*2))+1)) 3))*(wrap64 (Int.tmod (rd l0 (ji27)) 2)))))))) (fun _ h_=>h_.1)))) (by decide) hg);have n1_:=am_ (blk_grown (g:=gb8) (o:= .cells #[.string (strOfNums y5), .string ((rd_T39 x5_1 (ji21)).f0), .int .i64 (wrap64 ((wrap64 ((wrap64 (Int.tdiv (rd x6_1 (ji21)) 2))*2))+1)), .int .i64 (wrap64 ((wrap64 ((wrap64 (Int.tdiv (rd x6_1 (ji21)) 2))*2))+1)), .int .i64 (wrap64 ((wrap64 ((wrap64 ((wrap64 (Int.tdiv (rd x6_1 (ji21)) 2))*2))+1)) - (wrap64 ((wrap64 (Int.tdiv (wrap64 ((wrap64 ((wrap64 (Int.tdiv (rd x6_1 (ji21)) 2))*2))+1)) 3))*(wrap64 (Int.tmod (rd l0 (ji27)) 2))))))] 39 (0,0)) (zw_ BK8) hg (Kd.R_away HO_5.out (fun _ hk=>hk)));have n2_:=am_ (hb);have n3_:=am_ (ho);clear HO_6;clear BK8;clear HB;clear HO_5;have HO_6:=n0_;have BK8:=n1_;have HB:=n2_;have HO17:=n3_;clear n0_ n1_ n2_ n3_;clear ho hb hg hat)|((with_reducible refine gate_builtin (b:= .append) (xs:=#[.tmp 106, .tmp 111]) rfl ?_);(try (refine gate_guard (by rfl) ?_;dsimp only));at_builtin;refine Kd.R_append (Kd.int .i64) (w0:=w) w.heap.size rfl (.tmp 106) (.tmp 111) 122 3 (.int .i64 0) 8 rfl Try.underlying122 info3 rfl (by decide) (by omega) (.slice (some ⟨go25,0,none⟩) x6_1.length co35) y12 (wrap64 ((wrap64 ((wrap64 ((wrap64 (Int.tdiv (rd x6_1 (ji21)) 2))*2))+1)) - (wrap64 (Int.tdiv (wrap64 ((wrap64 ((wrap64 (Int.tdiv (rd x6_1 (ji21)) 2))*2))+1)) 3)))) [.int .i64 (wrap64 ((wrap64 ((wrap64 ((wrap64 (Int.tdiv (rd x6_1 (ji21)) 2))*2))+1)) - (wrap64 (Int.tdiv (wrap64 ((wrap64 ((wrap64 (Int.tdiv (rd x6_1 (ji21)) 2))*2))+1)) 3))))] (fun _=>True) (fun _=>False) rfl rfl ?aP (fun _ hk=>hk.elim) ?aF ?aO ?aB ?aS ?aL ?_;(case aP=>exact rfl);(case aB=>exact (zl1_ HB GE8));(case aF=>exact (fun _ _=>trivial));(case aO=>exact (zr_ HO_6));(case aS=>exact (below_size (zl1_ HB GE8)));(case aL=>have:=LMc32.out;omega);intro v19 w40 ho hb hg hat;rw [←Ny18.out] at ho;have n0_:=am_ (blk_grown (zb_ BK8) hg (Kd.R_ne HO_6.out BK8.out (by decide)));have n1_:=am_ (Kd.R_over' (zr_ HO17) (Kd.R_typed (zr_ HO_6)) (by decide) hg);have n2_:=am_ (hb);have n3_:=am_ (ho);clear BK8;clear HO17;clear HB;clear HO_6;have BK8:=n0_;have HO17:=n1_;have HB:=n2_;have HO20:=n3_;clear n0_ n1_ n2_ n3_;clear ho hb hg hat))
        repeat (go_quiet (fail);try go_wp2_with fail)
        go_roundg kj10
        case measure=>have:=HK1.out;have:=HJ4.out;have:=HJ10.out;omega
        case rel=>exact ⟨(y15),(y18),(wrap64 (x7_1+2)),(by first|rfl|(simp;done)|(simp [*];done)),H',⟨by have:=HK1.out;have:=HJ4.out;have:=HJ10.out;omega⟩,⟨by (with_reducible repeat (first|apply Kd.R_alloc|apply Kd.R_drewN|apply Kd.R_drew));exact Kd.R_mono HO17.out (fun _ hk=>trivial)⟩,⟨by (with_reducible repeat (first|apply Kd.R_alloc|apply Kd.R_drewN|apply Kd.R_drew));exact HO20.out⟩,⟨zl1_ HB GE8⟩⟩
       rw [if_neg c30] at H
       have c30b0:((Int.tmod (rd l0 (ji27)) 16)==0)=false:=beq_eq_false_iff_ne.mpr c30
       by_cases c41:x5_1.length<2513169434916
       rotate_left
       ·rw [if_neg c41] at H
        exact absurd H (by simp)
       rw [if_pos c41] at H
       have LMc41:=Aside0.mk c41
       clear c41
       obtain ⟨y22,hy22⟩: ∃y_:List (S39),y_=(x5_1++ [(⟨(strOfNums y5),(rd_T39 x5_1 (ji21)).f0,(⟨wrap64 (Int.tdiv (rd x6_1 (ji21)) 2),wrap64 (Int.tdiv (rd x6_1 (ji21)) 2),wrap64 ((wrap64 (Int.tdiv (rd x6_1 (ji21)) 2)) - (wrap64 ((wrap64 (Int.tdiv (wrap64 (Int.tdiv (rd x6_1 (ji21)) 2)) 3))*(wrap64 (Int.tmod (rd l0 (ji27)) 2)))))⟩:S37)⟩:S39)]):=⟨_,rfl⟩
       replace H:(if y12.length<17592186044416 then (law11_Make.l0 kj10 l0 true y22 (y12++ [wrap64 ((wrap64 (Int.tdiv (rd x6_1 (ji21)) 2)) - (wrap64 (Int.tdiv (wrap64 (Int.tdiv (rd x6_1 (ji21)) 2)) 3)))]) (wrap64 (x7_1+2))) else (none))=some r:=by first|(rw [hy22];with_reducible exact H)|(have H2_:=(Option.bind_some _ _).symm.trans H;rw [hy22];with_reducible exact H2_)|(have H2_:=(Option.bind_some _ _).symm.trans H;with_reducible exact H2_)|with_reducible exact H|(rw [hy22];exact H)|exact H
       have Ny22:=Aside0.mk hy22
       clear hy22
       by_cases c42:y12.length<17592186044416
       rotate_left
       ·rw [if_neg c42] at H
        exact absurd H (by simp)
       rw [if_pos c42] at H
       have LMc42:=Aside0.mk c42
       clear c42
       obtain ⟨y25,hy25⟩: ∃y_:List Int,y_=(y12++ [wrap64 ((wrap64 (Int.tdiv (rd x6_1 (ji21)) 2)) - (wrap64 (Int.tdiv (wrap64 (Int.tdiv (rd x6_1 (ji21)) 2)) 3)))]):=⟨_,rfl⟩
       replace H:(law11_Make.l0 kj10 l0 true y22 y25 (wrap64 (x7_1+2)))=some r:=by first|(rw [hy25];with_reducible exact H)|(have H2_:=(Option.bind_some _ _).symm.trans H;rw [hy25];with_reducible exact H2_)|(have H2_:=(Option.bind_some _ _).symm.trans H;with_reducible exact H2_)|with_reducible exact H|(rw [hy25];exact H)|exact H
       have Ny25:=Aside0.mk hy25
       clear hy25
       have H':=Aside0.mk H
       clear H
       have p9:0≤((ji21):Int):=of_decide_eq_true zq_
       have q9:(ji21)<(x5_1.length:Int):=of_decide_eq_true zq_
       obtain ⟨ad9,e9,hx9_0,hx9_1,hx9_2,hx9_3,hx9_4⟩:=at_T39 (Kd.R_reads' HO_5.out).2.2 (ji21) p9 q9
       cases e9
       replace p9:=eq_true p9
       replace q9:=eq_true q9
       have hcz43_1:=zz_ BK8 1
       have hfz43_1:=blk_frozen BK8.out 1
       go_wp2_with (first|((with_reducible refine gate_store (t:=9) (p:=58) rfl ?_);(try (rw [drewN_self wc];generalize hq_:World.drewN wc _=wc;have n0_:=am_ (Kd.R_at hq_ HO_5.out);have n1_:=am_ (Kd.R_at hq_ HO_6.out);have n2_:=am_ (blk_at hq_ BK8.out);have n3_:=am_ (below_at hq_ HB.out);clear hq_ HO_5 HO_6 BK8 HB;have HO_5:=n0_;have HO_6:=n1_;have BK8:=n2_;have HB:=n3_;clear n0_ n1_ n2_ n3_));refine store_event (t:=9) (p:=58) (v:= ?vo_w44) (w1:=(wc.setCell ⟨gb8,1,none⟩ (.string ((rd_T39 x5_1 (ji21)).f0)))) ?hg ?ho ?hn ?hr ?_;(case ho=>rfl);(case hg=>rfl);(case hn=>rfl);(case hr=>first|(go_simp;done)|(go_simp;rfl));intro w44 hw;have n0_:Aside0 (Kd.R k39 39 w44 w.heap.size (fun k_=>k_≠gb8) (.slice (some ad9) x5_1.length co12) x5_1):=⟨(by rw [hw];exact (by refine zt_ ?_;exact Kd.R_mono (Kd.R_far (p:=⟨gb8,1,none⟩) (Kd.R_mono HO_5.out (fun k_ hk=>(⟨hk,hk⟩:_∧k_≠gb8))) (fun _ hk=>hk.2) (.string ((rd_T39 x5_1 (ji21)).f0))) (fun _ hk=>hk.1)))⟩;have n1_:Aside0 (Kd.R (Kd.int .i64) 3 w44 w.heap.size (fun _=>True) u6 x6_1):=⟨(by rw [hw];exact (by refine zt_ ?_;exact Kd.R_mono (Kd.R_far (p:=⟨gb8,1,none⟩) (Kd.R_types HO_6.out BK8.out (by decide)) (fun _ hk=>hk.2) (.string ((rd_T39 x5_1 (ji21)).f0))) (fun _ hk=>trivial)))⟩;have n2_:Aside0 (w44.heap[gb8]?=some (.cells #[.string (strOfNums y5), .string ((rd_T39 x5_1 (ji21)).f0), .int .i64 4096, .int .i64 4096, .int .i64 4096] 39 (0,0))):=⟨(by rw [hw];exact (zw_ BK8))⟩;have n3_:Aside0 (Below w.heap.size w w44):=⟨(by rw [hw];exact (zl1_ HB GE8))⟩;clear hw;clear HO_5;clear HO_6;clear BK8;clear HB;have HO_5:=n0_;have HO_6:=n1_;have BK8:=n2_;have HB:=n3_;clear n0_ n1_ n2_ n3_;obtain ⟨Ao45,co45,eo45⟩:=Kd.R_slice HO_6.out;subst eo45;have p10:0≤((ji21):Int):=of_decide_eq_true zq_;have q10:(ji21)<(x6_1.length:Int):=of_decide_eq_true zq_;obtain ⟨ad10,e10,hx10_0⟩:=Kd.at_int (Kd.R_reads' HO_6.out).2.2 (ji21) p10 q10;cases e10;replace p10:=eq_true p10;replace q10:=eq_true q10;have p11:0≤((ji21):Int):=of_decide_eq_true zq_;have q11:(ji21)<(x6_1.length:Int):=of_decide_eq_true zq_;obtain ⟨ad11,e11,hx11_0⟩:=Kd.at_int (Kd.R_reads' HO_6.out).2.2 (ji21) p11 q11;obtain rfl:ad10=ad11:=(by injection e11);replace p11:=eq_true p11;replace q11:=eq_true q11;have p25:0≤((ji21):Int):=of_decide_eq_true zq_;have q25:((ji21):Int)<((x6_1.length:Int):Int):=of_decide_eq_true zq_;obtain ⟨go25,co25,eo25,gb25,gl25,cl25,HG25⟩:=Kd.R_form HO_6.out (by omega);(first|cases eo25|(injection eo25 with ea_ en_ ec_;(first|subst ea_|(injection ea_ with ea_;subst ea_));subst ec_;clear en_));have GB25:=Aside0.mk gb25;clear gb25 gl25 HG25;replace hx10_0:=zv_ hx10_0;replace hx11_0:=zv_ hx11_0;obtain ⟨hx25_0,hf25_0⟩:=Kd.R_celln 0 HO_6.out ((ji21):Int) p25 q25;replace p25:=eq_true p25;replace q25:=eq_true q25;obtain ⟨hy46_,hz46_⟩:=Kd.R_celln 0 HO_6.out ((ji21):Int) (of_decide_eq_true zq_) (of_decide_eq_true zq_);have HP46:=Kd.R_putg HO_6.out ((ji21):Int) (wrap64 ((rd x6_1 (ji21)) - (wrap64 (Int.tdiv (rd x6_1 (ji21)) 2)))))|((with_reducible refine gate_store (t:=3) (p:=72) rfl ?_);(try (rw [drewN_self w44];generalize hq_:World.drewN w44 _=w44;have n0_:=am_ (Kd.R_at hq_ HO_5.out);have n1_:=am_ (Kd.R_at hq_ HO_6.out);have n2_:=am_ (blk_at hq_ BK8.out);have n3_:=am_ (below_at hq_ HB.out);clear hq_ HO_5 HO_6 BK8 HB;have HO_5:=n0_;have HO_6:=n1_;have BK8:=n2_;have HB:=n3_;clear n0_ n1_ n2_ n3_;(try (obtain ⟨hy46_,hz46_⟩:=Kd.R_celln 0 HO_6.out ((ji21):Int) (of_decide_eq_true zq_) (of_decide_eq_true zq_)));(try (have HP46:=Kd.R_putg HO_6.out ((ji21):Int) (wrap64 ((rd x6_1 (ji21)) - (wrap64 (Int.tdiv (rd x6_1 (ji21)) 2))))))));refine store_event (t:=3) (p:=72) (v:= ?vo_w47) (w1:=(w44.setCell ⟨go25,((ji21):Int).toNat,none⟩ (.int .i64 (wrap64 ((rd x6_1 (ji21)) - (wrap64 (Int.tdiv (rd x6_1 (ji21)) 2))))))) ?hg ?ho ?hn ?hr ?_;(case ho=>rfl);(case hg=>rfl);(case hn=>rfl);(case hr=>first|(go_simp;done)|(go_simp;rfl));intro w47 hw;have hg:w44.grownBy w47 (some go25):=(by rw [hw];exact HP46.2);have hp_:Kd.R (Kd.int .i64) 3 w47 w.heap.size (fun _=>True) (.slice (some ⟨go25,0,none⟩) x6_1.length co45) y12:=(by rw [hw,Ny12.out];exact HP46.1);clear HP46;replace HO_5:=am_ (Kd.R_over' (v:=(.slice (some ⟨go25,0,none⟩) x6_1.length co45)) (zr_ HO_5) (Kd.R_typed HO_6.out) (by decide) hg);replace BK8:=am_ (blk_grown (zb_ BK8) hg (Kd.R_ne HO_6.out BK8.out (by decide)));replace HO_6:=am_ (hp_);replace HB:=am_ ((by rw [hw];exact below_set (HB.out) GB25.out:Below w.heap.size w w47));clear hg hw hp_;have p13:0≤((ji27):Int):=of_decide_eq_true zq_;have q13:(ji27)<(l0.length:Int):=of_decide_eq_true zq_;obtain ⟨ad13,e13,hx13_0⟩:=Kd.at_int HR0.out (ji27) p13 q13;obtain rfl:ad4=ad13:=(by injection e13);replace hx13_0:=zx_ HB hx13_0;replace p13:=eq_true p13;replace q13:=eq_true q13;have p21:0≤((ji27):Int):=of_decide_eq_true zq_;have q21:(ji27)<(l0.length:Int):=of_decide_eq_true zq_;obtain ⟨ad21,e21,hx21_0⟩:=Kd.at_int HR0.out (ji27) p21 q21;obtain rfl:ad4=ad21:=(by injection e21);replace hx21_0:=zx_ HB hx21_0;replace p21:=eq_true p21;replace q21:=eq_true q21;obtain ⟨hcz48_0,hcz48_1,hcz48_2,hcz48_3,hcz48_4⟩:=x5_ BK8;have hfz48_2:=blk_frozen BK8.out 2;have hfz48_3:=blk_frozen BK8.out 3;have hfz48_4:=blk_frozen BK8.out 4)|((with_reducible refine gate_builtin (b:= .append) (xs:=#[.tmp 102, .tmp 104]) rfl ?_);(try (refine gate_guard (by rfl) ?_;dsimp only));at_builtin;refine Kd.R_append k39 (w0:=w) w.heap.size rfl (.tmp 102) (.tmp 104) 22 39 (.agg #[(.string ⟨#[]⟩),(.string ⟨#[]⟩),(.int .i64 0),(.int .i64 0),(.int .i64 0)]) 56 rfl Try.underlying22 info39 rfl (by decide) (by omega) (.slice (some ad9) x5_1.length co12) x5_1 (⟨(strOfNums y5),(rd_T39 x5_1 (ji21)).f0,(⟨wrap64 (Int.tdiv (rd x6_1 (ji21)) 2),wrap64 (Int.tdiv (rd x6_1 (ji21)) 2),wrap64 ((wrap64 (Int.tdiv (rd x6_1 (ji21)) 2)) - (wrap64 ((wrap64 (Int.tdiv (wrap64 (Int.tdiv (rd x6_1 (ji21)) 2)) 3))*(wrap64 (Int.tmod (rd l0 (ji27)) 2)))))⟩:S37)⟩:S39) [.string (strOfNums y5), .string ((rd_T39 x5_1 (ji21)).f0), .int .i64 (wrap64 (Int.tdiv (rd x6_1 (ji21)) 2)), .int .i64 (wrap64 (Int.tdiv (rd x6_1 (ji21)) 2)), .int .i64 (wrap64 ((wrap64 (Int.tdiv (rd x6_1 (ji21)) 2)) - (wrap64 ((wrap64 (Int.tdiv (wrap64 (Int.tdiv (rd x6_1 (ji21)) 2)) 3))*(wrap64 (Int.tmod (rd l0 (ji27)) 2))))))] (fun k_=>k_≠gb8) (fun _=>False) rfl (by first|(go_simp;done)|(go_simp;rfl)) ?aP (fun _ hk=>hk.elim) ?aF ?aO ?aB ?aS ?aL ?_;(case aP=>exact k39_mkM _ _ _ (⟨(strOfNums y5),(rd_T39 x5_1 (ji21)).f0,(⟨wrap64 (Int.tdiv (rd x6_1 (ji21)) 2),wrap64 (Int.tdiv (rd x6_1 (ji21)) 2),wrap64 ((wrap64 (Int.tdiv (rd x6_1 (ji21)) 2)) - (wrap64 ((wrap64 (Int.tdiv (wrap64 (Int.tdiv (rd x6_1 (ji21)) 2)) 3))*(wrap64 (Int.tmod (rd l0 (ji27)) 2)))))⟩:S37)⟩:S39));(case aB=>exact (zl1_ HB GE8));(case aF=>exact (fun k_ hk=>Kd.freshB (g:=gb8) (o:= .cells #[.string (strOfNums y5), .string ((rd_T39 x5_1 (ji21)).f0), .int .i64 (wrap64 (Int.tdiv (rd x6_1 (ji21)) 2)), .int .i64 (wrap64 (Int.tdiv (rd x6_1 (ji21)) 2)), .int .i64 (wrap64 ((wrap64 (Int.tdiv (rd x6_1 (ji21)) 2)) - (wrap64 ((wrap64 (Int.tdiv (wrap64 (Int.tdiv (rd x6_1 (ji21)) 2)) 3))*(wrap64 (Int.tmod (rd l0 (ji27)) 2))))))] 39 (0,0)) (zw_ BK8) k_ hk));(case aO=>exact (by refine zt_ ?_;exact Kd.R_mono (Kd.R_far (p:=⟨gb8,4,none⟩) (Kd.R_far (p:=⟨gb8,3,none⟩) (Kd.R_far (p:=⟨gb8,2,none⟩) (Kd.R_mono HO_5.out (fun k_ hk=>(⟨hk,hk⟩:_∧k_≠gb8))) (fun _ hk=>hk.2) (.int .i64 (wrap64 (Int.tdiv (rd x6_1 (ji21)) 2)))) (fun _ hk=>hk.2) (.int .i64 (wrap64 (Int.tdiv (rd x6_1 (ji21)) 2)))) (fun _ hk=>hk.2) (.int .i64 (wrap64 ((wrap64 (Int.tdiv (rd x6_1 (ji21)) 2)) - (wrap64 ((wrap64 (Int.tdiv (wrap64 (Int.tdiv (rd x6_1 (ji21)) 2)) 3))*(wrap64 (Int.tmod (rd l0 (ji27)) 2)))))))) (fun _ hk=>hk.1)));(case aS=>exact (below_size (zl1_ HB GE8)));(case aL=>have:=LMc41.out;omega);intro v23 w49 ho hb hg hat;rw [←Ny22.out] at ho;have n0_:=am_ (Kd.R_over' (by refine zt_ ?_;exact (Kd.R_mono (Kd.R_far (p:=⟨gb8,4,none⟩) (Kd.R_far (p:=⟨gb8,3,none⟩) (Kd.R_far (p:=⟨gb8,2,none⟩) (Kd.R_types HO_6.out BK8.out (by decide)) (fun _ hk=>hk.2) (.int .i64 (wrap64 (Int.tdiv (rd x6_1 (ji21)) 2)))) (fun _ hk=>hk.2) (.int .i64 (wrap64 (Int.tdiv (rd x6_1 (ji21)) 2)))) (fun _ hk=>hk.2) (.int .i64 (wrap64 ((wrap64 (Int.tdiv (rd x6_1 (ji21)) 2)) - (wrap64 ((wrap64 (Int.tdiv (wrap64 (Int.tdiv (rd x6_1 (ji21)) 2)) 3))*(wrap64 (Int.tmod (rd l0 (ji27)) 2)))))))) (fun _ h_=>h_.1))) (Kd.R_typed (by refine zt_ ?_;exact (Kd.R_mono (Kd.R_far (p:=⟨gb8,4,none⟩) (Kd.R_far (p:=⟨gb8,3,none⟩) (Kd.R_far (p:=⟨gb8,2,none⟩) (Kd.R_mono HO_5.out (fun k_ hk=>(⟨hk,hk⟩:_∧k_≠gb8))) (fun _ hk=>hk.2) (.int .i64 (wrap64 (Int.tdiv (rd x6_1 (ji21)) 2)))) (fun _ hk=>hk.2) (.int .i64 (wrap64 (Int.tdiv (rd x6_1 (ji21)) 2)))) (fun _ hk=>hk.2) (.int .i64 (wrap64 ((wrap64 (Int.tdiv (rd x6_1 (ji21)) 2)) - (wrap64 ((wrap64 (Int.tdiv (wrap64 (Int.tdiv (rd x6_1 (ji21)) 2)) 3))*(wrap64 (Int.tmod (rd l0 (ji27)) 2)))))))) (fun _ h_=>h_.1)))) (by decide) hg);have n1_:=am_ (blk_grown (g:=gb8) (o:= .cells #[.string (strOfNums y5), .string ((rd_T39 x5_1 (ji21)).f0), .int .i64 (wrap64 (Int.tdiv (rd x6_1 (ji21)) 2)), .int .i64 (wrap64 (Int.tdiv (rd x6_1 (ji21)) 2)), .int .i64 (wrap64 ((wrap64 (Int.tdiv (rd x6_1 (ji21)) 2)) - (wrap64 ((wrap64 (Int.tdiv (wrap64 (Int.tdiv (rd x6_1 (ji21)) 2)) 3))*(wrap64 (Int.tmod (rd l0 (ji27)) 2))))))] 39 (0,0)) (zw_ BK8) hg (Kd.R_away HO_5.out (fun _ hk=>hk)));have n2_:=am_ (hb);have n3_:=am_ (ho);clear HO_6;clear BK8;clear HB;clear HO_5;have HO_6:=n0_;have BK8:=n1_;have HB:=n2_;have HO24:=n3_;clear n0_ n1_ n2_ n3_;clear ho hb hg hat)|((with_reducible refine gate_builtin (b:= .append) (xs:=#[.tmp 106, .tmp 111]) rfl ?_);(try (refine gate_guard (by rfl) ?_;dsimp only));at_builtin;refine Kd.R_append (Kd.int .i64) (w0:=w) w.heap.size rfl (.tmp 106) (.tmp 111) 122 3 (.int .i64 0) 8 rfl Try.underlying122 info3 rfl (by decide) (by omega) (.slice (some ⟨go25,0,none⟩) x6_1.length co45) y12 (wrap64 ((wrap64 (Int.tdiv (rd x6_1 (ji21)) 2)) - (wrap64 (Int.tdiv (wrap64 (Int.tdiv (rd x6_1 (ji21)) 2)) 3)))) [.int .i64 (wrap64 ((wrap64 (Int.tdiv (rd x6_1 (ji21)) 2)) - (wrap64 (Int.tdiv (wrap64 (Int.tdiv (rd x6_1 (ji21)) 2)) 3))))] (fun _=>True) (fun _=>False) rfl rfl ?aP (fun _ hk=>hk.elim) ?aF ?aO ?aB ?aS ?aL ?_;(case aP=>exact rfl);(case aB=>exact (zl1_ HB GE8));(case aF=>exact (fun _ _=>trivial));(case aO=>exact (zr_ HO_6));(case aS=>exact (below_size (zl1_ HB GE8)));(case aL=>have:=LMc42.out;omega);intro v26 w50 ho hb hg hat;rw [←Ny25.out] at ho;have n0_:=am_ (blk_grown (zb_ BK8) hg (Kd.R_ne HO_6.out BK8.out (by decide)));have n1_:=am_ (Kd.R_over' (zr_ HO24) (Kd.R_typed (zr_ HO_6)) (by decide) hg);have n2_:=am_ (hb);have n3_:=am_ (ho);clear BK8;clear HO24;clear HB;clear HO_6;have BK8:=n0_;have HO24:=n1_;have HB:=n2_;have HO27:=n3_;clear n0_ n1_ n2_ n3_;clear ho hb hg hat))
       repeat (go_quiet (fail);try go_wp2_with fail)
       go_roundg kj10
       case measure=>have:=HK1.out;have:=HJ4.out;have:=HJ10.out;omega
       case rel=>exact ⟨(y22),(y25),(wrap64 (x7_1+2)),(by first|rfl|(simp;done)|(simp [*];done)),H',⟨by have:=HK1.out;have:=HJ4.out;have:=HJ10.out;omega⟩,⟨by (with_reducible repeat (first|apply Kd.R_alloc|apply Kd.R_drewN|apply Kd.R_drew));exact Kd.R_mono HO24.out (fun _ hk=>trivial)⟩,⟨by (with_reducible repeat (first|apply Kd.R_alloc|apply Kd.R_drewN|apply Kd.R_drew));exact HO27.out⟩,⟨zl1_ HB GE8⟩⟩
attribute [local go_sem high] eqA76
noncomputable def law18_awake.f:Option (Bool):=(plan_Steps.f (([(⟨(⟨#[97]⟩:ByteArray),(⟨#[]⟩:ByteArray),(⟨0,0,0⟩:S37)⟩:S39)]:List (S39))) ([]:List (S84)) ([]:List (S79))).bind fun bt4=>((plan_Steps.f ([]:List (S39)) ([]:List (S84)) ([]:List (S79))).bind fun bt8=>((law1_Num.f bt4.2).bind fun t12=>(if t12=0 then (if (bt4.1.length:Int)=1 then (if 0<(bt4.1.length:Int) then (if (((rd_T76 bt4.1 0).f0)==1 && ((((rd_T76 bt4.1 0).f1).toList)==([97]:List UInt8) && ((((rd_T76 bt4.1 0).f2).toList)==([]:List UInt8) && ((((rd_T76 bt4.1 0).f3.f0)==0 && (((rd_T76 bt4.1 0).f3.f1)==0 && (((rd_T76 bt4.1 0).f3.f2)==0)))))))=true then ((law1_Num.f bt8.2).bind fun t14=>(if t14=0 then (some ((bt8.1.length:Int)==0)) else (some false))) else (some false)) else (none)) else (some false)) else (some false))))
set_option maxHeartbeats 8000000 in
set_option maxRecDepth 100000 in
theorem law18_awake.calls (r:Bool) (w:World) (h:law18_awake.f=some r):
  Calls Try.prog 47 #[] w fun e w'=>e= .returned (.bool r)∧Below w.heap.size w w':=by
 have hu39:=Try.underlying39
 have hu76:=Try.underlying76
 have HB:=am_ (Below.refl w.heap.size w)
 have H:((plan_Steps.f (([(⟨(⟨#[97]⟩:ByteArray),(⟨#[]⟩:ByteArray),(⟨0,0,0⟩:S37)⟩:S39)]:List (S39))) ([]:List (S84)) ([]:List (S79))).bind fun bt4=>((plan_Steps.f ([]:List (S39)) ([]:List (S84)) ([]:List (S79))).bind fun bt8=>((law1_Num.f bt4.2).bind fun t12=>(if t12=0 then (if (bt4.1.length:Int)=1 then (if 0<(bt4.1.length:Int) then (if (((rd_T76 bt4.1 0).f0)==1 && ((((rd_T76 bt4.1 0).f1).toList)==([97]:List UInt8) && ((((rd_T76 bt4.1 0).f2).toList)==([]:List UInt8) && ((((rd_T76 bt4.1 0).f3.f0)==0 && (((rd_T76 bt4.1 0).f3.f1)==0 && (((rd_T76 bt4.1 0).f3.f2)==0)))))))=true then ((law1_Num.f bt8.2).bind fun t14=>(if t14=0 then (some ((bt8.1.length:Int)==0)) else (some false))) else (some false)) else (none)) else (some false)) else (some false)))))=some r:=h
 clear h
 obtain ⟨y1,hy1⟩: ∃y_:List (S39),y_=(([(⟨(⟨#[97]⟩:ByteArray),(⟨#[]⟩:ByteArray),(⟨0,0,0⟩:S37)⟩:S39)]:List (S39))):=⟨_,rfl⟩
 replace H:((plan_Steps.f y1 ([]:List (S84)) ([]:List (S79))).bind fun bt4=>((plan_Steps.f ([]:List (S39)) ([]:List (S84)) ([]:List (S79))).bind fun bt8=>((law1_Num.f bt4.2).bind fun t12=>(if t12=0 then (if (bt4.1.length:Int)=1 then (if 0<(bt4.1.length:Int) then (if (((rd_T76 bt4.1 0).f0)==1 && ((((rd_T76 bt4.1 0).f1).toList)==([97]:List UInt8) && ((((rd_T76 bt4.1 0).f2).toList)==([]:List UInt8) && ((((rd_T76 bt4.1 0).f3.f0)==0 && (((rd_T76 bt4.1 0).f3.f1)==0 && (((rd_T76 bt4.1 0).f3.f2)==0)))))))=true then ((law1_Num.f bt8.2).bind fun t14=>(if t14=0 then (some ((bt8.1.length:Int)==0)) else (some false))) else (some false)) else (none)) else (some false)) else (some false)))))=some r:=by first|(rw [hy1];with_reducible exact H)|(have H2_:=(Option.bind_some _ _).symm.trans H;rw [hy1];with_reducible exact H2_)|(have H2_:=(Option.bind_some _ _).symm.trans H;with_reducible exact H2_)|with_reducible exact H|(rw [hy1];exact H)|exact H
 have Ny1:=Aside0.mk hy1
 clear hy1
 replace H:=Option.bind_eq_some_iff.mp H
 obtain ⟨⟨t4,t5⟩,A10,H⟩:=H
 try dsimp only at H
 have A1:=Aside0.mk A10
 clear A10
 replace H:=Option.bind_eq_some_iff.mp H
 obtain ⟨⟨t8,t9⟩,A20,H⟩:=H
 try dsimp only at H
 have A2:=Aside0.mk A20
 clear A20
 replace H:=Option.bind_eq_some_iff.mp H
 obtain ⟨t12,A30,H⟩:=H
 try dsimp only at H
 have A3:=Aside0.mk A30
 clear A30
 by_cases c4:t12=0
 rotate_left
 ·rw [if_neg c4] at H
  have c4b0:(t12==0)=false:=beq_eq_false_iff_ne.mpr c4
  have c4b1:(t12 !=0)=true:=bne_iff_ne.mpr c4
  obtain rfl:=Option.some.inj H
  go_enter Try.func47,Try.ntmps47
  go_wp2_with (first|((with_reducible refine gate_dst (N:=7) rfl ?_);(try (refine gate_guard (by rfl) ?_;dsimp only));refine Kd.R_lit k39 _ 39 ?hg (N:=7) ?hd (xs:=([(⟨(⟨#[97]⟩:ByteArray),(⟨#[]⟩:ByteArray),(⟨0,0,0⟩:S37)⟩:S39)]:List (S39))) (inner:=[.string (⟨#[97]⟩:ByteArray), .string (⟨#[]⟩:ByteArray), .int .i64 0, .int .i64 0, .int .i64 0]) (ok:=fun _=>True) (okp:=fun _=>True) ?hr ?hp (fun _ hk=>hk) trivial (Below.refl _ _) (Nat.le_refl _) (by simp) ?_;(case hd=>rfl);(case hg=>rfl);(case hr=>first|(go_simp;done)|(go_simp;rfl));(case hp=>exact (Reps.c5 (show Kd.M k39 _ _ _ (⟨(⟨#[97]⟩:ByteArray),(⟨#[]⟩:ByteArray),(⟨0,0,0⟩:S37)⟩:S39) [.string (⟨#[97]⟩:ByteArray), .string (⟨#[]⟩:ByteArray), .int .i64 0, .int .i64 0, .int .i64 0] from (k39_mkM _ _ _ (⟨(⟨#[97]⟩:ByteArray),(⟨#[]⟩:ByteArray),(⟨0,0,0⟩:S37)⟩:S39))) (Reps.none _ _)));intro v2 w35 ho36 hb hg_ hnew_;clear hg_ hnew_;(first|rw [←Ny1.out] at ho36|(simp only [Int.reduceToNat] at ho36;rw [←Ny1.out] at ho36));have HO3:=am_ (Kd.R_lower ho36 (below_size (zl0_ HB)));replace HB:=am_ (below_step (zl0_ HB) hb);clear hb ho36;obtain ⟨Ao37,co37,eo37⟩:=Kd.R_slice HO3.out;subst eo37)|((with_reducible refine gate_callee (f:=48) rfl ?_);refine gl_ (some 8) Try.func48 #[.slice Ao37 y1.length co37, .slice none 0 0, .slice none 0 0] ?_;(refine (plan_Steps.calls _ _ y1 _ _ ([]:List (S84)) _ _ ([]:List (S79)) t4 t5 _ ?side1 ?side2 ?side3 ?side4 ?side5 ?side6 A1.out).mono ?_);(case side1=>exact zc_ (Kd.R_reads' HO3.out).2.2);(case side2=>exact (Kd.R_reads' HO3.out).2.1);(case side3=>exact Kd.C_nil _ _);(case side4=>exact Nat.le_refl _);(case side5=>exact Kd.C_nil _ _);(case side6=>exact Nat.le_refl _);rintro e w38 ⟨v6,rfl,ho0,hb⟩;refine ⟨_,rfl, ?_⟩;replace HO3:=am_ (Kd.R_below (zr_ HO3) hb);have HO7:=am_ (Kd.R_lower ho0 (below_size (zl0_ HB)));replace HB:=am_ (below_step (zl0_ HB) hb);(try clear hb);(try clear hb2);(try clear hk);(try clear hi);(try clear ho0))|((with_reducible refine gate_callee (f:=48) rfl ?_);refine gl_ (some 12) Try.func48 #[.slice none 0 0, .slice none 0 0, .slice none 0 0] ?_;(refine (plan_Steps.calls _ _ ([]:List (S39)) _ _ ([]:List (S84)) _ _ ([]:List (S79)) t8 t9 _ ?side1 ?side2 ?side3 ?side4 ?side5 ?side6 A2.out).mono ?_);(case side1=>exact Kd.C_nil _ _);(case side2=>exact Nat.le_refl _);(case side3=>exact Kd.C_nil _ _);(case side4=>exact Nat.le_refl _);(case side5=>exact Kd.C_nil _ _);(case side6=>exact Nat.le_refl _);rintro e w39 ⟨v10,rfl,ho0,hb⟩;refine ⟨_,rfl, ?_⟩;replace HO3:=am_ (Kd.R_below (zr_ HO3) hb);have HO11:=am_ (Kd.R_lower (Kd.R_new' ho0 (Kd.R_lt (zr_ HO7))) (below_size (zl0_ HB)));replace HO7:=am_ (Kd.R_elder' (zr_ HO7) (Kd.R_base ho0) hb);replace HB:=am_ (below_step (zl0_ HB) hb);(try clear hb);(try clear hb2);(try clear hk);(try clear hi);(try clear ho0))|((with_reducible refine gate_callee (f:=25) rfl ?_);refine gl_ (some 16) Try.func25 #[.int .i64 t5] ?_;(with_reducible refine (law1_Num.calls t5 t12 _ A3.out).mono ?_);rintro e w' ⟨rfl,⟨nd,rfl⟩⟩;refine ⟨_,rfl, ?_⟩))
  go_ret
  exact ⟨by first|rfl|(simp [errW_none,errW_some]<;>rfl)|(simp [*,errW_none,errW_some]<;>rfl),zl0_ HB⟩

 rw [if_pos c4] at H
 have c4b0:(t12==0)=true:=beq_iff_eq.mpr c4
 have c4b1:(t12 !=0)=false:=bne_eq_false_iff_eq.mpr c4
 clear c4
 by_cases c5:(t4.length:Int)=1
 rotate_left
 ·rw [if_neg c5] at H
  have c5b0:((t4.length:Int)==1)=false:=beq_eq_false_iff_ne.mpr c5
  have c5b1:((t4.length:Int) !=1)=true:=bne_iff_ne.mpr c5
  obtain rfl:=Option.some.inj H
  go_enter Try.func47,Try.ntmps47
  go_wp2_with (first|((with_reducible refine gate_dst (N:=7) rfl ?_);(try (refine gate_guard (by rfl) ?_;dsimp only));refine Kd.R_lit k39 _ 39 ?hg (N:=7) ?hd (xs:=([(⟨(⟨#[97]⟩:ByteArray),(⟨#[]⟩:ByteArray),(⟨0,0,0⟩:S37)⟩:S39)]:List (S39))) (inner:=[.string (⟨#[97]⟩:ByteArray), .string (⟨#[]⟩:ByteArray), .int .i64 0, .int .i64 0, .int .i64 0]) (ok:=fun _=>True) (okp:=fun _=>True) ?hr ?hp (fun _ hk=>hk) trivial (Below.refl _ _) (Nat.le_refl _) (by simp) ?_;(case hd=>rfl);(case hg=>rfl);(case hr=>first|(go_simp;done)|(go_simp;rfl));(case hp=>exact (Reps.c5 (show Kd.M k39 _ _ _ (⟨(⟨#[97]⟩:ByteArray),(⟨#[]⟩:ByteArray),(⟨0,0,0⟩:S37)⟩:S39) [.string (⟨#[97]⟩:ByteArray), .string (⟨#[]⟩:ByteArray), .int .i64 0, .int .i64 0, .int .i64 0] from (k39_mkM _ _ _ (⟨(⟨#[97]⟩:ByteArray),(⟨#[]⟩:ByteArray),(⟨0,0,0⟩:S37)⟩:S39))) (Reps.none _ _)));intro v2 w29 ho30 hb hg_ hnew_;clear hg_ hnew_;(first|rw [←Ny1.out] at ho30|(simp only [Int.reduceToNat] at ho30;rw [←Ny1.out] at ho30));have HO3:=am_ (Kd.R_lower ho30 (below_size (zl0_ HB)));replace HB:=am_ (below_step (zl0_ HB) hb);clear hb ho30;obtain ⟨Ao31,co31,eo31⟩:=Kd.R_slice HO3.out;subst eo31)|((with_reducible refine gate_callee (f:=48) rfl ?_);refine gl_ (some 8) Try.func48 #[.slice Ao31 y1.length co31, .slice none 0 0, .slice none 0 0] ?_;(refine (plan_Steps.calls _ _ y1 _ _ ([]:List (S84)) _ _ ([]:List (S79)) t4 t5 _ ?side1 ?side2 ?side3 ?side4 ?side5 ?side6 A1.out).mono ?_);(case side1=>exact zc_ (Kd.R_reads' HO3.out).2.2);(case side2=>exact (Kd.R_reads' HO3.out).2.1);(case side3=>exact Kd.C_nil _ _);(case side4=>exact Nat.le_refl _);(case side5=>exact Kd.C_nil _ _);(case side6=>exact Nat.le_refl _);rintro e w32 ⟨v6,rfl,ho0,hb⟩;refine ⟨_,rfl, ?_⟩;replace HO3:=am_ (Kd.R_below (zr_ HO3) hb);have HO7:=am_ (Kd.R_lower ho0 (below_size (zl0_ HB)));replace HB:=am_ (below_step (zl0_ HB) hb);(try clear hb);(try clear hb2);(try clear hk);(try clear hi);(try clear ho0))|((with_reducible refine gate_callee (f:=48) rfl ?_);refine gl_ (some 12) Try.func48 #[.slice none 0 0, .slice none 0 0, .slice none 0 0] ?_;(refine (plan_Steps.calls _ _ ([]:List (S39)) _ _ ([]:List (S84)) _ _ ([]:List (S79)) t8 t9 _ ?side1 ?side2 ?side3 ?side4 ?side5 ?side6 A2.out).mono ?_);(case side1=>exact Kd.C_nil _ _);(case side2=>exact Nat.le_refl _);(case side3=>exact Kd.C_nil _ _);(case side4=>exact Nat.le_refl _);(case side5=>exact Kd.C_nil _ _);(case side6=>exact Nat.le_refl _);rintro e w33 ⟨v10,rfl,ho0,hb⟩;refine ⟨_,rfl, ?_⟩;replace HO3:=am_ (Kd.R_below (zr_ HO3) hb);have HO11:=am_ (Kd.R_lower (Kd.R_new' ho0 (Kd.R_lt (zr_ HO7))) (below_size (zl0_ HB)));replace HO7:=am_ (Kd.R_elder' (zr_ HO7) (Kd.R_base ho0) hb);replace HB:=am_ (below_step (zl0_ HB) hb);(try clear hb);(try clear hb2);(try clear hk);(try clear hi);(try clear ho0))|((with_reducible refine gate_callee (f:=25) rfl ?_);refine gl_ (some 16) Try.func25 #[.int .i64 t5] ?_;(with_reducible refine (law1_Num.calls t5 t12 _ A3.out).mono ?_);rintro e w' ⟨rfl,⟨nd,rfl⟩⟩;refine ⟨_,rfl, ?_⟩;obtain ⟨Ao34,co34,eo34⟩:=Kd.R_slice HO7.out;subst eo34))
  go_ret
  exact ⟨by first|rfl|(simp [errW_none,errW_some]<;>rfl)|(simp [*,errW_none,errW_some]<;>rfl),zl0_ HB⟩
 rw [if_pos c5] at H
 have c5b0:((t4.length:Int)==1)=true:=beq_iff_eq.mpr c5
 have c5b1:((t4.length:Int) !=1)=false:=bne_eq_false_iff_eq.mpr c5
 clear c5
 by_cases c6:0<(t4.length:Int)
 rotate_left
 ·rw [if_neg c6] at H
  exact absurd H (by simp)
 rw [if_pos c6] at H
 have c6b0:decide (0<(t4.length:Int))=true:=decide_eq_true c6
 have c6b1:decide (0<t4.length)=true:=decide_eq_true (by omega)
 clear c6
 by_cases c7:(((rd_T76 t4 0).f0)==1 && ((((rd_T76 t4 0).f1).toList)==([97]:List UInt8) && ((((rd_T76 t4 0).f2).toList)==([]:List UInt8) && ((((rd_T76 t4 0).f3.f0)==0 && (((rd_T76 t4 0).f3.f1)==0 && (((rd_T76 t4 0).f3.f2)==0)))))))=true
 rotate_left
 ·rw [if_neg c7] at H
  have c7b0:(((rd_T76 t4 0).f0)==1 && ((((rd_T76 t4 0).f1).toList)==([97]:List UInt8) && ((((rd_T76 t4 0).f2).toList)==([]:List UInt8) && ((((rd_T76 t4 0).f3.f0)==0 && (((rd_T76 t4 0).f3.f1)==0 && (((rd_T76 t4 0).f3.f2)==0)))))))=false:=by simpa using c7
  have c7b9:(((rd_T76 t4 0).f0)==1 && ((((rd_T76 t4 0).f1).toList)==([97]:List UInt8) && ((((rd_T76 t4 0).f2).toList).isEmpty && ((((rd_T76 t4 0).f3.f0)==0 && (((rd_T76 t4 0).f3.f1)==0 && (((rd_T76 t4 0).f3.f2)==0)))))))=false:=by
    have e_: ∀l:List UInt8,l.isEmpty=(l==([]:List UInt8)):=fun l=>by cases l<;>rfl
    rw [e_]
    exact c7b0
  (try (have c7b1:decide (((rd_T76 t4 0).f0)=1 && ((((rd_T76 t4 0).f1).toList)==([97]:List UInt8) && ((((rd_T76 t4 0).f2).toList)==([]:List UInt8) && ((((rd_T76 t4 0).f3.f0)==0 && (((rd_T76 t4 0).f3.f1)==0 && (((rd_T76 t4 0).f3.f2)==0)))))))=false:=by simpa using c7))
  (try (have c7b2:(((rd_T76 t4 0).f0)==1 && ((((rd_T76 t4 0).f1).toList)==([97]:List UInt8) && ((((rd_T76 t4 0).f2).toList)==([]:List UInt8) && ((((rd_T76 t4 0).f3.f0)==0 && (((rd_T76 t4 0).f3.f1)==0 && (((rd_T76 t4 0).f3.f2)==0)))))))=false:=by simpa using c7))
  (try (have c7b3: ¬(((rd_T76 t4 0).f0)=1 && ((((rd_T76 t4 0).f1).toList)==([97]:List UInt8) && ((((rd_T76 t4 0).f2).toList)==([]:List UInt8) && ((((rd_T76 t4 0).f3.f0)==0 && (((rd_T76 t4 0).f3.f1)==0 && (((rd_T76 t4 0).f3.f2)==0))))))):=by simpa using c7))
  clear c7
  obtain rfl:=Option.some.inj H
  go_enter Try.func47,Try.ntmps47
  go_wp2_with (first|((with_reducible refine gate_dst (N:=7) rfl ?_);(try (refine gate_guard (by rfl) ?_;dsimp only));refine Kd.R_lit k39 _ 39 ?hg (N:=7) ?hd (xs:=([(⟨(⟨#[97]⟩:ByteArray),(⟨#[]⟩:ByteArray),(⟨0,0,0⟩:S37)⟩:S39)]:List (S39))) (inner:=[.string (⟨#[97]⟩:ByteArray), .string (⟨#[]⟩:ByteArray), .int .i64 0, .int .i64 0, .int .i64 0]) (ok:=fun _=>True) (okp:=fun _=>True) ?hr ?hp (fun _ hk=>hk) trivial (Below.refl _ _) (Nat.le_refl _) (by simp) ?_;(case hd=>rfl);(case hg=>rfl);(case hr=>first|(go_simp;done)|(go_simp;rfl));(case hp=>exact (Reps.c5 (show Kd.M k39 _ _ _ (⟨(⟨#[97]⟩:ByteArray),(⟨#[]⟩:ByteArray),(⟨0,0,0⟩:S37)⟩:S39) [.string (⟨#[97]⟩:ByteArray), .string (⟨#[]⟩:ByteArray), .int .i64 0, .int .i64 0, .int .i64 0] from (k39_mkM _ _ _ (⟨(⟨#[97]⟩:ByteArray),(⟨#[]⟩:ByteArray),(⟨0,0,0⟩:S37)⟩:S39))) (Reps.none _ _)));intro v2 w23 ho24 hb hg_ hnew_;clear hg_ hnew_;(first|rw [←Ny1.out] at ho24|(simp only [Int.reduceToNat] at ho24;rw [←Ny1.out] at ho24));have HO3:=am_ (Kd.R_lower ho24 (below_size (zl0_ HB)));replace HB:=am_ (below_step (zl0_ HB) hb);clear hb ho24;obtain ⟨Ao25,co25,eo25⟩:=Kd.R_slice HO3.out;subst eo25)|((with_reducible refine gate_callee (f:=48) rfl ?_);refine gl_ (some 8) Try.func48 #[.slice Ao25 y1.length co25, .slice none 0 0, .slice none 0 0] ?_;(refine (plan_Steps.calls _ _ y1 _ _ ([]:List (S84)) _ _ ([]:List (S79)) t4 t5 _ ?side1 ?side2 ?side3 ?side4 ?side5 ?side6 A1.out).mono ?_);(case side1=>exact zc_ (Kd.R_reads' HO3.out).2.2);(case side2=>exact (Kd.R_reads' HO3.out).2.1);(case side3=>exact Kd.C_nil _ _);(case side4=>exact Nat.le_refl _);(case side5=>exact Kd.C_nil _ _);(case side6=>exact Nat.le_refl _);rintro e w26 ⟨v6,rfl,ho0,hb⟩;refine ⟨_,rfl, ?_⟩;replace HO3:=am_ (Kd.R_below (zr_ HO3) hb);have HO7:=am_ (Kd.R_lower ho0 (below_size (zl0_ HB)));replace HB:=am_ (below_step (zl0_ HB) hb);(try clear hb);(try clear hb2);(try clear hk);(try clear hi);(try clear ho0))|((with_reducible refine gate_callee (f:=48) rfl ?_);refine gl_ (some 12) Try.func48 #[.slice none 0 0, .slice none 0 0, .slice none 0 0] ?_;(refine (plan_Steps.calls _ _ ([]:List (S39)) _ _ ([]:List (S84)) _ _ ([]:List (S79)) t8 t9 _ ?side1 ?side2 ?side3 ?side4 ?side5 ?side6 A2.out).mono ?_);(case side1=>exact Kd.C_nil _ _);(case side2=>exact Nat.le_refl _);(case side3=>exact Kd.C_nil _ _);(case side4=>exact Nat.le_refl _);(case side5=>exact Kd.C_nil _ _);(case side6=>exact Nat.le_refl _);rintro e w27 ⟨v10,rfl,ho0,hb⟩;refine ⟨_,rfl, ?_⟩;replace HO3:=am_ (Kd.R_below (zr_ HO3) hb);have HO11:=am_ (Kd.R_lower (Kd.R_new' ho0 (Kd.R_lt (zr_ HO7))) (below_size (zl0_ HB)));replace HO7:=am_ (Kd.R_elder' (zr_ HO7) (Kd.R_base ho0) hb);replace HB:=am_ (below_step (zl0_ HB) hb);(try clear hb);(try clear hb2);(try clear hk);(try clear hi);(try clear ho0))|((with_reducible refine gate_callee (f:=25) rfl ?_);refine gl_ (some 16) Try.func25 #[.int .i64 t5] ?_;(with_reducible refine (law1_Num.calls t5 t12 _ A3.out).mono ?_);rintro e w' ⟨rfl,⟨nd,rfl⟩⟩;refine ⟨_,rfl, ?_⟩;obtain ⟨Ao28,co28,eo28⟩:=Kd.R_slice HO7.out;subst eo28;have p13:0≤(0:Int):=(by omega);have q13:0<(t4.length:Int):=of_decide_eq_true zq_;obtain ⟨ad13,e13,hx13_0,hx13_1,hx13_2,hx13_3,hx13_4,hx13_5⟩:=at_T76 (Kd.R_reads' HO7.out).2.2 0 p13 q13;cases e13;have qi13:(0<t4.length)=True:=eq_true (by omega);(try rw [show ((0:Int)).toNat=0 from rfl] at hx13_0);(try rw [show 0*6=0 from rfl] at hx13_0);(try rw [Addr.add_zero'] at hx13_0);(try rw [show ((0:Int)).toNat=0 from rfl] at hx13_1);(try rw [show 0*6=0 from rfl] at hx13_1);(try rw [Addr.add_zero'] at hx13_1);(try rw [show ((0:Int)).toNat=0 from rfl] at hx13_2);(try rw [show 0*6=0 from rfl] at hx13_2);(try rw [Addr.add_zero'] at hx13_2);(try rw [show ((0:Int)).toNat=0 from rfl] at hx13_3);(try rw [show 0*6=0 from rfl] at hx13_3);(try rw [Addr.add_zero'] at hx13_3);(try rw [show ((0:Int)).toNat=0 from rfl] at hx13_4);(try rw [show 0*6=0 from rfl] at hx13_4);(try rw [Addr.add_zero'] at hx13_4);(try rw [show ((0:Int)).toNat=0 from rfl] at hx13_5);(try rw [show 0*6=0 from rfl] at hx13_5);(try rw [Addr.add_zero'] at hx13_5);replace p13:=eq_true p13;replace q13:=eq_true q13))
  go_ret
  exact ⟨by first|rfl|(simp [errW_none,errW_some]<;>rfl)|(simp [*,errW_none,errW_some]<;>rfl),zl0_ HB⟩
 rw [if_pos c7] at H
 have c7b0:(((rd_T76 t4 0).f0)==1 && ((((rd_T76 t4 0).f1).toList)==([97]:List UInt8) && ((((rd_T76 t4 0).f2).toList)==([]:List UInt8) && ((((rd_T76 t4 0).f3.f0)==0 && (((rd_T76 t4 0).f3.f1)==0 && (((rd_T76 t4 0).f3.f2)==0)))))))=true:=c7
 have c7b9:(((rd_T76 t4 0).f0)==1 && ((((rd_T76 t4 0).f1).toList)==([97]:List UInt8) && ((((rd_T76 t4 0).f2).toList).isEmpty && ((((rd_T76 t4 0).f3.f0)==0 && (((rd_T76 t4 0).f3.f1)==0 && (((rd_T76 t4 0).f3.f2)==0)))))))=true:=by
   have e_: ∀l:List UInt8,l.isEmpty=(l==([]:List UInt8)):=fun l=>by cases l<;>rfl
   rw [e_]
   exact c7b0
 (try (have c7b1:decide (((rd_T76 t4 0).f0)=1 && ((((rd_T76 t4 0).f1).toList)==([97]:List UInt8) && ((((rd_T76 t4 0).f2).toList)==([]:List UInt8) && ((((rd_T76 t4 0).f3.f0)==0 && (((rd_T76 t4 0).f3.f1)==0 && (((rd_T76 t4 0).f3.f2)==0)))))))=true:=by simpa using c7))
 (try (have c7b2:(((rd_T76 t4 0).f0)==1 && ((((rd_T76 t4 0).f1).toList)==([97]:List UInt8) && ((((rd_T76 t4 0).f2).toList)==([]:List UInt8) && ((((rd_T76 t4 0).f3.f0)==0 && (((rd_T76 t4 0).f3.f1)==0 && (((rd_T76 t4 0).f3.f2)==0)))))))=true:=by simpa using c7))
 clear c7
 replace H:=Option.bind_eq_some_iff.mp H
 obtain ⟨t14,A80,H⟩:=H
 try dsimp only at H
 have A8:=Aside0.mk A80
 clear A80
 by_cases c9:t14=0
 ·rw [if_pos c9] at H
  have c9b0:(t14==0)=true:=beq_iff_eq.mpr c9
  have c9b1:(t14 !=0)=false:=bne_eq_false_iff_eq.mpr c9
  clear c9
  obtain rfl:=Option.some.inj H
  go_enter Try.func47,Try.ntmps47
  go_wp2_with (first|((with_reducible refine gate_dst (N:=7) rfl ?_);(try (refine gate_guard (by rfl) ?_;dsimp only));refine Kd.R_lit k39 _ 39 ?hg (N:=7) ?hd (xs:=([(⟨(⟨#[97]⟩:ByteArray),(⟨#[]⟩:ByteArray),(⟨0,0,0⟩:S37)⟩:S39)]:List (S39))) (inner:=[.string (⟨#[97]⟩:ByteArray), .string (⟨#[]⟩:ByteArray), .int .i64 0, .int .i64 0, .int .i64 0]) (ok:=fun _=>True) (okp:=fun _=>True) ?hr ?hp (fun _ hk=>hk) trivial (Below.refl _ _) (Nat.le_refl _) (by simp) ?_;(case hd=>rfl);(case hg=>rfl);(case hr=>first|(go_simp;done)|(go_simp;rfl));(case hp=>exact (Reps.c5 (show Kd.M k39 _ _ _ (⟨(⟨#[97]⟩:ByteArray),(⟨#[]⟩:ByteArray),(⟨0,0,0⟩:S37)⟩:S39) [.string (⟨#[97]⟩:ByteArray), .string (⟨#[]⟩:ByteArray), .int .i64 0, .int .i64 0, .int .i64 0] from (k39_mkM _ _ _ (⟨(⟨#[97]⟩:ByteArray),(⟨#[]⟩:ByteArray),(⟨0,0,0⟩:S37)⟩:S39))) (Reps.none _ _)));intro v2 w10 ho11 hb hg_ hnew_;clear hg_ hnew_;(first|rw [←Ny1.out] at ho11|(simp only [Int.reduceToNat] at ho11;rw [←Ny1.out] at ho11));have HO3:=am_ (Kd.R_lower ho11 (below_size (zl0_ HB)));replace HB:=am_ (below_step (zl0_ HB) hb);clear hb ho11;obtain ⟨Ao12,co12,eo12⟩:=Kd.R_slice HO3.out;subst eo12)|((with_reducible refine gate_callee (f:=48) rfl ?_);refine gl_ (some 8) Try.func48 #[.slice Ao12 y1.length co12, .slice none 0 0, .slice none 0 0] ?_;(refine (plan_Steps.calls _ _ y1 _ _ ([]:List (S84)) _ _ ([]:List (S79)) t4 t5 _ ?side1 ?side2 ?side3 ?side4 ?side5 ?side6 A1.out).mono ?_);(case side1=>exact zc_ (Kd.R_reads' HO3.out).2.2);(case side2=>exact (Kd.R_reads' HO3.out).2.1);(case side3=>exact Kd.C_nil _ _);(case side4=>exact Nat.le_refl _);(case side5=>exact Kd.C_nil _ _);(case side6=>exact Nat.le_refl _);rintro e w13 ⟨v6,rfl,ho0,hb⟩;refine ⟨_,rfl, ?_⟩;replace HO3:=am_ (Kd.R_below (zr_ HO3) hb);have HO7:=am_ (Kd.R_lower ho0 (below_size (zl0_ HB)));replace HB:=am_ (below_step (zl0_ HB) hb);(try clear hb);(try clear hb2);(try clear hk);(try clear hi);(try clear ho0))|((with_reducible refine gate_callee (f:=48) rfl ?_);refine gl_ (some 12) Try.func48 #[.slice none 0 0, .slice none 0 0, .slice none 0 0] ?_;(refine (plan_Steps.calls _ _ ([]:List (S39)) _ _ ([]:List (S84)) _ _ ([]:List (S79)) t8 t9 _ ?side1 ?side2 ?side3 ?side4 ?side5 ?side6 A2.out).mono ?_);(case side1=>exact Kd.C_nil _ _);(case side2=>exact Nat.le_refl _);(case side3=>exact Kd.C_nil _ _);(case side4=>exact Nat.le_refl _);(case side5=>exact Kd.C_nil _ _);(case side6=>exact Nat.le_refl _);rintro e w14 ⟨v10,rfl,ho0,hb⟩;refine ⟨_,rfl, ?_⟩;replace HO3:=am_ (Kd.R_below (zr_ HO3) hb);have HO11:=am_ (Kd.R_lower (Kd.R_new' ho0 (Kd.R_lt (zr_ HO7))) (below_size (zl0_ HB)));replace HO7:=am_ (Kd.R_elder' (zr_ HO7) (Kd.R_base ho0) hb);replace HB:=am_ (below_step (zl0_ HB) hb);(try clear hb);(try clear hb2);(try clear hk);(try clear hi);(try clear ho0))|((with_reducible refine gate_callee (f:=25) rfl ?_);refine gl_ (some 16) Try.func25 #[.int .i64 t5] ?_;(with_reducible refine (law1_Num.calls t5 t12 _ A3.out).mono ?_);rintro e w' ⟨rfl,⟨nd,rfl⟩⟩;refine ⟨_,rfl, ?_⟩;obtain ⟨Ao15,co15,eo15⟩:=Kd.R_slice HO7.out;subst eo15;have p13:0≤(0:Int):=(by omega);have q13:0<(t4.length:Int):=of_decide_eq_true zq_;obtain ⟨ad13,e13,hx13_0,hx13_1,hx13_2,hx13_3,hx13_4,hx13_5⟩:=at_T76 (Kd.R_reads' HO7.out).2.2 0 p13 q13;cases e13;have qi13:(0<t4.length)=True:=eq_true (by omega);(try rw [show ((0:Int)).toNat=0 from rfl] at hx13_0);(try rw [show 0*6=0 from rfl] at hx13_0);(try rw [Addr.add_zero'] at hx13_0);(try rw [show ((0:Int)).toNat=0 from rfl] at hx13_1);(try rw [show 0*6=0 from rfl] at hx13_1);(try rw [Addr.add_zero'] at hx13_1);(try rw [show ((0:Int)).toNat=0 from rfl] at hx13_2);(try rw [show 0*6=0 from rfl] at hx13_2);(try rw [Addr.add_zero'] at hx13_2);(try rw [show ((0:Int)).toNat=0 from rfl] at hx13_3);(try rw [show 0*6=0 from rfl] at hx13_3);(try rw [Addr.add_zero'] at hx13_3);(try rw [show ((0:Int)).toNat=0 from rfl] at hx13_4);(try rw [show 0*6=0 from rfl] at hx13_4);(try rw [Addr.add_zero'] at hx13_4);(try rw [show ((0:Int)).toNat=0 from rfl] at hx13_5);(try rw [show 0*6=0 from rfl] at hx13_5);(try rw [Addr.add_zero'] at hx13_5);replace p13:=eq_true p13;replace q13:=eq_true q13)|(go_at_call 25;(with_reducible refine (law1_Num.calls t9 t14 _ A8.out).mono ?_);rintro e w' ⟨rfl,⟨nd,rfl⟩⟩;obtain ⟨Ao16,co16,eo16⟩:=Kd.R_slice HO11.out;subst eo16))
  go_ret
  exact ⟨by first|rfl|(simp [errW_none,errW_some]<;>rfl)|(simp [*,errW_none,errW_some]<;>rfl),zl0_ HB⟩
 rw [if_neg c9] at H
 have c9b0:(t14==0)=false:=beq_eq_false_iff_ne.mpr c9
 have c9b1:(t14 !=0)=true:=bne_iff_ne.mpr c9
 obtain rfl:=Option.some.inj H
 go_enter Try.func47,Try.ntmps47
 go_wp2_with (first|((with_reducible refine gate_dst (N:=7) rfl ?_);(try (refine gate_guard (by rfl) ?_;dsimp only));refine Kd.R_lit k39 _ 39 ?hg (N:=7) ?hd (xs:=([(⟨(⟨#[97]⟩:ByteArray),(⟨#[]⟩:ByteArray),(⟨0,0,0⟩:S37)⟩:S39)]:List (S39))) (inner:=[.string (⟨#[97]⟩:ByteArray), .string (⟨#[]⟩:ByteArray), .int .i64 0, .int .i64 0, .int .i64 0]) (ok:=fun _=>True) (okp:=fun _=>True) ?hr ?hp (fun _ hk=>hk) trivial (Below.refl _ _) (Nat.le_refl _) (by simp) ?_;(case hd=>rfl);(case hg=>rfl);(case hr=>first|(go_simp;done)|(go_simp;rfl));(case hp=>exact (Reps.c5 (show Kd.M k39 _ _ _ (⟨(⟨#[97]⟩:ByteArray),(⟨#[]⟩:ByteArray),(⟨0,0,0⟩:S37)⟩:S39) [.string (⟨#[97]⟩:ByteArray), .string (⟨#[]⟩:ByteArray), .int .i64 0, .int .i64 0, .int .i64 0] from (k39_mkM _ _ _ (⟨(⟨#[97]⟩:ByteArray),(⟨#[]⟩:ByteArray),(⟨0,0,0⟩:S37)⟩:S39))) (Reps.none _ _)));intro v2 w17 ho18 hb hg_ hnew_;clear hg_ hnew_;(first|rw [←Ny1.out] at ho18|(simp only [Int.reduceToNat] at ho18;rw [←Ny1.out] at ho18));have HO3:=am_ (Kd.R_lower ho18 (below_size (zl0_ HB)));replace HB:=am_ (below_step (zl0_ HB) hb);clear hb ho18;obtain ⟨Ao19,co19,eo19⟩:=Kd.R_slice HO3.out;subst eo19)|((with_reducible refine gate_callee (f:=48) rfl ?_);refine gl_ (some 8) Try.func48 #[.slice Ao19 y1.length co19, .slice none 0 0, .slice none 0 0] ?_;(refine (plan_Steps.calls _ _ y1 _ _ ([]:List (S84)) _ _ ([]:List (S79)) t4 t5 _ ?side1 ?side2 ?side3 ?side4 ?side5 ?side6 A1.out).mono ?_);(case side1=>exact zc_ (Kd.R_reads' HO3.out).2.2);(case side2=>exact (Kd.R_reads' HO3.out).2.1);(case side3=>exact Kd.C_nil _ _);(case side4=>exact Nat.le_refl _);(case side5=>exact Kd.C_nil _ _);(case side6=>exact Nat.le_refl _);rintro e w20 ⟨v6,rfl,ho0,hb⟩;refine ⟨_,rfl, ?_⟩;replace HO3:=am_ (Kd.R_below (zr_ HO3) hb);have HO7:=am_ (Kd.R_lower ho0 (below_size (zl0_ HB)));replace HB:=am_ (below_step (zl0_ HB) hb);(try clear hb);(try clear hb2);(try clear hk);(try clear hi);(try clear ho0))|((with_reducible refine gate_callee (f:=48) rfl ?_);refine gl_ (some 12) Try.func48 #[.slice none 0 0, .slice none 0 0, .slice none 0 0] ?_;(refine (plan_Steps.calls _ _ ([]:List (S39)) _ _ ([]:List (S84)) _ _ ([]:List (S79)) t8 t9 _ ?side1 ?side2 ?side3 ?side4 ?side5 ?side6 A2.out).mono ?_);(case side1=>exact Kd.C_nil _ _);(case side2=>exact Nat.le_refl _);(case side3=>exact Kd.C_nil _ _);(case side4=>exact Nat.le_refl _);(case side5=>exact Kd.C_nil _ _);(case side6=>exact Nat.le_refl _);rintro e w21 ⟨v10,rfl,ho0,hb⟩;refine ⟨_,rfl, ?_⟩;replace HO3:=am_ (Kd.R_below (zr_ HO3) hb);have HO11:=am_ (Kd.R_lower (Kd.R_new' ho0 (Kd.R_lt (zr_ HO7))) (below_size (zl0_ HB)));replace HO7:=am_ (Kd.R_elder' (zr_ HO7) (Kd.R_base ho0) hb);replace HB:=am_ (below_step (zl0_ HB) hb);(try clear hb);(try clear hb2);(try clear hk);(try clear hi);(try clear ho0))|((with_reducible refine gate_callee (f:=25) rfl ?_);refine gl_ (some 16) Try.func25 #[.int .i64 t5] ?_;(with_reducible refine (law1_Num.calls t5 t12 _ A3.out).mono ?_);rintro e w' ⟨rfl,⟨nd,rfl⟩⟩;refine ⟨_,rfl, ?_⟩;obtain ⟨Ao22,co22,eo22⟩:=Kd.R_slice HO7.out;subst eo22;have p13:0≤(0:Int):=(by omega);have q13:0<(t4.length:Int):=of_decide_eq_true zq_;obtain ⟨ad13,e13,hx13_0,hx13_1,hx13_2,hx13_3,hx13_4,hx13_5⟩:=at_T76 (Kd.R_reads' HO7.out).2.2 0 p13 q13;cases e13;have qi13:(0<t4.length)=True:=eq_true (by omega);(try rw [show ((0:Int)).toNat=0 from rfl] at hx13_0);(try rw [show 0*6=0 from rfl] at hx13_0);(try rw [Addr.add_zero'] at hx13_0);(try rw [show ((0:Int)).toNat=0 from rfl] at hx13_1);(try rw [show 0*6=0 from rfl] at hx13_1);(try rw [Addr.add_zero'] at hx13_1);(try rw [show ((0:Int)).toNat=0 from rfl] at hx13_2);(try rw [show 0*6=0 from rfl] at hx13_2);(try rw [Addr.add_zero'] at hx13_2);(try rw [show ((0:Int)).toNat=0 from rfl] at hx13_3);(try rw [show 0*6=0 from rfl] at hx13_3);(try rw [Addr.add_zero'] at hx13_3);(try rw [show ((0:Int)).toNat=0 from rfl] at hx13_4);(try rw [show 0*6=0 from rfl] at hx13_4);(try rw [Addr.add_zero'] at hx13_4);(try rw [show ((0:Int)).toNat=0 from rfl] at hx13_5);(try rw [show 0*6=0 from rfl] at hx13_5);(try rw [Addr.add_zero'] at hx13_5);replace p13:=eq_true p13;replace q13:=eq_true q13)|(go_at_call 25;(with_reducible refine (law1_Num.calls t9 t14 _ A8.out).mono ?_);rintro e w' ⟨rfl,⟨nd,rfl⟩⟩))
 go_ret
 exact ⟨by first|rfl|(simp [errW_none,errW_some]<;>rfl)|(simp [*,errW_none,errW_some]<;>rfl),zl0_ HB⟩
attribute [local go_sem high] eqA76
mutual
noncomputable def law18_PlanFresh.j0:Nat→List (S76)→List (S39)→Bool→Option (Bool)
 |0,_,_,_=>none
 |k+1,x4,x6,x30=>if x30=true then (some false) else (law18_PlanFresh.l0 k x4 x6 0)
noncomputable def law18_PlanFresh.l0:Nat→List (S76)→List (S39)→Int→Option (Bool)
 |0,_,_,_=>none
 |k+1,x4,x6,x7=>if x7<(x4.length:Int) then (if 0≤x7 then (if x7<(x6.length:Int) then (if (!(((rd_T76 x4 x7).f0)==1)||(!((((rd_T76 x4 x7).f1).toList)==(((rd_T39 x6 x7).f0).toList))||(!((((rd_T76 x4 x7).f2).toList)==(((rd_T39 x6 x7).f1).toList))||((!(((rd_T76 x4 x7).f3.f0)==((rd_T39 x6 x7).f2.f0))||(!(((rd_T76 x4 x7).f3.f1)==((rd_T39 x6 x7).f2.f1))||(!(((rd_T76 x4 x7).f3.f2)==((rd_T39 x6 x7).f2.f2)))))))))=true then (some false) else (law18_PlanFresh.l0 k x4 x6 (wrap64 (x7+1)))) else (none)) else (none)) else ((law18_awake.f).bind fun t17=>(some t17))
end
noncomputable def law18_PlanFresh.f (k:Nat) (l0:List Int):Option (Bool):=if (l0.length:Int)>60 then ((law18_awake.f).bind fun t1=>(some t1)) else ((law11_Make.f k l0 false).bind fun t2=>((plan_Steps.f t2 ([]:List (S84)) ([]:List (S79))).bind fun bt5=>((r10_Top.f k t2).bind fun t9=>((law1_Num.f bt5.2).bind fun t12=>(if t12=0 then (law18_PlanFresh.j0 k bt5.1 t9 ((bt5.1.length:Int) !=(t9.length:Int))) else (law18_PlanFresh.j0 k bt5.1 t9 true))))))
theorem law18_PlanFresh.mono_l: ∀k,(∀y0 y1 y2,LeO (law18_PlanFresh.j0 k y0 y1 y2) (law18_PlanFresh.j0 (k+1) y0 y1 y2))∧(∀y0 y1 y2,LeO (law18_PlanFresh.l0 k y0 y1 y2) (law18_PlanFresh.l0 (k+1) y0 y1 y2))
 |0=>⟨fun _ _ _ r h=>by simp [law18_PlanFresh.j0] at h,fun _ _ _ r h=>by simp [law18_PlanFresh.l0] at h⟩
 |k+1=>by
  obtain ⟨ih0,ih1⟩:=law18_PlanFresh.mono_l k
  refine ⟨?_, ?_⟩
  ·intro y0 y1 y2
   unfold law18_PlanFresh.j0
   repeat' first
   |(with_reducible exact ih0 _ _ _)
   |(with_reducible exact ih1 _ _ _)
   |(with_reducible exact law11_Make.mono _ _ _)
   |(with_reducible exact r10_Top.mono _ _)
   |(with_reducible exact LeO.refl _)
   |(with_reducible exact LeO.none _)
   |(with_reducible refine LeO.ite ?_ ?_)
   |(with_reducible refine LeO.bind ?_ (fun _=> ?_))
   |exact ih0 _ _ _
   |exact ih1 _ _ _
   |exact law11_Make.mono _ _ _
   |exact r10_Top.mono _ _
   |exact LeO.none _
   |refine LeO.ite ?_ ?_
   |refine LeO.bind ?_ (fun _=> ?_)
  intro y0 y1 y2
  unfold law18_PlanFresh.l0
  repeat' first
  |(with_reducible exact ih0 _ _ _)
  |(with_reducible exact ih1 _ _ _)
  |(with_reducible exact law11_Make.mono _ _ _)
  |(with_reducible exact r10_Top.mono _ _)
  |(with_reducible exact LeO.refl _)
  |(with_reducible exact LeO.none _)
  |(with_reducible refine LeO.ite ?_ ?_)
  |(with_reducible refine LeO.bind ?_ (fun _=> ?_))
  |exact ih0 _ _ _
  |exact ih1 _ _ _
  |exact law11_Make.mono _ _ _
  |exact r10_Top.mono _ _
  |exact LeO.none _
  |refine LeO.ite ?_ ?_
  |refine LeO.bind ?_ (fun _=> ?_)
theorem law18_PlanFresh.mono: ∀a0 k,LeO (law18_PlanFresh.f k a0) (law18_PlanFresh.f (k+1) a0):=by
 intro a0 k
 obtain ⟨ih0,ih1⟩:=law18_PlanFresh.mono_l k
 unfold law18_PlanFresh.f
 repeat' first
  |(with_reducible exact ih0 _ _ _)
  |(with_reducible exact ih1 _ _ _)
  |(with_reducible exact law11_Make.mono _ _ _)
  |(with_reducible exact r10_Top.mono _ _)
  |(with_reducible exact LeO.refl _)
  |(with_reducible exact LeO.none _)
  |(with_reducible refine LeO.ite ?_ ?_)
  |(with_reducible refine LeO.bind ?_ (fun _=> ?_))
  |exact ih0 _ _ _
  |exact ih1 _ _ _
  |exact law11_Make.mono _ _ _
  |exact r10_Top.mono _ _
  |exact LeO.none _
  |refine LeO.ite ?_ ?_
  |refine LeO.bind ?_ (fun _=> ?_)
set_option maxHeartbeats 8000000 in
set_option maxRecDepth 100000 in
theorem law18_PlanFresh.calls (k:Nat) (A0:Option Addr) (c0:Nat) (l0:List Int) (r:Bool) (w:World) (hr0:Kd.C (Kd.int .u8) w A0 l0.length l0) (hc0:l0.length≤c0) (h:law18_PlanFresh.f k l0=some r):
  Calls Try.prog 14 #[.slice A0 l0.length c0] w fun e w'=>e= .returned (.bool r)∧Below w.heap.size w w':=by
 have hu76:=Try.underlying76
 have hu37:=Try.underlying37
 have HR0:=Aside0.mk hr0
 have HC0:=Aside0.mk hc0
 clear hr0 hc0
 have HB:=am_ (Below.refl w.heap.size w)
 have H:(if (l0.length:Int)>60 then ((law18_awake.f).bind fun t1=>(some t1)) else ((law11_Make.f k l0 false).bind fun t2=>((plan_Steps.f t2 ([]:List (S84)) ([]:List (S79))).bind fun bt5=>((r10_Top.f k t2).bind fun t9=>((law1_Num.f bt5.2).bind fun t12=>(if t12=0 then (law18_PlanFresh.j0 k bt5.1 t9 ((bt5.1.length:Int) !=(t9.length:Int))) else (law18_PlanFresh.j0 k bt5.1 t9 true)))))))=some r:=h
 clear h
 by_cases c2:(l0.length:Int)>60
 ·rw [if_pos c2] at H
  have c2b0:decide (60<(l0.length:Int))=true:=decide_eq_true c2
  have c2b1:decide (60<l0.length)=true:=decide_eq_true (by omega)
  clear c2
  replace H:=Option.bind_eq_some_iff.mp H
  obtain ⟨t1,A30,H⟩:=H
  try dsimp only at H
  have A3:=Aside0.mk A30
  clear A30
  obtain rfl:=Option.some.inj H
  go_enter Try.func14,Try.ntmps14
  go_wp2_with (first|(go_at_call 47;(with_reducible refine (law18_awake.calls t1 _ A3.out).mono ?_);rintro e w4 ⟨rfl,hb⟩;replace HB:=am_ (below_step (zl0_ HB) hb);(try clear hb);(try clear hb2);(try clear hk);(try clear hi)))
  repeat (go_quiet (first|(go_at_call 47;(with_reducible refine (law18_awake.calls t1 _ A3.out).mono ?_);rintro e w4 ⟨rfl,hb⟩;replace HB:=am_ (below_step (zl0_ HB) hb);(try clear hb);(try clear hb2);(try clear hk);(try clear hi)));try go_wp2_with (first|(go_at_call 47;(with_reducible refine (law18_awake.calls t1 _ A3.out).mono ?_);rintro e w4 ⟨rfl,hb⟩;replace HB:=am_ (below_step (zl0_ HB) hb);(try clear hb);(try clear hb2);(try clear hk);(try clear hi))))
  go_ret
  exact ⟨by first|rfl|(simp [errW_none,errW_some]<;>rfl)|(simp [*,errW_none,errW_some]<;>rfl),zl0_ HB⟩
 rw [if_neg c2] at H
 have c2b0:decide (60<(l0.length:Int))=false:=decide_eq_false c2
 have c2b1:decide (60<l0.length)=false:=decide_eq_false (by omega)
 clear c2
 replace H:=Option.bind_eq_some_iff.mp H
 obtain ⟨t2,A50,H⟩:=H
 try dsimp only at H
 have A5:=Aside0.mk A50
 clear A50
 replace H:=Option.bind_eq_some_iff.mp H
 obtain ⟨⟨t5,t6⟩,A60,H⟩:=H
 try dsimp only at H
 have A6:=Aside0.mk A60
 clear A60
 replace H:=Option.bind_eq_some_iff.mp H
 obtain ⟨t9,A70,H⟩:=H
 try dsimp only at H
 have A7:=Aside0.mk A70
 clear A70
 have HC8:=Aside0.mk H
 clear H
 go_enter Try.func14,Try.ntmps14
 go_upto_region 6 with (first|(go_at_call 32;(with_reducible refine (law11_Make.calls k _ _ l0 false t2 _ ?side1 ?side2 A5.out).mono ?_);(case side1=>repeat (first|exact HR0.out|(with_reducible refine Kd.C_alloc ?_ _)|(with_reducible refine Kd.C_drewN ?_ _)|(with_reducible refine Kd.C_drew ?_)));(case side2=>exact HC0.out);rintro e w9 ⟨v3,rfl,ho0,hb⟩;have HO4:=am_ (Kd.R_lower ho0 (below_size (zl0_ HB)));replace HB:=am_ (below_step (zl0_ HB) hb);(try clear hb);(try clear hb2);(try clear hk);(try clear hi);(try clear ho0);obtain ⟨Ao10,co10,eo10⟩:=Kd.R_slice HO4.out;subst eo10)|(go_at_call 48;(refine (plan_Steps.calls _ _ t2 _ _ ([]:List (S84)) _ _ ([]:List (S79)) t5 t6 _ ?side1 ?side2 ?side3 ?side4 ?side5 ?side6 A6.out).mono ?_);(case side1=>exact zc_ (Kd.R_reads' HO4.out).2.2);(case side2=>exact (Kd.R_reads' HO4.out).2.1);(case side3=>exact Kd.C_nil _ _);(case side4=>exact Nat.le_refl _);(case side5=>exact Kd.C_nil _ _);(case side6=>exact Nat.le_refl _);rintro e w11 ⟨v7,rfl,ho0,hb⟩;replace HO4:=am_ (Kd.R_below (zr_ HO4) hb);have HO8:=am_ (Kd.R_lower ho0 (below_size (zl0_ HB)));replace HB:=am_ (below_step (zl0_ HB) hb);(try clear hb);(try clear hb2);(try clear hk);(try clear hi);(try clear ho0))|(go_at_call 31;(with_reducible refine (r10_Top.calls k _ _ t2 t9 _ ?side1 ?side2 A7.out).mono ?_);(case side1=>exact zc_ (Kd.R_reads' HO4.out).2.2);(case side2=>exact (Kd.R_reads' HO4.out).2.1);rintro e w12 ⟨v10,rfl,ho0,hb⟩;replace HO8:=am_ (Kd.R_below (zr_ HO8) hb);have HO11:=am_ (Kd.R_lower (Kd.R_new' ho0 (Kd.R_lt (zr_ HO4))) (below_size (zl0_ HB)));replace HO4:=am_ (Kd.R_elder' (zr_ HO4) (Kd.R_base ho0) hb);replace HB:=am_ (below_step (zl0_ HB) hb);(try clear hb);(try clear hb2);(try clear hk);(try clear hi);(try clear ho0)))
 repeat (go_quiet (first|(go_at_call 32;(with_reducible refine (law11_Make.calls k _ _ l0 false t2 _ ?side1 ?side2 A5.out).mono ?_);(case side1=>repeat (first|exact HR0.out|(with_reducible refine Kd.C_alloc ?_ _)|(with_reducible refine Kd.C_drewN ?_ _)|(with_reducible refine Kd.C_drew ?_)));(case side2=>exact HC0.out);rintro e w9 ⟨v3,rfl,ho0,hb⟩;have HO4:=am_ (Kd.R_lower ho0 (below_size (zl0_ HB)));replace HB:=am_ (below_step (zl0_ HB) hb);(try clear hb);(try clear hb2);(try clear hk);(try clear hi);(try clear ho0);obtain ⟨Ao10,co10,eo10⟩:=Kd.R_slice HO4.out;subst eo10)|(go_at_call 48;(refine (plan_Steps.calls _ _ t2 _ _ ([]:List (S84)) _ _ ([]:List (S79)) t5 t6 _ ?side1 ?side2 ?side3 ?side4 ?side5 ?side6 A6.out).mono ?_);(case side1=>exact zc_ (Kd.R_reads' HO4.out).2.2);(case side2=>exact (Kd.R_reads' HO4.out).2.1);(case side3=>exact Kd.C_nil _ _);(case side4=>exact Nat.le_refl _);(case side5=>exact Kd.C_nil _ _);(case side6=>exact Nat.le_refl _);rintro e w11 ⟨v7,rfl,ho0,hb⟩;replace HO4:=am_ (Kd.R_below (zr_ HO4) hb);have HO8:=am_ (Kd.R_lower ho0 (below_size (zl0_ HB)));replace HB:=am_ (below_step (zl0_ HB) hb);(try clear hb);(try clear hb2);(try clear hk);(try clear hi);(try clear ho0))|(go_at_call 31;(with_reducible refine (r10_Top.calls k _ _ t2 t9 _ ?side1 ?side2 A7.out).mono ?_);(case side1=>exact zc_ (Kd.R_reads' HO4.out).2.2);(case side2=>exact (Kd.R_reads' HO4.out).2.1);rintro e w12 ⟨v10,rfl,ho0,hb⟩;replace HO8:=am_ (Kd.R_below (zr_ HO8) hb);have HO11:=am_ (Kd.R_lower (Kd.R_new' ho0 (Kd.R_lt (zr_ HO4))) (below_size (zl0_ HB)));replace HO4:=am_ (Kd.R_elder' (zr_ HO4) (Kd.R_base ho0) hb);replace HB:=am_ (below_step (zl0_ HB) hb);(try clear hb);(try clear hb2);(try clear hk);(try clear hi);(try clear ho0)));go_upto_region 6 with (first|(go_at_call 32;(with_reducible refine (law11_Make.calls k _ _ l0 false t2 _ ?side1 ?side2 A5.out).mono ?_);(case side1=>repeat (first|exact HR0.out|(with_reducible refine Kd.C_alloc ?_ _)|(with_reducible refine Kd.C_drewN ?_ _)|(with_reducible refine Kd.C_drew ?_)));(case side2=>exact HC0.out);rintro e w9 ⟨v3,rfl,ho0,hb⟩;have HO4:=am_ (Kd.R_lower ho0 (below_size (zl0_ HB)));replace HB:=am_ (below_step (zl0_ HB) hb);(try clear hb);(try clear hb2);(try clear hk);(try clear hi);(try clear ho0);obtain ⟨Ao10,co10,eo10⟩:=Kd.R_slice HO4.out;subst eo10)|(go_at_call 48;(refine (plan_Steps.calls _ _ t2 _ _ ([]:List (S84)) _ _ ([]:List (S79)) t5 t6 _ ?side1 ?side2 ?side3 ?side4 ?side5 ?side6 A6.out).mono ?_);(case side1=>exact zc_ (Kd.R_reads' HO4.out).2.2);(case side2=>exact (Kd.R_reads' HO4.out).2.1);(case side3=>exact Kd.C_nil _ _);(case side4=>exact Nat.le_refl _);(case side5=>exact Kd.C_nil _ _);(case side6=>exact Nat.le_refl _);rintro e w11 ⟨v7,rfl,ho0,hb⟩;replace HO4:=am_ (Kd.R_below (zr_ HO4) hb);have HO8:=am_ (Kd.R_lower ho0 (below_size (zl0_ HB)));replace HB:=am_ (below_step (zl0_ HB) hb);(try clear hb);(try clear hb2);(try clear hk);(try clear hi);(try clear ho0))|(go_at_call 31;(with_reducible refine (r10_Top.calls k _ _ t2 t9 _ ?side1 ?side2 A7.out).mono ?_);(case side1=>exact zc_ (Kd.R_reads' HO4.out).2.2);(case side2=>exact (Kd.R_reads' HO4.out).2.1);rintro e w12 ⟨v10,rfl,ho0,hb⟩;replace HO8:=am_ (Kd.R_below (zr_ HO8) hb);have HO11:=am_ (Kd.R_lower (Kd.R_new' ho0 (Kd.R_lt (zr_ HO4))) (below_size (zl0_ HB)));replace HO4:=am_ (Kd.R_elder' (zr_ HO4) (Kd.R_base ho0) hb);replace HB:=am_ (below_step (zl0_ HB) hb);(try clear hb);(try clear hb2);(try clear hk);(try clear hi);(try clear ho0))))
 (try simp only [Act.put,List.setIfInBounds_toArray,List.set_cons_zero,List.set_cons_succ])
 go_cut [30] (fun v30 wc=> ∃(kq:Nat) (x30_7:Bool),v30= .bool x30_7∧Aside0 (law18_PlanFresh.j0 kq t5 t9 x30_7=some r)∧Aside0 (kq≤k)∧Aside0 (Kd.R k76 76 wc w.heap.size (fun _=>True) v7 t5)∧Aside0 (Kd.R k39 39 wc w.heap.size (fun _=>True) v10 t9)∧Aside0 (Below w.heap.size w wc))
 case first=>
  have H:=HC8.out
  clear HC8
  replace H:=Option.bind_eq_some_iff.mp H
  obtain ⟨t12,A130,H⟩:=H
  try dsimp only at H
  have A13:=Aside0.mk A130
  clear A130
  by_cases c14:t12=0
  ·rw [if_pos c14] at H
   have c14b0:(t12==0)=true:=beq_iff_eq.mpr c14
   have c14b1:(t12 !=0)=false:=bne_eq_false_iff_eq.mpr c14
   clear c14
   (first|rw [c14b0]|(simp only [i64_w,i32_w];rw [c14b0])|skip)
   have H':=Aside0.mk H
   clear H
   go_wp2_with (first|(go_at_call 25;(with_reducible refine (law1_Num.calls t6 t12 _ A13.out).mono ?_);rintro e w' ⟨rfl,⟨nd,rfl⟩⟩;(try first|exact ⟨rfl,_,World.drewN_drewN _ _ _⟩|exact ⟨rfl,_,Eq.trans (World.drewN_drewN _ _ _) (congrArg (World.drewN _) (Nat.add_assoc _ _ _))⟩);obtain ⟨Ao15,co15,eo15⟩:=Kd.R_slice HO8.out;subst eo15;obtain ⟨Ao16,co16,eo16⟩:=Kd.R_slice HO11.out;subst eo16))
   repeat (go_quiet (first|(go_at_call 25;(with_reducible refine (law1_Num.calls t6 t12 _ A13.out).mono ?_);rintro e w' ⟨rfl,⟨nd,rfl⟩⟩;(try first|exact ⟨rfl,_,World.drewN_drewN _ _ _⟩|exact ⟨rfl,_,Eq.trans (World.drewN_drewN _ _ _) (congrArg (World.drewN _) (Nat.add_assoc _ _ _))⟩);obtain ⟨Ao15,co15,eo15⟩:=Kd.R_slice HO8.out;subst eo15;obtain ⟨Ao16,co16,eo16⟩:=Kd.R_slice HO11.out;subst eo16));try go_wp2_with (first|(go_at_call 25;(with_reducible refine (law1_Num.calls t6 t12 _ A13.out).mono ?_);rintro e w' ⟨rfl,⟨nd,rfl⟩⟩;(try first|exact ⟨rfl,_,World.drewN_drewN _ _ _⟩|exact ⟨rfl,_,Eq.trans (World.drewN_drewN _ _ _) (congrArg (World.drewN _) (Nat.add_assoc _ _ _))⟩);obtain ⟨Ao15,co15,eo15⟩:=Kd.R_slice HO8.out;subst eo15;obtain ⟨Ao16,co16,eo16⟩:=Kd.R_slice HO11.out;subst eo16)))
   go_meet
   case rel=>exact ⟨_,(((t5.length:Int) !=(t9.length:Int))),(by first|rfl|(simp;done)|(simp [*];done)),H',⟨by first|omega|exact Nat.le_refl _⟩,⟨by (with_reducible repeat (first|apply Kd.R_alloc|apply Kd.R_drewN|apply Kd.R_drew));exact HO8.out⟩,⟨by (with_reducible repeat (first|apply Kd.R_alloc|apply Kd.R_drewN|apply Kd.R_drew));exact Kd.R_mono HO11.out (fun _ hk=>trivial)⟩,⟨zl0_ HB⟩⟩
  rw [if_neg c14] at H
  have c14b0:(t12==0)=false:=beq_eq_false_iff_ne.mpr c14
  have c14b1:(t12 !=0)=true:=bne_iff_ne.mpr c14
  (first|rw [c14b0]|(simp only [i64_w,i32_w];rw [c14b0])|skip)
  have H':=Aside0.mk H
  clear H
  go_wp2_with (first|(go_at_call 25;(with_reducible refine (law1_Num.calls t6 t12 _ A13.out).mono ?_);rintro e w' ⟨rfl,⟨nd,rfl⟩⟩;(try first|exact ⟨rfl,_,World.drewN_drewN _ _ _⟩|exact ⟨rfl,_,Eq.trans (World.drewN_drewN _ _ _) (congrArg (World.drewN _) (Nat.add_assoc _ _ _))⟩)))
  repeat (go_quiet (first|(go_at_call 25;(with_reducible refine (law1_Num.calls t6 t12 _ A13.out).mono ?_);rintro e w' ⟨rfl,⟨nd,rfl⟩⟩;(try first|exact ⟨rfl,_,World.drewN_drewN _ _ _⟩|exact ⟨rfl,_,Eq.trans (World.drewN_drewN _ _ _) (congrArg (World.drewN _) (Nat.add_assoc _ _ _))⟩)));try go_wp2_with (first|(go_at_call 25;(with_reducible refine (law1_Num.calls t6 t12 _ A13.out).mono ?_);rintro e w' ⟨rfl,⟨nd,rfl⟩⟩;(try first|exact ⟨rfl,_,World.drewN_drewN _ _ _⟩|exact ⟨rfl,_,Eq.trans (World.drewN_drewN _ _ _) (congrArg (World.drewN _) (Nat.add_assoc _ _ _))⟩))))
  go_meet
  case rel=>exact ⟨_,(true),(by first|rfl|(simp;done)|(simp [*];done)),H',⟨by first|omega|exact Nat.le_refl _⟩,⟨by (with_reducible repeat (first|apply Kd.R_alloc|apply Kd.R_drewN|apply Kd.R_drew));exact HO8.out⟩,⟨by (with_reducible repeat (first|apply Kd.R_alloc|apply Kd.R_drewN|apply Kd.R_drew));exact Kd.R_mono HO11.out (fun _ hk=>trivial)⟩,⟨zl0_ HB⟩⟩
 case rest=>
  clear HC8
  try clear c1
  try clear c2
  try clear c2b0
  try clear c2b1
  try clear p2
  try clear c14
  try clear c14b0
  try clear c14b1
  obtain ⟨kq,x30_7,rfl,HA,HJ7,HO_4,HO_6,HB⟩:=hcut
  cases kq with
  |zero=>exact absurd HA.out (by simp [law18_PlanFresh.j0])
  |succ kj7=>
   have H:=HA.out
   clear HA
   simp only [law18_PlanFresh.j0] at H
   by_cases c17:x30_7=true
   ·subst c17
    have H1:(some false)=some r:=by rw [if_pos rfl] at H;exact H
    clear H
    have H:=H1
    clear H1
    obtain rfl:=Option.some.inj H
    go_wp2
    repeat (go_quiet (fail);try go_wp2)
    go_ret
    exact ⟨by first|rfl|(simp [errW_none,errW_some]<;>rfl)|(simp [*,errW_none,errW_some]<;>rfl),zl0_ HB⟩
   replace c17:=Bool.eq_false_iff.mpr c17
   subst c17
   have H1:(law18_PlanFresh.l0 kj7 t5 t9 0)=some r:=by rw [if_neg (show¬(false=true) by decide)] at H;exact H
   clear H
   have H:=H1
   clear H1
   have H':=Aside0.mk H
   clear H
   go_wp2
   repeat (go_quiet (fail);try go_wp2)
   go_loopg [7] kj7 (fun kq sv7 w'=> ∃(x7_2:Int),sv7= .int .i64 x7_2∧Aside0 (law18_PlanFresh.l0 kq t5 t9 x7_2=some r)∧Aside0 (kq≤kj7)∧Aside0 (Kd.R k76 76 w' w.heap.size (fun _=>True) v7 t5)∧Aside0 (Kd.R k39 39 w' w.heap.size (fun _=>True) v10 t9)∧Aside0 (Below w.heap.size w w'))
   case atStart=>exact ⟨(0),(by first|rfl|(simp;done)|(simp [*];done)),H',⟨Nat.le_refl _⟩,⟨by (with_reducible repeat (first|apply Kd.R_alloc|apply Kd.R_drewN|apply Kd.R_drew));exact HO_4.out⟩,⟨by (with_reducible repeat (first|apply Kd.R_alloc|apply Kd.R_drewN|apply Kd.R_drew));exact HO_6.out⟩,⟨zl0_ HB⟩⟩
   case round=>
    clear H'
    try clear c1
    try clear c2
    try clear c2b0
    try clear c2b1
    try clear p2
    try clear c14
    try clear c14b0
    try clear c14b1
    try clear c17
    try clear p2
    obtain ⟨x7_2,rfl,HA,HK2,HO_4,HO_6,HB⟩:=hrel
    cases gk with
    |zero=>exact absurd HA.out (by simp [law18_PlanFresh.l0])
    |succ k2=>
     have H:=HA.out
     clear HA
     simp only [law18_PlanFresh.l0] at H
     by_cases c18:x7_2<(t5.length:Int)
     rotate_left
     ·rw [if_neg c18] at H
      have c18b0:decide (x7_2<(t5.length:Int))=false:=decide_eq_false c18
      clear c18
      replace H:=Option.bind_eq_some_iff.mp H
      obtain ⟨t17,A260,H⟩:=H
      try dsimp only at H
      have A26:=Aside0.mk A260
      clear A260
      obtain rfl:=Option.some.inj H
      obtain ⟨Ao27,co27,eo27⟩:=Kd.R_slice HO_4.out
      subst eo27
      go_wp2_with (first|(go_at_call 47;(with_reducible refine (law18_awake.calls t17 _ A26.out).mono ?_);rintro e w28 ⟨rfl,hb⟩;replace HO_4:=am_ (Kd.R_below (zr_ HO_4) hb);replace HO_6:=am_ (Kd.R_below (zr_ HO_6) hb);replace HB:=am_ (below_step (zl0_ HB) hb);(try clear hb);(try clear hb2);(try clear hk);(try clear hi)))
      repeat (go_quiet (first|(go_at_call 47;(with_reducible refine (law18_awake.calls t17 _ A26.out).mono ?_);rintro e w28 ⟨rfl,hb⟩;replace HO_4:=am_ (Kd.R_below (zr_ HO_4) hb);replace HO_6:=am_ (Kd.R_below (zr_ HO_6) hb);replace HB:=am_ (below_step (zl0_ HB) hb);(try clear hb);(try clear hb2);(try clear hk);(try clear hi)));try go_wp2_with (first|(go_at_call 47;(with_reducible refine (law18_awake.calls t17 _ A26.out).mono ?_);rintro e w28 ⟨rfl,hb⟩;replace HO_4:=am_ (Kd.R_below (zr_ HO_4) hb);replace HO_6:=am_ (Kd.R_below (zr_ HO_6) hb);replace HB:=am_ (below_step (zl0_ HB) hb);(try clear hb);(try clear hb2);(try clear hk);(try clear hi))))
      go_ret
      exact ⟨by first|rfl|(simp [errW_none,errW_some]<;>rfl)|(simp [*,errW_none,errW_some]<;>rfl),zl0_ HB⟩

     rw [if_pos c18] at H
     have c18b0:decide (x7_2<(t5.length:Int))=true:=decide_eq_true c18
     clear c18
     by_cases c19:0≤x7_2
     rotate_left
     ·rw [if_neg c19] at H
      exact absurd H (by simp)
     rw [if_pos c19] at H
     have c19b0:decide (0≤x7_2)=true:=decide_eq_true c19
     clear c19
     by_cases c20:x7_2<(t9.length:Int)
     rotate_left
     ·rw [if_neg c20] at H
      exact absurd H (by simp)
     rw [if_pos c20] at H
     have c20b0:decide (x7_2<(t9.length:Int))=true:=decide_eq_true c20
     clear c20
     by_cases c21:(!(((rd_T76 t5 x7_2).f0)==1)||(!((((rd_T76 t5 x7_2).f1).toList)==(((rd_T39 t9 x7_2).f0).toList))||(!((((rd_T76 t5 x7_2).f2).toList)==(((rd_T39 t9 x7_2).f1).toList))||((!(((rd_T76 t5 x7_2).f3.f0)==((rd_T39 t9 x7_2).f2.f0))||(!(((rd_T76 t5 x7_2).f3.f1)==((rd_T39 t9 x7_2).f2.f1))||(!(((rd_T76 t5 x7_2).f3.f2)==((rd_T39 t9 x7_2).f2.f2)))))))))=true
     ·rw [if_pos c21] at H
      have c21b0:(!(((rd_T76 t5 x7_2).f0)==1)||(!((((rd_T76 t5 x7_2).f1).toList)==(((rd_T39 t9 x7_2).f0).toList))||(!((((rd_T76 t5 x7_2).f2).toList)==(((rd_T39 t9 x7_2).f1).toList))||((!(((rd_T76 t5 x7_2).f3.f0)==((rd_T39 t9 x7_2).f2.f0))||(!(((rd_T76 t5 x7_2).f3.f1)==((rd_T39 t9 x7_2).f2.f1))||(!(((rd_T76 t5 x7_2).f3.f2)==((rd_T39 t9 x7_2).f2.f2)))))))))=true:=c21
      clear c21
      obtain rfl:=Option.some.inj H
      obtain ⟨Ao22,co22,eo22⟩:=Kd.R_slice HO_4.out
      subst eo22
      have p13:0≤(x7_2:Int):=of_decide_eq_true zq_
      have q13:x7_2<(t5.length:Int):=of_decide_eq_true zq_
      obtain ⟨ad13,e13,hx13_0,hx13_1,hx13_2,hx13_3,hx13_4,hx13_5⟩:=at_T76 (Kd.R_reads' HO_4.out).2.2 x7_2 p13 q13
      cases e13
      replace p13:=eq_true p13
      replace q13:=eq_true q13
      obtain ⟨Ao23,co23,eo23⟩:=Kd.R_slice HO_6.out
      subst eo23
      have p14:0≤(x7_2:Int):=of_decide_eq_true zq_
      have q14:x7_2<(t9.length:Int):=of_decide_eq_true zq_
      obtain ⟨ad14,e14,hx14_0,hx14_1,hx14_2,hx14_3,hx14_4⟩:=at_T39 (Kd.R_reads' HO_6.out).2.2 x7_2 p14 q14
      cases e14
      replace p14:=eq_true p14
      replace q14:=eq_true q14
      have p15:0≤(x7_2:Int):=of_decide_eq_true zq_
      have q15:x7_2<(t9.length:Int):=of_decide_eq_true zq_
      obtain ⟨ad15,e15,hx15_0,hx15_1,hx15_2,hx15_3,hx15_4⟩:=at_T39 (Kd.R_reads' HO_6.out).2.2 x7_2 p15 q15
      obtain rfl:ad14=ad15:=(by injection e15)
      replace p15:=eq_true p15
      replace q15:=eq_true q15
      have p16:0≤(x7_2:Int):=of_decide_eq_true zq_
      have q16:x7_2<(t9.length:Int):=of_decide_eq_true zq_
      obtain ⟨ad16,e16,hx16_0,hx16_1,hx16_2,hx16_3,hx16_4⟩:=at_T39 (Kd.R_reads' HO_6.out).2.2 x7_2 p16 q16
      obtain rfl:ad14=ad16:=(by injection e16)
      replace p16:=eq_true p16
      replace q16:=eq_true q16
      go_wp2
      repeat (go_quiet (fail);try go_wp2)
      go_ret
      exact ⟨by first|rfl|(simp [errW_none,errW_some]<;>rfl)|(simp [*,errW_none,errW_some]<;>rfl),zl0_ HB⟩
     rw [if_neg c21] at H
     have c21b0:(!(((rd_T76 t5 x7_2).f0)==1)||(!((((rd_T76 t5 x7_2).f1).toList)==(((rd_T39 t9 x7_2).f0).toList))||(!((((rd_T76 t5 x7_2).f2).toList)==(((rd_T39 t9 x7_2).f1).toList))||((!(((rd_T76 t5 x7_2).f3.f0)==((rd_T39 t9 x7_2).f2.f0))||(!(((rd_T76 t5 x7_2).f3.f1)==((rd_T39 t9 x7_2).f2.f1))||(!(((rd_T76 t5 x7_2).f3.f2)==((rd_T39 t9 x7_2).f2.f2)))))))))=false:=by simpa using c21
     clear c21
     have H':=Aside0.mk H
     clear H
     obtain ⟨Ao24,co24,eo24⟩:=Kd.R_slice HO_4.out
     subst eo24
     have p13:0≤(x7_2:Int):=of_decide_eq_true zq_
     have q13:x7_2<(t5.length:Int):=of_decide_eq_true zq_
     obtain ⟨ad13,e13,hx13_0,hx13_1,hx13_2,hx13_3,hx13_4,hx13_5⟩:=at_T76 (Kd.R_reads' HO_4.out).2.2 x7_2 p13 q13
     cases e13
     replace p13:=eq_true p13
     replace q13:=eq_true q13
     obtain ⟨Ao25,co25,eo25⟩:=Kd.R_slice HO_6.out
     subst eo25
     have p14:0≤(x7_2:Int):=of_decide_eq_true zq_
     have q14:x7_2<(t9.length:Int):=of_decide_eq_true zq_
     obtain ⟨ad14,e14,hx14_0,hx14_1,hx14_2,hx14_3,hx14_4⟩:=at_T39 (Kd.R_reads' HO_6.out).2.2 x7_2 p14 q14
     cases e14
     replace p14:=eq_true p14
     replace q14:=eq_true q14
     have p15:0≤(x7_2:Int):=of_decide_eq_true zq_
     have q15:x7_2<(t9.length:Int):=of_decide_eq_true zq_
     obtain ⟨ad15,e15,hx15_0,hx15_1,hx15_2,hx15_3,hx15_4⟩:=at_T39 (Kd.R_reads' HO_6.out).2.2 x7_2 p15 q15
     obtain rfl:ad14=ad15:=(by injection e15)
     replace p15:=eq_true p15
     replace q15:=eq_true q15
     have p16:0≤(x7_2:Int):=of_decide_eq_true zq_
     have q16:x7_2<(t9.length:Int):=of_decide_eq_true zq_
     obtain ⟨ad16,e16,hx16_0,hx16_1,hx16_2,hx16_3,hx16_4⟩:=at_T39 (Kd.R_reads' HO_6.out).2.2 x7_2 p16 q16
     obtain rfl:ad14=ad16:=(by injection e16)
     replace p16:=eq_true p16
     replace q16:=eq_true q16
     go_wp2
     repeat (go_quiet (fail);try go_wp2)
     go_roundg k2
     case measure=>have:=HJ7.out;have:=HK2.out;omega
     case rel=>exact ⟨(wrap64 (x7_2+1)),(by first|rfl|(simp;done)|(simp [*];done)),H',⟨by have:=HJ7.out;have:=HK2.out;omega⟩,⟨by (with_reducible repeat (first|apply Kd.R_alloc|apply Kd.R_drewN|apply Kd.R_drew));exact HO_4.out⟩,⟨by (with_reducible repeat (first|apply Kd.R_alloc|apply Kd.R_drewN|apply Kd.R_drew));exact HO_6.out⟩,⟨zl0_ HB⟩⟩
noncomputable def law18_PlanFresh.Pure:Prop:= ∀(l0:List Int),l0.length≤maxLen→l0.length*1≤140737488351232→(∀x∈l0,(Lit.int .u8 x).wf=true)→ ∃k,law18_PlanFresh.f k l0=some true
theorem law18_PlanFresh.walk (P:law18_PlanFresh.Pure) (a0:Option Addr) (len0 cap0:Nat) (z0:List Int) (w:World) (w0:(a0=none∧len0=0∧cap0=0∧z0=[])∨ ∃x,a0=some x∧len0≤cap0∧cap0≤maxLen∧z0.length=cap0∧(∀i,i<z0.length→w.cell? (x.add i)=some (.int .u8 (z0.getD i 0)))∧ ∀n∈z0,(Lit.int .u8 n).wf=true) (y0:len0*1≤140737488351232):
  Calls Try.prog 14 #[.slice a0 len0 cap0] w fun e w'=>e= .returned (.bool true)∧Below w.heap.size w w':=by
 obtain ⟨l0,rfl,hr0,hm0,hw0,hc0⟩:=ReadsInt.ofRowC w0
 obtain ⟨k,h⟩:=P l0 hm0 y0 hw0
 refine (law18_PlanFresh.calls k _ _ l0 true w (Kd.C_of_reads (d:=(0:Int)) (h1:=fun _=>rfl) hr0) hc0 h).mono ?_
 rintro e w' ⟨rfl,hd⟩
 exact ⟨rfl,hd⟩

def slices_Clone_Item.f (l0:List (S79)):Option (List (S79)):=if l0.length<1256584717458 then some l0 else none
def shape_made.f (l0:List (S79)) (a1:ByteArray):Option ((List (S79))×Int):=(slices_Clone_Item.f l0).bind fun t2=>((tree_Find.f l0 a1).bind fun t5=>(some (t2,t5)))
def shape_change_parent.f (l0_0:List (S79)) (a0_1:Int) (a1:ByteArray):Option (Bool):=if a1.toList=([]:List UInt8) then (some true) else ((tree_Find.f l0_0 a1).bind fun t2=>(some (decide (t2≥0))))
def guardF (l:List S79) (j ver:Int):Option Int:=if j<0 then some 2 else if j<(l.length:Int) then (if 0≤ver∧(rd_T79 l j).f5≠ver then some 14 else some 0) else none
def verF (y:S79):S79:=⟨y.f0,y.f1,y.f2,y.f3,y.f4,wrap64 (y.f5+1)⟩
def olderF (l:List S79) (j:Int):Option (Int×List S79):=if 0≤j∧j<(l.length:Int) then (if (rd_T79 l j).f5≥9007199254740992 then some (4,l) else some (0,l.set j.toNat (verF (rd_T79 l j)))) else none
structure Turned (W w':World) (base:Nat) (v:Value):Prop where
 below:Below base W w'
 block: ∀(k:Nat) o,W.heap[k]?=some o→some k≠v.ownBlock→w'.heap[k]?=some o
theorem Turned.of_below {W w':World} {base:Nat} {v:Value} (h:Below W.heap.size W w') (hb:base≤W.heap.size):Turned W w' base v:=⟨⟨h.os,h.tape,h.output,h.size,fun k hk=>h.block k (Nat.lt_of_lt_of_le hk hb)⟩,fun k o hk _=>blk_below hk h⟩
end Go.Proofs.Ytahidkjncljkaaa.Print

namespace Go.Proofs.Ytahidkjncljkaaa.Print
open Go.RowKit Go.Proofs.YtahidkjncljkaaaW.PrintWords Go.Proofs.YtahidkjncljkaaaW.PrintLast Go.Proofs.YtahidkjncljkaaaW.PrintMore
end Go.Proofs.Ytahidkjncljkaaa.Print

namespace Go.Proofs.Ytahidkjncljkaaa.Print
open Go.RowKit Go.Proofs.YtahidkjncljkaaaW.PrintWords Go.Proofs.YtahidkjncljkaaaW.PrintLast Go.Proofs.YtahidkjncljkaaaW.PrintMore
attribute [local go_sem] max2_int min2_int max_two min_two max_three min_three max_four min_four
def placeL (l:List S79) (n:ByteArray):Nat:=(l.takeWhile fun y=>Op.bytesLess y.f0.toList n.toList).length
def shape_Create.f (l0:List (S79)) (a1:ByteArray) (a2:ByteArray) (a3_0:Int) (a3_1:Int) (a3_2:Int):Option ((List (S79))×Int):=
 (shape_made.f l0 a1).bind fun p=>if a1.toList=([]:List UInt8) then some ([],1) else if (a1.size:Int)>24 then some ([],1) else (vec_May.f a3_0 a3_1 a3_2).bind fun m=>if m=false then some ([],1) else
  if p.2≥0 then some ([],3) else (shape_change_parent.f p.1 p.2 a2).bind fun q=>if q=false then some ([],2) else if (l0.length:Int)≥120 then some ([],4) else
   some (p.1.take (placeL l0 a1)++⟨a1,a2,⟨a3_0,a3_1,a3_2⟩,⟨0,0,0⟩,⟨0,0,0⟩,1⟩::p.1.drop (placeL l0 a1),0)
end Go.Proofs.Ytahidkjncljkaaa.Print

namespace Go.Proofs.Ytahidkjncljkaaa.Print
open Go.RowKit Go.Proofs.YtahidkjncljkaaaW.PrintWords Go.Proofs.YtahidkjncljkaaaW.PrintLast Go.Proofs.YtahidkjncljkaaaW.PrintMore
def shSub (op:S37→S37) (y:S79):S79:=⟨y.f0,y.f1,y.f2,y.f3,op y.f4,y.f5⟩
def shiftF (op:S37→S37):List ByteArray→List S79→Option (List S79)
 |[],out=>some out
 |s::us,out=>(tree_Find.f out s).bind fun j=>if 0≤j∧j<(out.length:Int) then shiftF op us (out.set j.toNat (shSub op (rd_T79 out j))) else none
end Go.Proofs.Ytahidkjncljkaaa.Print

namespace Go.Proofs.Ytahidkjncljkaaa.Print
open Go.RowKit Go.Proofs.YtahidkjncljkaaaW.PrintWords Go.Proofs.YtahidkjncljkaaaW.PrintLast Go.Proofs.YtahidkjncljkaaaW.PrintMore
attribute [local go_sem] max2_int min2_int max_two min_two max_three min_three max_four min_four

def limF (v:S37) (y:S79):S79:=⟨y.f0,y.f1,v,y.f3,y.f4,y.f5⟩
def shape_Limit.f (l0:List (S79)) (a1:ByteArray) (a2_0:Int) (a2_1:Int) (a2_2:Int) (a3:Int):Option ((List (S79))×Int):=
 (vec_May.f a2_0 a2_1 a2_2).bind fun m=>if m=false then some ([],1) else (shape_made.f l0 a1).bind fun p=>(guardF p.1 p.2 a3).bind fun e=>if e≠0 then some ([],e) else (olderF p.1 p.2).bind fun q=>if q.1≠0 then some ([],q.1) else
  (vec_Le.f (rd_T79 q.2 p.2).f4.f0 (rd_T79 q.2 p.2).f4.f1 (rd_T79 q.2 p.2).f4.f2 a2_0 a2_1 a2_2).bind fun b=>if b=false then some ([],12) else some (q.2.set p.2.toNat (limF ⟨a2_0,a2_1,a2_2⟩ (rd_T79 q.2 p.2)),0)
def slices_Index_string_string.l0:Nat→List ByteArray→ByteArray→Int→Int→Option (Int)
 |0,_,_,_,_=>none
 |k+1,x0,x1,x7,x8=>if x8<x7 then (if 0≤x8 then (if x8<(x0.length:Int) then (if x1.toList=(rdOf ByteArray.empty x0 x8).toList then (some x8) else (slices_Index_string_string.l0 k x0 x1 x7 (wrap64 (x8+1)))) else (none)) else (none)) else (some (-1))
def slices_Index_string_string.f (k:Nat) (l0:List ByteArray) (a1:ByteArray):Option (Int):=slices_Index_string_string.l0 k l0 a1 (l0.length:Int) 0
theorem slices_Index_string_string.mono_l: ∀k,(∀y0 y1 y2 y3,LeO (slices_Index_string_string.l0 k y0 y1 y2 y3) (slices_Index_string_string.l0 (k+1) y0 y1 y2 y3))
 |0=>fun _ _ _ _ r h=>by simp [slices_Index_string_string.l0] at h
 |k+1=>by
  have ih0:=slices_Index_string_string.mono_l k
  intro y0 y1 y2 y3
  unfold slices_Index_string_string.l0
  repeat' first
  |(with_reducible exact ih0 _ _ _ _)
  |(with_reducible exact LeO.refl _)
  |(with_reducible exact LeO.none _)
  |(with_reducible refine LeO.ite ?_ ?_)
  |(with_reducible refine LeO.bind ?_ (fun _=> ?_))
  |exact ih0 _ _ _ _
  |exact LeO.none _
  |refine LeO.ite ?_ ?_
  |refine LeO.bind ?_ (fun _=> ?_)
theorem slices_Index_string_string.mono: ∀a0 a1 k,LeO (slices_Index_string_string.f k a0 a1) (slices_Index_string_string.f (k+1) a0 a1):=by
 intro a0 a1 k
 have ih0:=slices_Index_string_string.mono_l k
 unfold slices_Index_string_string.f
 repeat' first
  |(with_reducible exact ih0 _ _ _ _)
  |(with_reducible exact LeO.refl _)
  |(with_reducible exact LeO.none _)
  |(with_reducible refine LeO.ite ?_ ?_)
  |(with_reducible refine LeO.bind ?_ (fun _=> ?_))
  |exact ih0 _ _ _ _
  |exact LeO.none _
  |refine LeO.ite ?_ ?_
  |refine LeO.bind ?_ (fun _=> ?_)
def slices_Contains_string_string.f (k:Nat) (l0:List ByteArray) (a1:ByteArray):Option (Bool):=(slices_Index_string_string.f k l0 a1).bind fun t1=>(some (decide (t1≥0)))
theorem slices_Contains_string_string.mono: ∀a0 a1 k,LeO (slices_Contains_string_string.f k a0 a1) (slices_Contains_string_string.f (k+1) a0 a1):=by
 intro a0 a1 k
 unfold slices_Contains_string_string.f
 repeat' first
  |(with_reducible exact slices_Index_string_string.mono _ _ _)
  |(with_reducible exact LeO.refl _)
  |(with_reducible exact LeO.none _)
  |(with_reducible refine LeO.ite ?_ ?_)
  |(with_reducible refine LeO.bind ?_ (fun _=> ?_))
  |exact slices_Index_string_string.mono _ _ _
  |exact LeO.none _
  |refine LeO.ite ?_ ?_
  |refine LeO.bind ?_ (fun _=> ?_)
def mvAdd (v u:S37):S37:=⟨((vec_Add.f [u,v]).getD (0,0,0)).1,((vec_Add.f [u,v]).getD (0,0,0)).2.1,((vec_Add.f [u,v]).getD (0,0,0)).2.2⟩
def mvSub (v u:S37):S37:=⟨wrap64 (u.f0 - v.f0),wrap64 (u.f1 - v.f1),wrap64 (u.f2 - v.f2)⟩
def fitsF (k:Nat) (l:List S79) (from_:List ByteArray) (sub:S37):List ByteArray→Option Bool
  |[]=>some true
  | s :: us => (tree_Find.f l s).bind fun j => if 0 ≤ j ∧ j < (l.length : Int) then (slices_Contains_string_string.f k from_ s).bind fun c => if c = true then fitsF k l from_ sub us else
      (vec_Le.f (mvAdd sub (rd_T79 l j).f4).f0 (mvAdd sub (rd_T79 l j).f4).f1 (mvAdd sub (rd_T79 l j).f4).f2 (rd_T79 l j).f2.f0 (rd_T79 l j).f2.f1 (rd_T79 l j).f2.f2).bind fun b=>if b=true then fitsF k l from_ sub us else some false else none
theorem fitsF_mono (l:List S79) (from_:List ByteArray) (sub:S37) (k:Nat): ∀us,LeO (fitsF k l from_ sub us) (fitsF (k+1) l from_ sub us)
  |[]=>LeO.refl _
  | s :: us => by
    unfold fitsF
    refine LeO.bind (LeO.refl _) (fun j=>LeO.ite (LeO.bind (slices_Contains_string_string.mono _ _ _) (fun c=>LeO.ite (fitsF_mono l from_ sub k us) (LeO.bind (LeO.refl _) (fun b=>LeO.ite (fitsF_mono l from_ sub k us) (LeO.refl _))))) (LeO.refl _))
def parF (p:ByteArray) (y:S79):S79:=⟨y.f0,p,y.f2,y.f3,y.f4,y.f5⟩
def shape_Move.f (k:Nat) (l0:List (S79)) (a1:ByteArray) (a2:ByteArray) (a3:Int):Option ((List (S79))×Int):=
 (shape_made.f l0 a1).bind fun p=>(guardF p.1 p.2 a3).bind fun e=>if e≠0 then some ([],e) else (tree_Up.f k l0 a2).bind fun ts=>(shape_change_parent.f p.1 p.2 a2).bind fun q=>if q=false then some ([],2) else
  (slices_Contains_string_string.f k ts a1).bind fun c=>if c=true then some ([],10) else (olderF p.1 p.2).bind fun o=>if o.1≠0 then some ([],o.1) else
   (tree_Up.f k l0 (rd_T79 o.2 p.2).f1).bind fun fs=>(fitsF k l0 fs (rd_T79 o.2 p.2).f4 ts).bind fun b=>if b=false then some ([],12) else
    (shiftF (mvSub (rd_T79 o.2 p.2).f4) fs o.2).bind fun l3=>(shiftF (mvAdd (rd_T79 o.2 p.2).f4) ts l3).bind fun l4=>some (l4.set p.2.toNat (parF a2 (rd_T79 l4 p.2)),0)
theorem shape_Move.mono: ∀a0 a1 a2 a3 k,LeO (shape_Move.f k a0 a1 a2 a3) (shape_Move.f (k+1) a0 a1 a2 a3):=by
 intro a0 a1 a2 a3 k
 unfold shape_Move.f
 repeat' first
  |(with_reducible exact tree_Up.mono _ _ _)
  |(with_reducible exact slices_Contains_string_string.mono _ _ _)
  |(with_reducible exact fitsF_mono _ _ _ _ _)
  |(with_reducible exact LeO.refl _)
  |(with_reducible exact LeO.none _)
  |(with_reducible refine LeO.ite ?_ ?_)
  |(with_reducible refine LeO.bind ?_ (fun _=> ?_))
def tree_Below.l0:Nat→ByteArray→List ByteArray→List (S79)→Int→Int→Option (List ByteArray)
 |0,_,_,_,_,_=>none
 |k+1,x1,x5,x8,x9,x10=>if x10<x9 then (if 0≤x10 then (if x10<(x8.length:Int) then (if ((rd_T79 x8 x10).f1).toList=x1.toList then (if x5.length<8796093022208 then (tree_Below.l0 k x1 (x5++ [(rd_T79 x8 x10).f0]) x8 x9 (wrap64 (x10+1))) else (none)) else (tree_Below.l0 k x1 x5 x8 x9 (wrap64 (x10+1)))) else (none)) else (none)) else (some x5)
def tree_Below.f (k:Nat) (l0:List (S79)) (a1:ByteArray):Option (List ByteArray):=tree_Below.l0 k a1 ([]:List ByteArray) l0 (l0.length:Int) 0
theorem tree_Below.mono_l: ∀k,(∀y0 y1 y2 y3 y4,LeO (tree_Below.l0 k y0 y1 y2 y3 y4) (tree_Below.l0 (k+1) y0 y1 y2 y3 y4))
 |0=>fun _ _ _ _ _ r h=>by simp [tree_Below.l0] at h
 |k+1=>by
  have ih0:=tree_Below.mono_l k
  intro y0 y1 y2 y3 y4
  unfold tree_Below.l0
  repeat' first
  |(with_reducible exact ih0 _ _ _ _ _)
  |(with_reducible exact LeO.refl _)
  |(with_reducible exact LeO.none _)
  |(with_reducible refine LeO.ite ?_ ?_)
  |(with_reducible refine LeO.bind ?_ (fun _=> ?_))
  |exact ih0 _ _ _ _ _
  |exact LeO.none _
  |refine LeO.ite ?_ ?_
  |refine LeO.bind ?_ (fun _=> ?_)
theorem tree_Below.mono: ∀a0 a1 k,LeO (tree_Below.f k a0 a1) (tree_Below.f (k+1) a0 a1):=by
 intro a0 a1 k
 have ih0:=tree_Below.mono_l k
 unfold tree_Below.f
 repeat' first
  |(with_reducible exact ih0 _ _ _ _ _)
  |(with_reducible exact LeO.refl _)
  |(with_reducible exact LeO.none _)
  |(with_reducible refine LeO.ite ?_ ?_)
  |(with_reducible refine LeO.bind ?_ (fun _=> ?_))
  |exact ih0 _ _ _ _ _
  |exact LeO.none _
  |refine LeO.ite ?_ ?_
  |refine LeO.bind ?_ (fun _=> ?_)
def shape_Delete.f (k:Nat) (l0:List (S79)) (a1:ByteArray) (a2:Int):Option ((List (S79))×Int):=
 (shape_made.f l0 a1).bind fun p=>(guardF p.1 p.2 a2).bind fun e=>if e≠0 then some ([],e) else (tree_Below.f k l0 a1).bind fun b=>if (b.length:Int)>0 then some ([],13) else
  if (rd_T79 p.1 p.2).f3.f0=0∧(rd_T79 p.1 p.2).f3.f1=0∧(rd_T79 p.1 p.2).f3.f2=0 then some (p.1.take p.2.toNat++p.1.drop (p.2.toNat+1),0) else some ([],13)
theorem shape_Delete.mono: ∀a0 a1 a2 k,LeO (shape_Delete.f k a0 a1 a2) (shape_Delete.f (k+1) a0 a1 a2):=by
 intro a0 a1 a2 k
 unfold shape_Delete.f
 repeat' first
  |(with_reducible exact tree_Below.mono _ _ _)
  |(with_reducible exact LeO.refl _)
  |(with_reducible exact LeO.none _)
  |(with_reducible refine LeO.ite ?_ ?_)
  |(with_reducible refine LeO.bind ?_ (fun _=> ?_))
def shape_Do.f (k:Nat) (l0:List (S79)) (a1_0:Int) (a1_1:ByteArray) (a1_2:ByteArray) (a1_3:Int) (a1_4:Int) (a1_5:Int) (a2:Int):Option ((List (S79))×Int):=if a1_0=1 then ((shape_Create.f l0 a1_1 a1_2 a1_3 a1_4 a1_5).bind fun bt2=>(some (bt2.1,bt2.2))) else (if a1_0=2 then ((shape_Limit.f l0 a1_1 a1_3 a1_4 a1_5 a2).bind fun bt6=>(some (bt6.1,bt6.2))) else (if a1_0=3 then ((shape_Move.f k l0 a1_1 a1_2 a2).bind fun bt10=>(some (bt10.1,bt10.2))) else (if a1_0=4 then ((shape_Delete.f k l0 a1_1 a2).bind fun bt14=>(some (bt14.1,bt14.2))) else (some (([]:List (S79)),1)))))
theorem shape_Do.mono: ∀a0 a1 a2 a3 a4 a5 a6 a7 k,LeO (shape_Do.f k a0 a1 a2 a3 a4 a5 a6 a7) (shape_Do.f (k+1) a0 a1 a2 a3 a4 a5 a6 a7):=by
 intro a0 a1 a2 a3 a4 a5 a6 a7 k
 unfold shape_Do.f
 repeat' first
  |(with_reducible exact shape_Delete.mono _ _ _ _)
  |(with_reducible exact shape_Move.mono _ _ _ _ _)
  |(with_reducible exact LeO.refl _)
  |(with_reducible exact LeO.none _)
  |(with_reducible refine LeO.ite ?_ ?_)
  |(with_reducible refine LeO.bind ?_ (fun _=> ?_))
  |exact shape_Delete.mono _ _ _ _
  |exact shape_Move.mono _ _ _ _ _
  |exact LeO.none _
  |refine LeO.ite ?_ ?_
  |refine LeO.bind ?_ (fun _=> ?_)
def Kept (b:Nat) (W w:World):Prop:=(∀g ob,g≠b→W.heap[g]?=some ob→w.heap[g]?=some ob)∧W.heap.size≤w.heap.size
def trial_try.l0:Nat→List (S76)→Int→List (S79)→Int→Option ((List (S79))×Int×Int)
 |0,_,_,_,_=>none
 |k+1,ss,x,lc,dc=>if x<(ss.length:Int) then (if 0≤x then ((shape_Do.f k lc (rd_T76 ss x).f0 (rd_T76 ss x).f1 (rd_T76 ss x).f2 (rd_T76 ss x).f3.f0 (rd_T76 ss x).f3.f1 (rd_T76 ss x).f3.f2 (-1)).bind fun bt7=>if bt7.2=0 then trial_try.l0 k ss (wrap64 (x+1)) bt7.1 (wrap64 (dc+1)) else some (lc,dc,bt7.2)) else none) else some (lc,dc,0)
theorem trial_try.mono_l: ∀k y0 y1 y2 y3,LeO (trial_try.l0 k y0 y1 y2 y3) (trial_try.l0 (k+1) y0 y1 y2 y3)
  |0=>fun _ _ _ _ r h=>by simp [trial_try.l0] at h
  | k + 1 => by
    have ih0:=trial_try.mono_l k
    intro y0 y1 y2 y3
    unfold trial_try.l0
    repeat' first
      |(with_reducible exact ih0 _ _ _ _)
      |(with_reducible exact shape_Do.mono _ _ _ _ _ _ _ _ _)
      |(with_reducible exact LeO.refl _)
      |(with_reducible exact LeO.none _)
      |(with_reducible refine LeO.ite ?_ ?_)
      |(with_reducible refine LeO.bind ?_ (fun _=> ?_))
theorem eqA79 (d:Nat) (w:World) (x0 y0:ByteArray) (x1 y1:ByteArray) (x2 y2:Int) (x3 y3:Int) (x4 y4:Int) (x5 y5:Int) (x6 y6:Int) (x7 y7:Int) (x8 y8:Int) (x9 y9:Int) (x10 y10:Int) (x11 y11:Int):
  (Op.equalIn (d+3) 79 (.agg #[.string x0, .string x1, .int .i64 x2, .int .i64 x3, .int .i64 x4, .int .i64 x5, .int .i64 x6, .int .i64 x7, .int .i64 x8, .int .i64 x9, .int .i64 x10, .int .i64 x11]) (.agg #[.string y0, .string y1, .int .i64 y2, .int .i64 y3, .int .i64 y4, .int .i64 y5, .int .i64 y6, .int .i64 y7, .int .i64 y8, .int .i64 y9, .int .i64 y10, .int .i64 y11])).run Try.prog w= .ok (x0.toList==y0.toList && (x1.toList==y1.toList && ((x2==y2 && (x3==y3 && (x4==y4))) && ((x5==y5 && (x6==y6 && (x7==y7))) && ((x8==y8 && (x9==y9 && (x10==y10))) && (x11==y11)))))) w:=by
 refine eqA_of Try.underlying79 (by kernel_rfl) ?_
 refine eqf_cons (by rfl) (by go_simp;rfl) (by go_simp;rfl) (by go_simp) ?_
 refine eqf_cons (by rfl) (by go_simp;rfl) (by go_simp;rfl) (by go_simp) ?_
 refine eqf_cons (by rfl) (by go_simp) (by go_simp) (eqA37 (d+0) w _ _ _ _ _ _) ?_
 refine eqf_cons (by rfl) (by go_simp) (by go_simp) (eqA37 (d+0) w _ _ _ _ _ _) ?_
 refine eqf_cons (by rfl) (by go_simp) (by go_simp) (eqA37 (d+0) w _ _ _ _ _ _) ?_
 exact eqf_last (by rfl) (by go_simp;rfl) (by go_simp;rfl) (by go_simp)
attribute [local go_sem high] eqA79
end Go.Proofs.Ytahidkjncljkaaa.Print

namespace Go.Proofs.Ytahidkjncljkaaa.Print
open Go.RowKit Go.Proofs.YtahidkjncljkaaaW.PrintWords Go.Proofs.YtahidkjncljkaaaW.PrintLast Go.Proofs.YtahidkjncljkaaaW.PrintMore
end Go.Proofs.Ytahidkjncljkaaa.Print

namespace Go.Proofs.Ytahidkjncljkaaa.Print
open Go.RowKit Go.Proofs.YtahidkjncljkaaaW.PrintWords Go.Proofs.YtahidkjncljkaaaW.PrintLast Go.Proofs.YtahidkjncljkaaaW.PrintMore
attribute [local go_sem] max2_int min2_int max_two min_two max_three min_three max_four min_four

end Go.Proofs.Ytahidkjncljkaaa.Print

namespace Go.Proofs.Ytahidkjncljkaaa.Print
open Go.RowKit Go.Proofs.YtahidkjncljkaaaW.PrintWords Go.Proofs.YtahidkjncljkaaaW.PrintLast Go.Proofs.YtahidkjncljkaaaW.PrintMore
end Go.Proofs.Ytahidkjncljkaaa.Print

namespace Go.Proofs.Ytahidkjncljkaaa.Print
open Go.RowKit Go.Proofs.YtahidkjncljkaaaW.PrintWords Go.Proofs.YtahidkjncljkaaaW.PrintLast Go.Proofs.YtahidkjncljkaaaW.PrintMore
attribute [local go_sem] max2_int min2_int max_two min_two max_three min_three max_four min_four

end Go.Proofs.Ytahidkjncljkaaa.Print

namespace Go.Proofs.Ytahidkjncljkaaa.Print
open Go.RowKit Go.Proofs.YtahidkjncljkaaaW.PrintWords Go.Proofs.YtahidkjncljkaaaW.PrintLast Go.Proofs.YtahidkjncljkaaaW.PrintMore
end Go.Proofs.Ytahidkjncljkaaa.Print

namespace Go.Proofs.Ytahidkjncljkaaa.Print
open Go.RowKit Go.Proofs.YtahidkjncljkaaaW.PrintWords Go.Proofs.YtahidkjncljkaaaW.PrintLast Go.Proofs.YtahidkjncljkaaaW.PrintMore
attribute [local go_sem] max2_int min2_int max_two min_two max_three min_three max_four min_four

attribute [local go_sem high] eqA37
end Go.Proofs.Ytahidkjncljkaaa.Print

namespace Go.Proofs.Ytahidkjncljkaaa.Print
open Go.RowKit Go.Proofs.YtahidkjncljkaaaW.PrintWords Go.Proofs.YtahidkjncljkaaaW.PrintLast Go.Proofs.YtahidkjncljkaaaW.PrintMore
end Go.Proofs.Ytahidkjncljkaaa.Print

namespace Go.Proofs.Ytahidkjncljkaaa.Print
open Go.RowKit Go.Proofs.YtahidkjncljkaaaW.PrintWords Go.Proofs.YtahidkjncljkaaaW.PrintLast Go.Proofs.YtahidkjncljkaaaW.PrintMore
attribute [local go_sem] max2_int min2_int max_two min_two max_three min_three max_four min_four

end Go.Proofs.Ytahidkjncljkaaa.Print

namespace Go.Proofs.Ytahidkjncljkaaa.Print
open Go.RowKit Go.Proofs.YtahidkjncljkaaaW.PrintWords Go.Proofs.YtahidkjncljkaaaW.PrintLast Go.Proofs.YtahidkjncljkaaaW.PrintMore
end Go.Proofs.Ytahidkjncljkaaa.Print

namespace Go.Proofs.Ytahidkjncljkaaa.Print
open Go.RowKit Go.Proofs.YtahidkjncljkaaaW.PrintWords Go.Proofs.YtahidkjncljkaaaW.PrintLast Go.Proofs.YtahidkjncljkaaaW.PrintMore
attribute [local go_sem] max2_int min2_int max_two min_two max_three min_three max_four min_four

end Go.Proofs.Ytahidkjncljkaaa.Print

namespace Go.Proofs.Ytahidkjncljkaaa.Print
open Go.RowKit Go.Proofs.YtahidkjncljkaaaW.PrintWords Go.Proofs.YtahidkjncljkaaaW.PrintLast Go.Proofs.YtahidkjncljkaaaW.PrintMore
end Go.Proofs.Ytahidkjncljkaaa.Print

namespace Go.Proofs.Ytahidkjncljkaaa.Print
open Go.RowKit Go.Proofs.YtahidkjncljkaaaW.PrintWords Go.Proofs.YtahidkjncljkaaaW.PrintLast Go.Proofs.YtahidkjncljkaaaW.PrintMore
attribute [local go_sem] max2_int min2_int max_two min_two max_three min_three max_four min_four

end Go.Proofs.Ytahidkjncljkaaa.Print

namespace Go.Proofs.Ytahidkjncljkaaa.Print
open Go.RowKit Go.Proofs.YtahidkjncljkaaaW.PrintWords Go.Proofs.YtahidkjncljkaaaW.PrintLast Go.Proofs.YtahidkjncljkaaaW.PrintMore
end Go.Proofs.Ytahidkjncljkaaa.Print

namespace Go.Proofs.Ytahidkjncljkaaa.Print
open Go.RowKit Go.Proofs.YtahidkjncljkaaaW.PrintWords Go.Proofs.YtahidkjncljkaaaW.PrintLast
def idle (x:Item):Item:=⟨x.f0,x.f1,x.f2,⟨0,0,0⟩,⟨0,0,0⟩,x.f5⟩
structure St (t:List Item) (v m:Nat) (A:ByteArray→Option ByteArray):Prop where
 right:RightP t
 idle: ∀x∈t,x.f3=⟨0,0,0⟩∧x.f4=⟨0,0,0⟩
 ver: ∀x∈t,x.f5≤v
 len:t.length≤m
 par: ∀n,(look t n).map (·.f1)=A n
theorem St.some {t:List Item} {v m:Nat} {A:ByteArray→Option ByteArray} (S:St t v m A) {n p:ByteArray} (h:A n=some p): ∃x,look t n=some x∧x.f1=p:=by
  have:=S.par n
  rw [h] at this
  cases e:look t n with
  |none=>rw [e] at this;cases this
  | some x =>
    rw [e] at this
    exact ⟨x,rfl,Option.some.inj this⟩
theorem St.none {t:List Item} {v m:Nat} {A:ByteArray→Option ByteArray} (S:St t v m A) {n:ByteArray} (h:A n=none):look t n=none:=by
 have:=S.par n
 rw [h] at this
 cases e:look t n with
 |none=>rfl
 |some x=>rw [e] at this;cases this
theorem St.le {t:List Item} {v m v' m':Nat} {A:ByteArray→Option ByteArray} (S:St t v m A) (h:v≤v') (k:m≤m'):St t v' m' A:=⟨S.right,S.idle,fun x hx=>by have:=S.ver x hx;omega,by have:=S.len;omega,S.par⟩
theorem St.congr {t:List Item} {v m:Nat} {A B:ByteArray→Option ByteArray} (S:St t v m A) (h: ∀n,A n=B n):St t v m B:=⟨S.right,S.idle,S.ver,S.len,fun n=>(S.par n).trans (h n)⟩
theorem zero_le {v:Vec} (h:MayP v):LeP (⟨0,0,0⟩:Vec) v:=by
 obtain ⟨a,b,c⟩:=v
 rw [mayP_iff] at h
 rw [leP_iff]
 omega
structure TopOK (top:List Want):Prop where
 nodup:(top.map (·.f0)).Nodup
 par: ∀(pre post:List Want) (w:Want),top=pre++w::post→w.f1=⟨#[]⟩∨ ∃u∈pre,u.f0=w.f1
 may: ∀w∈top,(w.f0≠⟨#[]⟩∧w.f0.size≤24)∧MayP w.f2
def A0 (l:List Item) (n:ByteArray):Option ByteArray:=(look l n).map (·.f1)
section
variable {l:List Item} {top:List Want}
end
theorem befG_iff {l:List Item} {n a:ByteArray}:befG l n a=true↔depU l n<depU l a∨(depU l a=depU l n∧lt a n=true):=by unfold befG;simp
theorem befG_trans {l:List Item} {a b c:ByteArray} (h:befG l b a=true) (k:befG l c b=true):befG l c a=true:=by
  rw [befG_iff] at h k ⊢
  rcases h with h|⟨h,h'⟩<;>rcases k with k|⟨k,k'⟩
  · exact .inl (by omega)
  · exact .inl (by omega)
  · exact .inl (by omega)
  exact .inr ⟨by omega,lt_trans h' k'⟩
theorem befG_total {l:List Item} {a n:ByteArray} (h:befG l n a=false) (hn:a≠n):befG l a n=true:=by
  rw [←Bool.not_eq_true,befG_iff] at h
  rw [befG_iff]
  by_cases e:depU l a=depU l n
  rotate_left
  · exact .inl (by have: ¬depU l n<depU l a:=fun q=>h (.inl q);omega)
  refine .inr ⟨e.symm,lt_total ?_ hn⟩
  rw [←Bool.not_eq_true]
  exact fun q=>h (.inr ⟨e,q⟩)
theorem insG_perm (l:List Item) (n:ByteArray) (out:List ByteArray):(insG l n out).Perm (n::out):=by
 unfold insG
 have:=List.perm_middle (a:=n) (l₁:=out.takeWhile (befG l n)) (l₂:=out.dropWhile (befG l n))
 rwa [List.takeWhile_append_dropWhile] at this
def goneN (ws:List Want) (ms:List PMark):List ByteArray:=(ms.filter (fun m=> !isWant ws m.f0)).map (·.f0)
theorem goesGo_perm (ws:List Want) (l:List Item): ∀(ms:List PMark) (out:List ByteArray),(goesGo ws l out ms).Perm (out++goneN ws ms)
  |[],out=>by rw [goesGo];show List.Perm out (out++ []);rw [List.append_nil]
  | m :: ms, out => by
    rw [goesGo]
    by_cases c:isWant ws m.f0=true
    · rw [if_pos c]
      have:goneN ws (m::ms)=goneN ws ms:=by unfold goneN;rw [List.filter_cons_of_neg (by rw [c];simp)]
      rw [this]
      exact goesGo_perm ws l ms out
    rw [if_neg c]
    have:goneN ws (m::ms)=m.f0::goneN ws ms:=by unfold goneN;rw [List.filter_cons_of_pos (by rw [Bool.eq_false_iff.2 c];rfl)];rfl
    rw [this]
    refine (goesGo_perm ws l ms _).trans (((insG_perm l m.f0 out).append_right _).trans ?_)
    exact List.perm_middle.symm
end Go.Proofs.Ytahidkjncljkaaa.Print

namespace Go.Proofs.Ytahidkjncljkaaa.Print
open Go.RowKit Go.Proofs.YtahidkjncljkaaaW.PrintWords Go.Proofs.YtahidkjncljkaaaW.PrintLast Go.Proofs.YtahidkjncljkaaaW.PrintMore
theorem mx_zero {a:Int} (h:0≤a):mx 0 a=a:=by unfold mx;split<;>omega
theorem mx3 {a b:Int} (h:0≤b):mx (mx 0 a) b=mx a b:=by unfold mx;repeat' split<;>omega
theorem nowG_eq {l:List Item} (wide:Bool) {y:Want} (h:MayP y.f2):nowG wide (goalOf l y)=upV l wide y:=by
  have h0:=(mayP_iff.1 h).1.1
  have h1:=(mayP_iff.1 h).2.1.1
  have h2:=(mayP_iff.1 h).2.2.1
  unfold nowG upV
  cases wide with
  |true=>rfl
  | false =>
    rw [if_neg (by simp),if_neg (by simp)]
    unfold goalOf
    cases look l y.f0 with
    | none =>
      show (⟨mx (mx 0 0) y.f2.f0,mx (mx 0 0) y.f2.f1,mx (mx 0 0) y.f2.f2⟩:Vec)=y.f2
      rw [mx3 h0,mx3 h1,mx3 h2,mx_zero h0,mx_zero h1,mx_zero h2]
    | some x =>
      show (⟨mx (mx 0 x.f2.f0) y.f2.f0,mx (mx 0 x.f2.f1) y.f2.f1,mx (mx 0 x.f2.f2) y.f2.f2⟩:Vec)=_
      rw [mx3 h0,mx3 h1,mx3 h2]
theorem bq (a b:Int):(a==b)=(b==a):=by
 rw [Bool.eq_iff_iff,beq_iff_eq,beq_iff_eq]
 exact ⟨Eq.symm,Eq.symm⟩
theorem neG_neV (a b:Vec):neG a b=neV b a:=by
 unfold neG neV
 rw [show (a.f0==b.f0)=(b.f0==a.f0) from bq _ _,show (a.f1==b.f1)=(b.f1==a.f1) from bq _ _,show (a.f2==b.f2)=(b.f2==a.f2) from bq _ _]
theorem upG_f (l:List Item) (wide:Bool) (y:Want):(upG wide (goalOf l y)).f0=y∧(upG wide (goalOf l y)).f1=(goalOf l y).f1∧(upG wide (goalOf l y)).f2=(goalOf l y).f2∧(goalOf l y).f0=y:=by
 have:(goalOf l y).f0=y:=by unfold goalOf;split<;>rfl
 exact ⟨this,rfl,rfl,this⟩
theorem raise_eq {l:List Item} (wide:Bool) {y:Want} (h:MayP y.f2):raiseG wide (goalOf l y)=raiseS l wide y:=by
 have e:=nowG_eq (l:=l) wide h
 have q: ∀z:PGoal,raiseG wide z=if z.f2=false then [⟨1,z.f0.f0,z.f0.f1,nowG wide z⟩] else if neG (nowG wide z) z.f1.f2=true then [⟨2,z.f0.f0,⟨#[]⟩,nowG wide z⟩] else []:=fun z=>rfl
 rw [q,e,neG_neV,(upG_f l wide y).2.2.2]
 unfold raiseS goalOf
 cases look l y.f0 with
 |none=>exact if_pos rfl
 |some x=>exact if_neg (by simp)
theorem move_eq {l:List Item} (wide:Bool) (y:Want):moveG (upG wide (goalOf l y))=moveS l y:=by
  have q: ∀z:PGoal,moveG (upG wide z)=if z.f2=true∧z.f1.f1.toList≠z.f0.f1.toList then [⟨3,z.f0.f0,z.f0.f1,⟨0,0,0⟩⟩] else []:=fun z=>rfl
  rw [q,(upG_f l wide y).2.2.2]
  unfold moveS goalOf
  cases look l y.f0 with
  |none=>exact if_neg (by simp [gzero])
  | some x =>
    dsimp only
    by_cases c:x.f1=y.f1
    · rw [if_pos c,if_neg (by rw [c];simp)]
    rw [if_neg c,if_pos ⟨rfl,nm_ne.2 c⟩]
theorem lower_eq {l:List Item} (wide:Bool) {y:Want} (h:MayP y.f2):lowerG (upG wide (goalOf l y))=lowerS l wide y:=by
 have q: ∀z:PGoal,lowerG (upG wide z)=if neG (nowG wide z) z.f0.f2=true then [⟨2,z.f0.f0,⟨#[]⟩,z.f0.f2⟩] else []:=fun z=>rfl
 rw [q,nowG_eq wide h,neG_neV,(upG_f l wide y).2.2.2]
 unfold lowerS
 rw [show neV y.f2 (upV l wide y)=neV (upV l wide y) y.f2 from Bool.eq_iff_iff.2 (by rw [neV_iff,neV_iff];exact ⟨fun a b=>a b.symm,fun a b=>a b.symm⟩)]
theorem wide_eq (l:List Item) (ms:List PMark): ∀(ys:List Want) (b:Bool),wideP l ms b ys=wideGo l ms b ys
  |[],b=>rfl
  | y :: ys, b => by
    have q:(ms.any (fun m=>m.f0.toList==y.f0.toList))=(mlook ms y.f0).isSome:=by
      unfold mlook
      rw [List.isSome_find?]
      congr 1
      funext m
      exact nm_beq _ _
    unfold wideP wideGo badW wideOf
    rw [q,wide_eq l ms ys]
    cases look l y.f0 with
    |none=>rw [if_neg (by simp)];dsimp only;rw [Bool.or_false]
    | some x =>
      dsimp only
      cases mlook ms y.f0 with
      |none=>rw [if_pos (by simp),if_pos rfl]
      | some m =>
        rw [if_neg (by simp),if_neg (by simp)]
        rw [show (x.f1.toList !=y.f1.toList)= !decide (x.f1=y.f1) from by unfold bne;rw [nm_beq]]
theorem flat_congr {α β:Type} {f g:α→List β}: ∀{l:List α},(∀x∈l,f x=g x)→l.flatMap f=l.flatMap g
  |[],_=>rfl
  | x :: l, h => by
    rw [List.flatMap_cons,List.flatMap_cons,h x (by simp),flat_congr fun y hy=>h y (List.mem_cons_of_mem _ hy)]
theorem befG_asym {l:List Item} {a b:ByteArray} (h:befG l a b=true):befG l b a=false:=by
  rw [←Bool.not_eq_true]
  intro k
  rw [befG_iff] at h k
  rcases h with h|⟨h,h'⟩<;>rcases k with k|⟨k,k'⟩
  · omega
  · omega
  · omega
  exact absurd (lt_trans h' k') (by rw [lt_irrefl];simp)
theorem befG_neg {l:List Item} {a b c:ByteArray} (h:befG l a b=false) (k:befG l b c=false):befG l a c=false:=by
  rw [←Bool.not_eq_true]
  intro q
  by_cases e:b=a
  · subst e;rw [q] at k;cases k
  have h1:=befG_total h e
  have h2:=befG_trans q h1
  rw [h2] at k;cases k
theorem insG_weak {l:List Item} {n:ByteArray}: ∀{out:List ByteArray},out.Pairwise (fun a b=>befG l a b=false)→(insG l n out).Pairwise (fun a b=>befG l a b=false)
  |[],h=>by simp [insG]
  | x :: out, h => by
    rw [List.pairwise_cons] at h
    unfold insG
    rw [List.takeWhile_cons,List.dropWhile_cons]
    by_cases c:befG l n x=true
    · rw [c]
      show (x::insG l n out).Pairwise _
      rw [List.pairwise_cons]
      refine ⟨fun a ha=> ?_,insG_weak h.2⟩
      rcases List.mem_cons.1 ((insG_perm l n out).mem_iff.1 ha) with rfl|ha
      · exact befG_asym c
      exact h.1 a ha
    rw [Bool.eq_false_iff.2 c]
    show (n::x::out).Pairwise _
    rw [List.pairwise_cons,List.pairwise_cons]
    refine ⟨fun a ha=> ?_,h⟩
    rcases List.mem_cons.1 ha with rfl|ha
    · exact Bool.eq_false_iff.2 c
    exact befG_neg (Bool.eq_false_iff.2 c) (h.1 a ha)
theorem goesGo_weak (ws:List Want) (l:List Item): ∀(ms:List PMark) (out:List ByteArray),out.Pairwise (fun a b=>befG l a b=false)→(goesGo ws l out ms).Pairwise (fun a b=>befG l a b=false)
  |[],out,h=>by rw [goesGo];exact h
  | m :: ms, out, h => by
    rw [goesGo]
    by_cases c:isWant ws m.f0=true
    · rw [if_pos c];exact goesGo_weak ws l ms out h
    rw [if_neg c];exact goesGo_weak ws l ms _ (insG_weak h)
theorem drop_eq (l:List Item) (wide:Bool) (ws:List Want): ∀ms:List PMark,dropN (((topR ws).map (goalOf l)).map (upG wide)) ms=goneN ws ms
  |[]=>rfl
  | m :: ms => by
    have q:hasG (((topR ws).map (goalOf l)).map (upG wide)) m=isWant ws m.f0:=by
      unfold hasG isWant
      rw [List.any_map,List.any_map,Bool.eq_iff_iff,List.any_eq_true,List.any_eq_true]
      constructor
      · rintro ⟨y, hy, e⟩
        refine ⟨y,(topR_perm ws).mem_iff.1 hy, ?_⟩
        have e2:(y.f0.toList==m.f0.toList)=true:=by rw [←(upG_f l wide y).1];exact e
        rwa [nm_beq] at e2
      rintro ⟨y,hy,e⟩
      refine ⟨y,(topR_perm ws).mem_iff.2 hy, ?_⟩
      show ((upG wide (goalOf l y)).f0.f0.toList==m.f0.toList)=true
      rw [(upG_f l wide y).1,nm_beq]
      exact e
    show (if hasG _ m=true then dropN _ ms else m.f0::dropN _ ms)=_
    rw [q,drop_eq l wide ws ms]
    unfold goneN
    by_cases c:isWant ws m.f0=true
    · rw [if_pos c,List.filter_cons_of_neg (by rw [c];simp)]
    rw [if_neg c,List.filter_cons_of_pos (by rw [Bool.eq_false_iff.2 c];rfl)];rfl
theorem gone_eq {l:List Item} {wide:Bool} {ws:List Want} {ms:List PMark} {ns:List ByteArray} (h:GoneIs (((topR ws).map (goalOf l)).map (upG wide)) ms l ns):ns=goesR ws ms l:=by
  obtain ⟨h1,h2⟩:=h
  rw [drop_eq] at h1
  have k1:(goesR ws ms l).Perm (goneN ws ms):=(goesGo_perm ws l ms []).trans (by rw [List.nil_append])
  have k2:=goesGo_weak ws l ms [] List.Pairwise.nil
  refine List.Perm.eq_of_pairwise (le:=fun a b=>befG l a b=false) ?_ ?_ k2 (h1.trans k1.symm)
  · intro a b _ _ hab hba
    by_cases e:a=b
    · exact e
    have:=befG_total hba e
    rw [hab] at this;cases this
  refine h2.imp ?_
  intro a b hab
  rw [←Bool.not_eq_true]
  intro q
  refine hab (cmpW_neg.2 ?_)
  rw [befG_iff] at q
  unfold depN
  rcases q with q|⟨q,q'⟩
  · exact .inl (by omega)
  exact .inr ⟨by omega,q'⟩
theorem gone_is (l:List Item) (wide:Bool) (ws:List Want) (ms:List PMark):GoneIs (((topR ws).map (goalOf l)).map (upG wide)) ms l (goesR ws ms l):=by
  refine ⟨?_, ?_⟩
  · rw [drop_eq]
    exact (goesGo_perm ws l ms []).trans (by rw [List.nil_append])
  refine (goesGo_weak ws l ms [] List.Pairwise.nil).imp ?_
  intro a b hab q
  rw [←Bool.not_eq_true] at hab
  refine hab (befG_iff.2 ?_)
  have q:=cmpW_neg.1 q
  unfold depN at q
  rcases q with q|⟨q,q'⟩
  · exact .inl (by omega)
  exact .inr ⟨by omega,q'⟩
theorem mayW_may {y:Want} (h:mayW y=true):MayP y.f2:=by
 unfold mayW at h
 exact (of_decide_eq_true h).2
theorem plan_is {ws:List Want} {ms:List PMark} {l:List Item} (r:List PStep) (e:Int):PlanIs ws (topR ws) ms l r e↔(r,e)=planR ws ms l:=by
  unfold PlanIs planR
  by_cases hz:checkR ws=0
  rotate_left
  · rw [if_neg hz, if_neg hz]
    exact ⟨fun ⟨a,b⟩=>by rw [a,b],fun h=>by injection h with a b;exact ⟨a,b⟩⟩
  rw [if_pos hz,if_pos hz,wide_eq]
  have T:=checkR_tree (.inl hz)
  have hm: ∀y∈topR ws,MayP y.f2:=fun y hy=>mayW_may (T.may y ((topR_perm ws).mem_iff.1 hy))
  cases wideGo l ms false (topR ws) with
  |none=>exact ⟨fun ⟨a,b⟩=>by rw [a,b],fun h=>by injection h with a b;exact ⟨a,b⟩⟩
  | some wide =>
    dsimp only
    have e1:((topR ws).map (goalOf l)).flatMap (raiseG wide)=(topR ws).flatMap (raiseS l wide):=by
      rw [List.flatMap_map]
      exact flat_congr fun y hy=>raise_eq wide (hm y hy)
    have e2:(((topR ws).map (goalOf l)).map (upG wide)).flatMap moveG=(topR ws).flatMap (moveS l):=by
      rw [List.flatMap_map,List.flatMap_map]
      exact flat_congr fun y hy=>move_eq wide y
    have e3:(((topR ws).map (goalOf l)).map (upG wide)).reverse.flatMap lowerG=(topR ws).reverse.flatMap (lowerS l wide):=by
      rw [←List.map_reverse,←List.map_reverse,List.flatMap_map,List.flatMap_map]
      exact flat_congr fun y hy=>lower_eq wide (hm y (List.mem_reverse.1 hy))
    rw [e1,e2,e3]
    constructor
    · rintro ⟨rfl, ns, hg, rfl⟩
      rw [gone_eq hg]
    intro h
    injection h with a b
    exact ⟨b,_,gone_is l wide ws ms,a⟩
theorem plan_Steps_ev {ws:List Want} {ms:List PMark} {l:List Item} (hs:smallW ws) (hl:l.length<10000) (hm:ms.length<10000):plan_Steps.f ws ms l=some (planR ws ms l):=by
 have hx:(smallW ws∧l.length<10000∧ms.length<10000)∧ ∃p:List PStep×Int,PlanIs ws (topR ws) ms l p.1 p.2∧ ∀q:List PStep×Int,PlanIs ws (topR ws) ms l q.1 q.2→q=p:=
  ⟨⟨hs,hl,hm⟩,planR ws ms l,(plan_is _ _).2 rfl,fun q hq=>(plan_is q.1 q.2).1 hq⟩
 unfold plan_Steps.f
 rw [dif_pos hx]
 have:=hx.2.choose_spec.1
 rw [plan_is] at this
 exact congrArg some this
def creS (w:Want):PStep:=⟨1,w.f0,w.f1,w.f2⟩
theorem wide_nil (ms:List PMark): ∀ys:List Want,wideGo [] ms false ys=some false
 |[]=>rfl
 |y::ys=>wide_nil ms ys
theorem plan_fresh {ws:List Want} (h:checkR ws=0):planR ws [] []=((topR ws).map creS,0):=by
 unfold planR
 rw [if_pos h,wide_nil]
 dsimp only
 have e1:(topR ws).flatMap (raiseS [] false)=(topR ws).map creS:=by
  rw [List.map_eq_flatMap]
  rfl
 have e2:(topR ws).flatMap (moveS [])=[]:=by
  rw [List.flatMap_eq_nil_iff]
  intro y _
  rfl
 have e3:(topR ws).reverse.flatMap (lowerS [] false)=[]:=by
  rw [List.flatMap_eq_nil_iff]
  intro y _
  exact if_neg (by rw [show upV [] false y=y.f2 from rfl,neV_iff];simp)
 rw [e1,e2,e3]
 show (_++_++_++List.map delS [],0)=_
 rw [List.map_nil,List.append_nil,List.append_nil,List.append_nil]
def exS:List Want:=[⟨⟨#[97]⟩,⟨#[]⟩,⟨0,0,0⟩⟩]
theorem exS_small:smallW exS:=by
 intro w hw
 unfold exS at hw
 simp only [List.mem_cons,List.not_mem_nil,or_false] at hw
 subst hw
 exact ⟨by decide,by decide⟩
theorem awake18:law18_awake.f=some true:=by
 have h1:=(plan_Steps_ev (ws:=exS) (ms:=[]) (l:=[]) exS_small (by decide) (by decide)).trans (congrArg some (plan_fresh (ws:=exS) (by decide)))
 have h2:=(plan_Steps_ev (ws:=[]) (ms:=[]) (l:=[]) nil_small (by decide) (by decide)).trans (congrArg some (plan_fresh (ws:=[]) (by decide)))
 rw [show topR exS=exS from by kernel_rfl] at h1
 rw [show topR []=[] from rfl] at h2
 unfold law18_awake.f
 rw [show exS=[⟨⟨#[97]⟩,⟨#[]⟩,⟨0,0,0⟩⟩] from rfl] at h1
 rw [h1,h2]
 refine Eq.trans (b:=some true) ?_ rfl
 kernel_rfl
theorem awake18_ev:Ev (fun _=>(law18_awake.f).bind fun t=>some t) true:=by
 rw [awake18]
 exact Ev.const rfl
end Go.Proofs.Ytahidkjncljkaaa.Print

namespace Go.Proofs.Ytahidkjncljkaaa.Print
open Go.RowKit Go.Proofs.YtahidkjncljkaaaW.PrintWords Go.Proofs.YtahidkjncljkaaaW.PrintLast
def upM (p:Nat→Bool):Nat→Bool
 |0=>true
 |n+1=>p n && upM p n
theorem upM_all {p:Nat→Bool}: ∀{n i:Nat},upM p n=true→i<n→p i=true
  | n + 1, i, h, hi => by
    unfold upM at h
    rw [Bool.and_eq_true] at h
    by_cases e:i=n
    · rw [e];exact h.1
    exact upM_all h.2 (by omega)
def nmM (i:Nat):ByteArray:=⟨#[UInt8.ofNat (97+(i*7) % 24)]⟩
theorem nmM_strs:upM (fun i=>decide (strOfNums [(wrap64 (97+(Int.tmod (wrap64 ((i:Int)*7)) 24))) % 256]=nmM i)) 24=true:=by kernel_rfl
theorem nmM_str {i:Nat} (h:i<24):strOfNums [(wrap64 (97+(Int.tmod (wrap64 ((i:Int)*7)) 24))) % 256]=nmM i:=by
 have:=upM_all nmM_strs h
 rwa [decide_eq_true_iff] at this
theorem nmM_injs:upM (fun i=>upM (fun j=>decide (nmM i≠nmM j∨i=j)) 24) 24=true:=by kernel_rfl
theorem nmM_inj {i j:Nat} (hi:i<24) (hj:j<24) (h:nmM i=nmM j):i=j:=by
 have a:upM (fun j=>decide (nmM i≠nmM j∨i=j)) 24=true:=upM_all (p:=fun i=>upM (fun j=>decide (nmM i≠nmM j∨i=j)) 24) nmM_injs hi
 have:=upM_all a hj
 rw [decide_eq_true_iff] at this
 exact this.resolve_left (fun q=>q h)
theorem nmM_ne (i:Nat):nmM i≠⟨#[]⟩:=fun h=>by
 have:=congrArg ByteArray.size h
 cases this
theorem nmM_size (i:Nat):(nmM i).size=1:=rfl
theorem sumGo_snoc (n:ByteArray) (w:Want): ∀(l:List Want) (v:Vec),sumGo n (l++ [w]) v=if w.f1=n then vadd (sumGo n l v) w.f2 else sumGo n l v
  |[],v=>by simp only [List.nil_append,sumGo]
  | x :: l, v => by
    rw [List.cons_append]
    unfold sumGo
    exact sumGo_snoc n w l _
theorem sumGo_zero (n:ByteArray): ∀(l:List Want) (v:Vec),(∀x∈l,x.f1≠n)→sumGo n l v=v
  |[],v,_=>rfl
  | x :: l, v, h => by
    unfold sumGo
    rw [if_neg (h x (by simp))]
    exact sumGo_zero n l v (fun y hy=>h y (by simp [hy]))
structure MkI (c:Bool) (l:List Want) (left:List Int):Prop where
 len:left.length=l.length
 n24:l.length≤24
 nm: ∀(i:Nat) (w:Want),l[i]?=some w→w.f0=nmM i
 par: ∀(i:Nat) (w:Want),l[i]?=some w→w.f1=⟨#[]⟩∨ ∃p,p<i∧w.f1=nmM p
 may: ∀w∈l,MayP w.f2
 lo: ∀(i:Nat) (x:Int),left[i]?=some x→0≤x∧x≤8193
 sum:c=false→ ∀(i:Nat) (w:Want) (x:Int),l[i]?=some w→left[i]?=some x→ ∀o:Comp,o.of (sumW l w.f0)+x≤o.of w.f2
theorem mkI_nil (c:Bool):MkI c [] []:=⟨rfl,Nat.zero_le _,(fun i w h=>by simp at h),(fun i w h=>by simp at h),(fun w h=>by simp at h),(fun i x h=>by simp at h),(fun _ i w x h=>by simp at h)⟩
theorem snoc_get {α:Type} {l:List α} {a w:α} {i:Nat} (h:(l++ [a])[i]?=some w):(l[i]?=some w∧i<l.length)∨(i=l.length∧w=a):=by
  by_cases c:i<l.length
  · rw [List.getElem?_append_left c] at h
    exact .inl ⟨h,c⟩
  rw [List.getElem?_append_right (by omega)] at h
  have hi:i - l.length=0:=by
    have:=(List.getElem?_eq_some_iff.1 h).1
    simp only [List.length_singleton] at this
    omega
  rw [hi] at h
  simp only [List.getElem?_cons_zero,Option.some.injEq] at h
  exact .inr ⟨by omega,h.symm⟩
theorem mk_add {c:Bool} {l:List Want} {left left1:List Int} (I:MkI c l left) (h:l.length<24) {lim b:Int} (hl:0≤lim∧lim≤8193) (hb:b=0∨b=1) {par:ByteArray} (hlen:left1.length=left.length) (hp:par=⟨#[]⟩∨ ∃p,p<l.length∧par=nmM p)
    (hlo: ∀(i:Nat) (x:Int),left1[i]?=some x→0≤x∧x≤8193) (hs:c=false→ ∀(i:Nat) (x1:Int),left1[i]?=some x1→ ∃x,left[i]?=some x∧x1≤x∧(par=nmM i→x1+lim≤x)):MkI c (l++ [⟨nmM l.length,par,⟨lim,lim,lim - lim / 3*b⟩⟩]) (left1++ [lim - lim / 3]) where
  len:=by rw [List.length_append,List.length_append,hlen,I.len];rfl
  n24:=by rw [List.length_append,List.length_singleton];omega
  nm:=fun i w q=>by
    rcases snoc_get q with ⟨q,_⟩|⟨rfl,rfl⟩
    · exact I.nm i w q
    rfl
  par:=fun i w q=>by
    rcases snoc_get q with ⟨q,_⟩|⟨rfl,rfl⟩
    · exact I.par i w q
    exact hp
  may:=fun w q=>by
    rcases List.mem_append.1 q with q|q
    · exact I.may w q
    rw [List.mem_singleton] at q
    subst q
    rw [mayP_iff]
    rcases hb with rfl|rfl<;>omega
  lo:=fun i x q=>by
    rcases snoc_get q with ⟨q,_⟩|⟨rfl,rfl⟩
    · exact hlo i x q
    omega
  sum:=fun hc i w x q1 q2 o=>by
    have e:sumW (l++ [⟨nmM l.length,par,⟨lim,lim,lim - lim / 3*b⟩⟩]) w.f0=if par=w.f0 then vadd (sumW l w.f0) ⟨lim,lim,lim - lim / 3*b⟩ else sumW l w.f0:=sumGo_snoc _ _ _ _
    have hv:o.of (⟨lim,lim,lim - lim / 3*b⟩:Vec)≤lim∧lim - lim / 3≤o.of (⟨lim,lim,lim - lim / 3*b⟩:Vec):=by
      cases o<;>simp only [Comp.of]<;>rcases hb with rfl|rfl<;>omega
    rcases snoc_get q1 with ⟨q1,hi⟩|⟨rfl,rfl⟩
    · rcases snoc_get q2 with ⟨q2, _⟩ | ⟨rfl, _⟩
      rotate_left
      · rw [hlen,I.len] at hi;omega
      obtain ⟨x0,g1,g2,g3⟩:=hs hc i x q2
      have g:=I.sum hc i w x0 q1 g1 o
      rw [e]
      by_cases d:par=w.f0
      rotate_left
      · rw [if_neg d];omega
      have:=g3 (by rw [d];exact I.nm i w q1)
      rw [if_pos d,of_vadd]
      omega
    rcases snoc_get q2 with ⟨q2,hi⟩|⟨_,rfl⟩
    · rw [hlen,I.len] at hi;omega
    have z:sumW l (nmM l.length)=⟨0,0,0⟩:=sumGo_zero _ _ _ (fun y hy=>by
      obtain ⟨i,hi,rfl⟩:=List.getElem_of_mem hy
      rcases I.par i l[i] (List.getElem?_eq_getElem hi) with q|⟨p,hp,q⟩
      · rw [q];exact fun k=>nmM_ne _ k.symm
      rw [q];exact fun k=>by have:=nmM_inj (by omega) (by omega) k;omega)
    have e2: ¬par=nmM l.length:=fun k=>by
      rcases hp with q|⟨p,hp,q⟩
      · rw [q] at k;exact nmM_ne _ k.symm
      rw [q] at k;have:=nmM_inj (by omega) (by omega) k;omega
    rw [e]
    show o.of (if par=nmM l.length then _ else sumW l (nmM l.length))+_≤_
    rw [if_neg e2,z]
    have:o.of (⟨0,0,0⟩:Vec)=0:=by cases o<;>rfl
    show _≤o.of (⟨lim,lim,lim - lim / 3*b⟩:Vec)
    omega
theorem mk_root {c:Bool} {l:List Want} {left:List Int} (I:MkI c l left) (h:l.length<24) {lim b:Int} (hl:0≤lim∧lim≤8193) (hb:b=0∨b=1):MkI c (l++ [⟨nmM l.length,⟨#[]⟩,⟨lim,lim,lim - lim / 3*b⟩⟩]) (left++ [lim - lim / 3]):=
 mk_add I h hl hb rfl (.inl rfl) I.lo (fun _ i x q=>⟨x,q,Int.le_refl _,fun k=>absurd k.symm (nmM_ne i)⟩)
theorem mk_kid {c:Bool} {l:List Want} {left:List Int} (I:MkI c l left) (h:l.length<24) {lim b:Int} (hl:0≤lim∧lim≤8193) (hb:b=0∨b=1) {p:Nat} (hp:p<l.length) {x q:Int} (hx:left[p]?=some x) (hq:0≤q∧q≤x) (hc:c=false→lim=q):
    MkI c (l++ [⟨nmM l.length,nmM p,⟨lim,lim,lim - lim / 3*b⟩⟩]) (left.set p (x - q)++ [lim - lim / 3]):=by
  have hpl:p<left.length:=by rw [I.len];exact hp
  have g:=I.lo p x hx
  refine mk_add I h hl hb (List.length_set ..) (.inr ⟨p,hp,rfl⟩) (fun i y hy=> ?_) (fun hc' i y hy=> ?_)
  · rw [List.getElem?_set] at hy
    by_cases e:p=i
    · rw [if_pos e, if_pos hpl] at hy
      obtain rfl:=Option.some.inj hy
      omega
    rw [if_neg e] at hy
    exact I.lo i y hy
  rw [List.getElem?_set] at hy
  by_cases e:p=i
  · rw [if_pos e, if_pos hpl] at hy
    obtain rfl:=Option.some.inj hy
    subst e
    have:=hc hc'
    exact ⟨x,hx,by omega,fun _=>by omega⟩
  rw [if_neg e] at hy
  refine ⟨y,hy,Int.le_refl _,fun k=> ?_⟩
  have hi:=(List.getElem?_eq_some_iff.1 hy).1
  exact absurd (nmM_inj (by omega) (by rw [I.len] at hi;omega) k) e
theorem mk_look {c:Bool} {l:List Want} {left:List Int} (I:MkI c l left) {i:Nat} {w:Want} (h:l[i]?=some w):lookW l (nmM i)=some w:=by
  obtain ⟨hi,rfl⟩:=List.getElem?_eq_some_iff.1 h
  have hn:=I.nm i _ h
  cases e:lookW l (nmM i) with
  |none=>exact absurd hn (lookW_none.1 e _ (List.getElem_mem hi))
  | some x =>
    obtain ⟨hm,hf⟩:=lookW_mem e
    obtain ⟨j,hj,rfl⟩:=List.getElem_of_mem hm
    have:=I.nm j _ (List.getElem?_eq_getElem hj)
    rw [this] at hf
    have:=nmM_inj (by have:=I.n24;omega) (by have:=I.n24;omega) hf
    subst this
    rfl
theorem mk_parW {c:Bool} {l:List Want} {left:List Int} (I:MkI c l left):ParW l:=by
  refine ⟨fun w hw=> ?_,fun w hw e=> ?_⟩
  · obtain ⟨i, hi, rfl⟩ := List.getElem_of_mem hw
    rw [I.nm i _ (List.getElem?_eq_getElem hi)]
    exact nmM_ne i
  obtain ⟨i,hi,rfl⟩:=List.getElem_of_mem hw
  rcases I.par i _ (List.getElem?_eq_getElem hi) with q|⟨p,hp,q⟩
  · exact absurd q e
  rw [q]
  exact ⟨_,mk_look I (List.getElem?_eq_getElem (show p<l.length by omega))⟩
theorem mk_chain {c:Bool} {l:List Want} {left:List Int} (I:MkI c l left): ∀(n i:Nat) (hi:i<l.length),i<n→ ∃us,ChainW l (nmM i) (nmM i::us)
  | n + 1, i, hi, hn => by
    have hl:=mk_look I (List.getElem?_eq_getElem hi)
    rcases I.par i _ (List.getElem?_eq_getElem hi) with q|⟨p,hp,q⟩
    · exact ⟨[],chainW_cons hl (by rw [q];exact chainW_nil (mk_parW I).root)⟩
    obtain ⟨us,k⟩:=mk_chain I n p (by omega) (by omega)
    exact ⟨_,chainW_cons hl (by rw [q];exact k)⟩
theorem mk_nodup {c:Bool} {l:List Want} {left:List Int} (I:MkI c l left):(l.map (·.f0)).Nodup:=by
 rw [List.nodup_iff_pairwise_ne,List.pairwise_iff_getElem]
 intro i j hi hj hij
 rw [List.length_map] at hi hj
 rw [List.getElem_map,List.getElem_map,I.nm i _ (List.getElem?_eq_getElem hi),I.nm j _ (List.getElem?_eq_getElem hj)]
 have:=I.n24
 exact fun k=>by have:=nmM_inj (by omega) (by omega) k;omega
theorem mk_tree {c:Bool} {l:List Want} {left:List Int} (I:MkI c l left):TreeW l where
 len:=by have:=I.n24;omega
 may:=fun w hw=>mayW_iff.2 ⟨by
  obtain ⟨i,hi,rfl⟩:=List.getElem_of_mem hw
  rw [I.nm i _ (List.getElem?_eq_getElem hi)]
  exact ⟨nmM_ne i,by rw [nmM_size];omega⟩,I.may w hw⟩
 nodup:=mk_nodup I
 par:=mk_parW I
 dep:=fun w hw=>by
  obtain ⟨i,hi,rfl⟩:=List.getElem_of_mem hw
  obtain ⟨us,k⟩:=mk_chain I (i+1) i hi (by omega)
  rw [I.nm i _ (List.getElem?_eq_getElem hi),depR_chain (mk_parW I) k,List.length_cons]
  omega
theorem mk_small {c:Bool} {l:List Want} {left:List Int} (I:MkI c l left):smallW l:=fun w hw=>by
  obtain ⟨i,hi,rfl⟩:=List.getElem_of_mem hw
  refine ⟨?_, ?_⟩
  · rw [I.nm i _ (List.getElem?_eq_getElem hi),nmM_size];omega
  rcases I.par i _ (List.getElem?_eq_getElem hi) with q|⟨p,hp,q⟩
  · rw [q];decide
  rw [q,nmM_size];omega
theorem mk_check {l:List Want} {left:List Int} (I:MkI false l left):checkR l=0:=by
 rw [checkR_of (mk_tree I),if_neg]
 rw [any_false]
 intro w hw
 obtain ⟨i,hi,rfl⟩:=List.getElem_of_mem hw
 have h2:i<left.length:=by rw [I.len];exact hi
 have lo:=I.lo i _ (List.getElem?_eq_getElem h2)
 have:LeP (sumW l l[i].f0) l[i].f2:=fun o=>by
  have:=I.sum rfl i _ _ (List.getElem?_eq_getElem hi) (List.getElem?_eq_getElem h2) o
  omega
 rw [decide_eq_true this]
 rfl
theorem lims_eq {lim x:Int} (hl:0≤lim∧lim≤8193) (hx:0≤x∧x≤255): ∃b:Int,(b=0∨b=1)∧wrap64 (lim - (wrap64 ((wrap64 (Int.tdiv lim 3))*(wrap64 (Int.tmod x 2)))))=lim - lim / 3*b∧wrap64 (lim - (wrap64 (Int.tdiv lim 3)))=lim - lim / 3:=by
  have e1:Int.tdiv lim 3=lim / 3:=Int.tdiv_eq_ediv_of_nonneg hl.1
  have e2:Int.tmod x 2=x % 2:=Int.tmod_eq_emod_of_nonneg hx.1
  rw [e1,e2,w64 (n:=lim / 3) (by omega) (by omega),w64 (n:=x % 2) (by omega) (by omega),w64 (n:=lim - lim / 3) (by omega) (by omega)]
  refine ⟨x % 2,by omega, ?_,rfl⟩
  rcases (show x % 2=0∨x % 2=1 by omega) with q|q
  · rw [q,Int.mul_zero,w64 (n:=0) (by omega) (by omega),w64 (by omega) (by omega)]
  rw [q,Int.mul_one,w64 (n:=lim / 3) (by omega) (by omega),w64 (by omega) (by omega)]
theorem rd_nat (l:List Int) {i:Nat} (h:i<l.length):rd l (i:Int)=l[i]:=by
 unfold rd
 rw [Int.toNat_natCast,List.getD_eq_getElem?_getD,List.getElem?_eq_getElem h,Option.getD_some]
end Go.Proofs.Ytahidkjncljkaaa.Print
