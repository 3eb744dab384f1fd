/- PlanWide: a part -/
import Derived.Test.YtahidkjncljkaaaBPlanWide0
import Derived.Test.YtahidkjncljkaaaBPlanWide1
import Derived.Test.YtahidkjncljkaaaBPlanWide4
set_option linter.unusedVariables false
set_option linter.unusedSimpArgs false
namespace Go.Proofs.Ytahidkjncljkaaa.Print
open Go.RowKit Go.Shelf Go.Sort Go.Proofs.YtahidkjncljkaaaW.PrintWords Go.Proofs.YtahidkjncljkaaaW.PrintLast Go.Proofs.YtahidkjncljkaaaW.PrintMore
def gzero (y:Want):PGoal:=⟨y,zItem,false,⟨0,0,0⟩⟩
def goalOf (l:List Item) (y:Want):PGoal:=match look l y.f0 with
 |some x=>⟨y,x,true,⟨0,0,0⟩⟩
 |none=>gzero y
def itemRow (x:Item):List Value:=[.string x.f0, .string x.f1, .int .i64 x.f2.f0, .int .i64 x.f2.f1, .int .i64 x.f2.f2, .int .i64 x.f3.f0, .int .i64 x.f3.f1, .int .i64 x.f3.f2, .int .i64 x.f4.f0, .int .i64 x.f4.f1, .int .i64 x.f4.f2, .int .i64 x.f5]
theorem itemRow_info:(Try.prog.info? 79).map (·.size)=some 12:=by kernel_rfl
theorem itemRow_one (x:Item): ∀q∈itemRow x,q.oneCell'=true:=by
 intro q hq
 unfold itemRow at hq
 simp only [List.mem_cons,List.not_mem_nil,or_false] at hq
 rcases hq with rfl|rfl|rfl|rfl|rfl|rfl|rfl|rfl|rfl|rfl|rfl|rfl<;>rfl
section
variable {P:Program} {ops:Array Oper} {rest:List Oper} {o:Oper} {a:Act} {Q:Exit→Act→World→Prop} {W:World}
theorem load_run {t:Nat} {ad:Addr} (cs:List Value) (d:TypeDesc) (hu:P.underlying t=some d) (hd:(match d with| .struct _| .array _ _=>true|_=>false)=true) (hi:(P.info? t).map (·.size)=some cs.length) (hc: ∀j v,cs[j]?=some v→W.cell? (ad.add j)=some v):(loadVar t ad).run P W= .ok (.agg cs.toArray) W:=by
  have hl:(loadCells ad cs.length).run P W= .ok cs.toArray W:=run_loadCells_list (P:=P) W ad cs hc
  cases hq:P.info? t with
  |none=>simp [hq] at hi
  | some i =>
    have hs:i.size=cs.length:=by simpa [hq] using hi
    have hagg:(isAgg t).run P W= .ok true W:=by
      unfold isAgg
      rw [Sem.run_bind,run_underlying hu W]
      cases d<;>simp_all
    simp [loadVar,Sem.run_bind,hagg,sizeOf,typeInfo,hq,hs,hl]
theorem load_ad {t:Nat} {ad:Addr} (cs:List Value) (hgd:o.guard=none) (x:Operand) (ho:o.op= .load t x) (hx:a.eval x= .pointer (some ad)) (d:TypeDesc) (hu:P.underlying t=some d) (hd:(match d with| .struct _| .array _ _=>true|_=>false)=true) (hi:(P.info? t).map (·.size)=some cs.length)
  (hc: ∀j v,cs[j]?=some v→W.cell? (ad.add j)=some v) (h:wpList P ops Q rest (a.put o.dst (.agg cs.toArray)) W):wpList P ops Q (o::rest) a W:=by
 have hrun:=load_run (P:=P) (W:=W) cs d hu hd hi hc
 refine wpList_plain hgd fun K hK=> ?_
 unfold Oper.wp execOp
 simp only [ho,hx,Instr.loadAt,Instr.sureAddr,Sem.run_bind,Sem.run_pure,Result.andThen_ok,hrun]
 exact hK _ _ h
theorem load_exec {t g off:Nat} (cs:List Value) (x:Operand) (ho:o.op= .load t x) (hx:a.eval x= .pointer (some ⟨g,off,none⟩)) (d:TypeDesc) (hu:P.underlying t=some d) (hd:(match d with| .struct _| .array _ _=>true|_=>false)=true) (hi:(P.info? t).map (·.size)=some cs.length)
  (hc: ∀j v,cs[j]?=some v→W.cell? ⟨g,off+j,none⟩=some v):(execOp a.eval o).run P W= .ok (.value (.agg cs.toArray)) W:=by
 have hrun:=load_run (P:=P) (W:=W) (ad:=⟨g,off,none⟩) cs d hu hd hi (fun j v hv=>by rw [Addr.add_lit];exact hc j v hv)
 unfold execOp
 simp only [ho,hx,Instr.loadAt,Instr.sureAddr,Sem.run_bind,Sem.run_pure,Result.andThen_ok,hrun]
end
theorem R_elder {α:Type} {d:Kd α} {e base g:Nat} {w w1:World} {v:Value} {xs:List α} (h:d.R e w base (fun _=>True) v xs) (hg:w.grownBy w1 (some g)) (hne:some g≠v.ownBlock) (hE:d.E=[]:=by rfl):d.R e w1 base (fun _=>True) v xs:=
 Kd.R_mono (Kd.R_grown (Kd.R_tight hE h) hg (fun k hk e=>hne (e.symm.trans hk))) (fun _ _=>trivial)
def badW (l:List Item) (ms:List PMark) (y:Want):Bool:=(look l y.f0).isSome && !(ms.any (fun m=>m.f0.toList==y.f0.toList))
def wideOf (l:List Item) (y:Want):Bool:=match look l y.f0 with
 |some x=>x.f1.toList !=y.f1.toList
 |none=>false
def wideP (l:List Item) (ms:List PMark):Bool→List Want→Option Bool
 |b,[]=>some b
 |b,y::ys=>if badW l ms y=true then none else wideP l ms (b||wideOf l y) ys
def PlanIs (ws top:List Want) (ms:List PMark) (l:List Item) (r:List S76) (e:Int):Prop:=
 if checkR ws=0 then (match wideP l ms false top with
  |none=>r=[]∧e=3
  |some wide=>e=0∧ ∃ns,GoneIs ((top.map (goalOf l)).map (upG wide)) ms l ns∧r=(((top.map (goalOf l)).flatMap (raiseG wide)++((top.map (goalOf l)).map (upG wide)).flatMap moveG)++((top.map (goalOf l)).map (upG wide)).reverse.flatMap lowerG)++ns.map delS)
 else r=[]∧e=checkR ws
theorem infoGoal:(Try.prog.info? 141).map (fun i=>(i.zero,i.size,i.bytes))=some (some (.agg #[.string ⟨#[]⟩, .string ⟨#[]⟩, .int .i64 0, .int .i64 0, .int .i64 0, .string ⟨#[]⟩, .string ⟨#[]⟩, .int .i64 0, .int .i64 0, .int .i64 0, .int .i64 0, .int .i64 0, .int .i64 0, .int .i64 0, .int .i64 0, .int .i64 0, .int .i64 0, .bool false, .int .i64 0, .int .i64 0, .int .i64 0]),21,200):=by kernel_rfl
theorem at_item {l:List Item} {w:World} {A:Option Addr} (h:Kd.C k79 w A l.length l) {i:Int} {x:Item} (h0:0≤i) (h1:i<(l.length:Int)) (hx:rd_T79 l i=x): ∃ad,A=some ad∧ ∀j v,(itemRow x)[j]?=some v→w.cell? ((ad.add (i.toNat*12)).add j)=some v:=by
 obtain ⟨ad,c,e,_,hK,hc0⟩:=Kd.C_get h z79 i h0 h1
 have hc: ∀j u,c[j]?=some u→w.cell? (ad.add (i.toNat*12+j))=some u:=hc0
 obtain rfl:=k79_open hK
 subst hx
 refine ⟨ad,e,fun j v hv=> ?_⟩
 rw [add_add]
 exact hc j v hv
set_option maxHeartbeats 8000000 in
set_option maxRecDepth 100000 in
theorem planSteps_raw (Aw:Option Addr) (cw:Nat) (ws:List Want) (Am:Option Addr) (cm:Nat) (ms:List PMark) (Al:Option Addr) (cl:Nat) (l:List Item) (w:World) (hW:Kd.C k39 w Aw ws.length ws) (hcw:ws.length≤cw) (hM:Kd.C k84 w Am ms.length ms) (hcm:ms.length≤cm) (hC:Kd.C k79 w Al l.length l) (hcl:l.length≤cl)
    (hs:smallW ws) (hll:l.length<10000) (hml:ms.length<10000):
    Calls Try.prog 48 #[.slice Aw ws.length cw, .slice Am ms.length cm, .slice Al l.length cl] w fun e w'=> ∃(v:Value) (r:List S76) (q:Int),e= .returned (.tuple #[v, .int .i64 q])∧PlanIs ws (topR ws) ms l r q∧Kd.R k76 76 w' w.heap.size (fun _=>True) v r∧Below w.heap.size w w':=by
  have hu139:=Try.underlying139
  have hu141:=Try.underlying141
  have hu39:=Try.underlying39
  have hu79:=Try.underlying79
  have hu84:=Try.underlying84
  have HW:=Aside0.mk hW
  have HM:=Aside0.mk hM
  have HCM:=Aside0.mk hcm
  have HC:=Aside0.mk hC
  have HCL:=Aside0.mk hcl
  have HLL:=Aside0.mk hll
  have HML:=Aside0.mk hml
  have HS:=Aside0.mk hs
  have HCW:=Aside0.mk hcw
  have HB:=am_ (Below.refl w.heap.size w)
  clear hW hM hcm hC hcl hll hml hs hcw
  obtain ⟨kc,hkc⟩:=want_Check_ev HS.out
  have HCK:=am_ (hkc kc (Nat.le_refl _))
  clear hkc
  by_cases hz:checkR ws=0
  rotate_left
  · have HZ := Aside0.mk hz
    have hb_:(checkR ws !=0)=true:=by simpa using hz
    generalize hck:checkR ws=ck at*
    have HCE:=Aside0.mk hck
    clear hck
    go_enter Try.func48,Try.ntmps48
    go_wp2_with (first
      |(go_at_call 26;refine (want_Check.calls kc Aw cw ws ck _ (Kd.C_below HW.out HB.out) HCW.out HCK.out).mono ?_;rintro e w1 ⟨rfl,hb⟩;have n0_:=am_ (below_step HB.out hb);clear HB hb;have HB:=n0_;clear n0_))
    go_ret2
    refine ⟨_,[],ck,rfl, ?_,Kd.R_nil _ _ _ _ _,HB.out⟩
    unfold PlanIs
    rw [HCE.out,if_neg HZ.out]
    exact ⟨rfl,rfl⟩
  have HZ:=Aside0.mk hz
  have HTR:=am_ (checkR_tree (.inl hz))
  have HTL:=am_ (show (topR ws).length≤120 by rw [(topR_perm ws).length_eq];exact HTR.out.len)
  have HTE:=am_ (want_Top_tree HTR.out HS.out)
  generalize hck:checkR ws=ck at*
  have HCE:=Aside0.mk hck
  clear hck
  subst hz
  go_enter Try.func48,Try.ntmps48
  go_wp2_with (first
    |(go_at_call 26;refine (want_Check.calls kc Aw cw ws 0 _ (Kd.C_below HW.out HB.out) HCW.out HCK.out).mono ?_;rintro e w1 ⟨rfl,hb⟩;have n0_:=am_ (below_step HB.out hb);clear HB hb;have HB:=n0_;clear n0_)
    |((with_reducible refine gate_dst (N:=20) rfl ?_);refine bx_ (N:=20) (cs:=#[.slice none 0 0, .bool false, .slice none 0 0]) (t:=139) ?_;intro b hg w2 hbox hb;have GE:=am_ (show w.heap.size≤b from by rw [hg];exact below_size HB.out);have n0_:=am_ (below_step HB.out hb);have BK:=Aside0.mk hbox;clear HB hb hbox hg;have HB:=n0_;clear n0_)
    |(go_at_call 30;refine (want_Top.calls Aw cw ws (topR ws) _ (Kd.C_below HW.out HB.out) HCW.out HTE.out).mono ?_;rintro e w3 ⟨vt,rfl,ht,hb⟩;have n0_:=am_ (Kd.R_lower ht (below_size HB.out));have n1_:=am_ (blk_below BK.out hb);have n2_:=am_ (below_step HB.out hb);clear HB BK ht hb;have HT:=n0_;have BK:=n1_;have HB:=n2_;clear n0_ n1_ n2_;obtain ⟨At,ct,et⟩:=Kd.R_slice HT.out;subst et))
  clear HTE HTR HCK
  generalize hTE:topR ws=top at HTL HT
  have HTP2:=Aside0.mk hTE
  clear hTE
  go_loopg [24] top.length (fun kq v24 w'=> ∃(pre post:List Want) (u:Value) (wd:Bool),top=pre++post∧kq=post.length∧v24= .int .i64 (pre.length:Int)∧Aside0 (wideP l ms false top=wideP l ms wd post)∧Aside0 (w'.heap[b]?=some (Obj.cells #[u, .bool wd, .slice none 0 0] 139 (0,0)))∧Aside0 (Kd.R k141 141 w' w.heap.size (fun _=>True) u (pre.map (goalOf l)))∧Aside0 (Kd.R k39 39 w' w.heap.size (fun _=>True) (.slice At top.length ct) top)∧Aside0 (Below w.heap.size w w'))
  case atStart=>exact ⟨[],top, .slice none 0 0,false,rfl,rfl,rfl,⟨rfl⟩,BK,⟨Kd.R_nil _ _ _ _ _⟩,HT,HB⟩
  case round=>
    clear BK HT HB
    obtain ⟨pre,post,u,wd,htop,hkq,rfl,HWD,BK,HG,HT,HB⟩:=hrel
    obtain ⟨Au,cu,eu⟩:=Kd.R_slice HG.out
    subst eu
    cases post with
    | nil =>
      have c1:decide ((pre.length:Int)<(top.length:Int))=false:=decide_eq_false (by rw [htop,List.append_nil];omega)
      rw [List.append_nil] at htop
      subst htop
      go_wp2_with (first|(go_at_call 94;refine (planRaise_calls w _ b _ _ wd (top.map (goalOf l)) [] BK.out GE.out HB.out HG.out (Kd.R_nil _ _ _ _ _) (by simp only [List.length_append,List.length_map,List.length_nil,List.length_reverse];have:=HTL.out;have:=HML.out;have h1_:=raiseG_len wd (top.map (goalOf l));have h2_:=moveG_len ((top.map (goalOf l)).map (upG wd));have h3_:=lowerG_len ((top.map (goalOf l)).map (upG wd)).reverse;simp only [List.length_map,List.length_reverse] at h1_ h2_ h3_;omega)).mono ?_;rintro e w31 ⟨rfl,vo1,hbk,hg1,ho1,hb⟩;clear BK HG HB;have BK:=Aside0.mk hbk;have HG:=Aside0.mk hg1;have HO:=Aside0.mk ho1;have HB:=Aside0.mk hb;clear hbk hg1 ho1 hb)|(go_at_call 95;refine (planMove_calls w _ b _ _ wd ((top.map (goalOf l)).map (upG wd)) _ BK.out GE.out HB.out HG.out HO.out (by simp only [List.length_append,List.length_map,List.length_nil,List.length_reverse];have:=HTL.out;have:=HML.out;have h1_:=raiseG_len wd (top.map (goalOf l));have h2_:=moveG_len ((top.map (goalOf l)).map (upG wd));have h3_:=lowerG_len ((top.map (goalOf l)).map (upG wd)).reverse;simp only [List.length_map,List.length_reverse] at h1_ h2_ h3_;omega)).mono ?_;rintro e w32 ⟨rfl,vo1,hbk,hg1,ho1,hb⟩;clear BK HG HB HO;have BK:=Aside0.mk hbk;have HG:=Aside0.mk hg1;have HO:=Aside0.mk ho1;have HB:=Aside0.mk hb;clear hbk hg1 ho1 hb)|(go_at_call 96;refine (planLower_calls w _ b _ _ wd ((top.map (goalOf l)).map (upG wd)) _ BK.out GE.out HB.out HG.out HO.out (by simp only [List.length_append,List.length_map,List.length_nil,List.length_reverse];have:=HTL.out;have:=HML.out;have h1_:=raiseG_len wd (top.map (goalOf l));have h2_:=moveG_len ((top.map (goalOf l)).map (upG wd));have h3_:=lowerG_len ((top.map (goalOf l)).map (upG wd)).reverse;simp only [List.length_map,List.length_reverse] at h1_ h2_ h3_;omega)).mono ?_;rintro e w33 ⟨rfl,vo1,hbk,hg1,ho1,hb⟩;clear BK HG HB HO;have BK:=Aside0.mk hbk;have HG:=Aside0.mk hg1;have HO:=Aside0.mk ho1;have HB:=Aside0.mk hb;clear hbk hg1 ho1 hb)|(go_at_call 97;refine (planDrop_calls w _ b _ _ wd ((top.map (goalOf l)).map (upG wd)) _ Am cm ms Al cl l HM.out HCM.out HC.out HCL.out (by have:=HLL.out;omega) BK.out GE.out HB.out HG.out HO.out (by simp only [List.length_append,List.length_map,List.length_nil,List.length_reverse];have:=HTL.out;have:=HML.out;have h1_:=raiseG_len wd (top.map (goalOf l));have h2_:=moveG_len ((top.map (goalOf l)).map (upG wd));have h3_:=lowerG_len ((top.map (goalOf l)).map (upG wd)).reverse;simp only [List.length_map,List.length_reverse] at h1_ h2_ h3_;omega)).mono ?_;rintro e w34 ⟨rfl,ns,vo1,hgo,hbk,ho1,hb⟩;clear BK HG HB HO;have BK:=Aside0.mk hbk;have HO:=Aside0.mk ho1;have HB:=Aside0.mk hb;have GO:=Aside0.mk hgo;clear hbk ho1 hb hgo;have cb2:=(blk_cell BK.out 2).trans rfl))
      go_ret2
      refine ⟨_,_,0,rfl, ?_,HO.out,HB.out⟩
      have HW2:=HWD.out
      unfold PlanIs
      rw [if_pos HCE.out,HTP2.out,HW2]
      exact ⟨rfl,ns,GO.out,by rw [List.nil_append]⟩
    | cons y post =>
      have hn:top.length=pre.length+(post.length+1):=by rw [htop,List.length_append,List.length_cons]
      have c1:decide ((pre.length:Int)<(top.length:Int))=true:=decide_eq_true (by omega)
      have p6:(0:Int)≤((pre.length:Nat):Int):=by omega
      have q6:((pre.length:Nat):Int)<(top.length:Int):=by omega
      obtain ⟨ad0,e6,k0,k1_,k2,k3,k4⟩:=at_T39 (Kd.R_reads' HT.out).2.2 ((pre.length:Nat):Int) p6 q6
      subst e6
      have em:rd_T39 top ((pre.length:Nat):Int)=y:=by
        rw [rd_want,Int.toNat_natCast,htop,List.getD_eq_getElem?_getD,List.getElem?_append_right (Nat.le_refl _),Nat.sub_self]
        rfl
      rw [em] at k0 k1_ k2 k3 k4
      simp only [Int.toNat_natCast] at k0 k1_ k2 k3 k4
      have HTP:=Aside0.mk htop
      have HKQ:=Aside0.mk hkq
      have HN:=Aside0.mk hn
      clear htop hkq hn em
      replace p6:=eq_true p6
      replace q6:=eq_true q6
      go_upto_if 35 with (first|((with_reducible refine gate_dst (N:=11) rfl ?_);refine bx_ (N:=11) (cs:=#[.string ⟨#[]⟩, .string ⟨#[]⟩, .int .i64 0, .int .i64 0, .int .i64 0]) (t:=39) ?_;intro gb11 hg w11 hbox hb;have NE11_BK:=am_ (show _≠gb11 from by have:=blk_lt BK.out;rw [hg];exact Nat.ne_of_lt this);have OL11_HG:=am_ (show some gb11≠(Value.slice Au (pre.map (goalOf l)).length cu).ownBlock from fun e=>by have q:=Kd.R_lt HG.out gb11 e.symm;rw [hg] at q;exact Nat.lt_irrefl _ q);have OL11_HT:=am_ (show some gb11≠(Value.slice (some ad0) top.length ct).ownBlock from fun e=>by have q:=Kd.R_lt HT.out gb11 e.symm;rw [hg] at q;exact Nat.lt_irrefl _ q);have GE11:=am_ (show w.heap.size≤gb11 from by rw [hg];exact below_size HB.out);replace HG:=am_ (Kd.R_below HG.out hb);replace HT:=am_ (Kd.R_below HT.out hb);replace BK:=am_ (blk_below BK.out hb);replace HB:=am_ (below_step HB.out hb);have B11:=Aside0.mk hbox;clear hbox hb hg)|((with_reducible refine gate_store (t:=39) (p:=11) (v:= .tmp 27) rfl ?_);refine store_all B11.out 39 (.tmp 11) (.tmp 27) rfl rfl rfl (.agg #[.string y.f0, .string y.f1, .int .i64 y.f2.f0, .int .i64 y.f2.f1, .int .i64 y.f2.f2]) [.string y.f0, .string y.f1, .int .i64 y.f2.f0, .int .i64 y.f2.f1, .int .i64 y.f2.f2] rfl rfl rfl (by kernel_rfl) rfl (by intro q hq;simp only [List.mem_cons,List.not_mem_nil,or_false] at hq;rcases hq with rfl|rfl|rfl|rfl|rfl<;>rfl) ?_;intro w112 hbk hg;replace HG:=am_ (R_elder HG.out hg OL11_HG.out);replace HT:=am_ (R_elder HT.out hg OL11_HT.out);replace BK:=am_ (blk_put_other BK.out hg NE11_BK.out);replace HB:=am_ (below_put HB.out (below_size HB.out) hg GE11.out);replace B11:=am_ (hbk);clear hbk hg k0 k1_ k2 k3 k4;have d0:=(blk_cell B11.out 0).trans rfl;have d1:=(blk_cell B11.out 1).trans rfl;have d2:=(blk_cell B11.out 2).trans rfl;have d3:=(blk_cell B11.out 3).trans rfl;have d4:=(blk_cell B11.out 4).trans rfl)|((with_reducible refine gate_dst (N:=12) rfl ?_);refine bx_ (N:=12) (cs:=#[.string ⟨#[]⟩, .string ⟨#[]⟩, .int .i64 0, .int .i64 0, .int .i64 0, .string ⟨#[]⟩, .string ⟨#[]⟩, .int .i64 0, .int .i64 0, .int .i64 0, .int .i64 0, .int .i64 0, .int .i64 0, .int .i64 0, .int .i64 0, .int .i64 0, .int .i64 0, .bool false, .int .i64 0, .int .i64 0, .int .i64 0]) (t:=141) ?_;intro gb12 hg w12 hbox hb;have NE12_BK:=am_ (show _≠gb12 from by have:=blk_lt BK.out;rw [hg];exact Nat.ne_of_lt this);have NE12_B11:=am_ (show _≠gb12 from by have:=blk_lt B11.out;rw [hg];exact Nat.ne_of_lt this);have OL12_HG:=am_ (show some gb12≠(Value.slice Au (pre.map (goalOf l)).length cu).ownBlock from fun e=>by have q:=Kd.R_lt HG.out gb12 e.symm;rw [hg] at q;exact Nat.lt_irrefl _ q);have OL12_HT:=am_ (show some gb12≠(Value.slice (some ad0) top.length ct).ownBlock from fun e=>by have q:=Kd.R_lt HT.out gb12 e.symm;rw [hg] at q;exact Nat.lt_irrefl _ q);have GE12:=am_ (show w.heap.size≤gb12 from by rw [hg];exact below_size HB.out);replace HG:=am_ (Kd.R_below HG.out hb);replace HT:=am_ (Kd.R_below HT.out hb);replace BK:=am_ (blk_below BK.out hb);replace B11:=am_ (blk_below B11.out hb);replace HB:=am_ (below_step HB.out hb);have B12:=Aside0.mk hbox;clear d0 d1 d2 d3 d4;clear hbox hb hg)|((with_reducible refine gate_store (t:=141) (p:=12) (v:= .tmp 29) rfl ?_);refine store_all B12.out 141 (.tmp 12) (.tmp 29) rfl rfl rfl (.agg (goalCells (gzero y)).toArray) (goalCells (gzero y)) rfl rfl rfl goalCells_info rfl (goalCells_one _) ?_;intro w122 hbk hg;replace HG:=am_ (R_elder HG.out hg OL12_HG.out);replace HT:=am_ (R_elder HT.out hg OL12_HT.out);replace BK:=am_ (blk_put_other BK.out hg NE12_BK.out);replace B11:=am_ (blk_put_other B11.out hg NE12_B11.out);replace HB:=am_ (below_put HB.out (below_size HB.out) hg GE12.out);replace B12:=am_ (hbk);clear hbk hg;have d0:=(blk_cell B11.out 0).trans rfl)|(go_at_call 91;refine (tree_Find.calls Al cl l y.f0 (fnd l y.f0) _ (Kd.C_below HC.out HB.out) HCL.out rfl).mono ?_;rintro e w13 ⟨rfl,hb⟩;replace HG:=am_ (Kd.R_below HG.out hb);replace HT:=am_ (Kd.R_below HT.out hb);replace BK:=am_ (blk_below BK.out hb);replace B11:=am_ (blk_below B11.out hb);replace B12:=am_ (blk_below B12.out hb);replace HB:=am_ (below_step HB.out hb);clear hb d0))
      go_cut [] (fun wc=>Aside0 (wc.heap[b]?=some (Obj.cells #[.slice Au (pre.map (goalOf l)).length cu, .bool wd, .slice none 0 0] 139 (0,0)))∧Aside0 (wc.heap[gb11]?=some (Obj.cells #[.string y.f0, .string y.f1, .int .i64 y.f2.f0, .int .i64 y.f2.f1, .int .i64 y.f2.f2] 39 (0,0)))∧Aside0 (wc.heap[gb12]?=some (Obj.cells (goalCells (goalOf l y)).toArray 141 (0,0)))∧Aside0 (Kd.R k141 141 wc w.heap.size (fun _=>True) (.slice Au (pre.map (goalOf l)).length cu) (pre.map (goalOf l)))∧Aside0 (Kd.R k39 39 wc w.heap.size (fun _=>True) (.slice (some ad0) top.length ct) top)∧Aside0 (Below w.heap.size w wc))
      case first=>
        cases hlk:look l y.f0 with
        | none =>
          have HGE:Aside0 (goalOf l y=gzero y):=⟨by unfold goalOf;rw [hlk]⟩
          have c2:decide (0≤fnd l y.f0)=false:=decide_eq_false (Int.not_le.2 (fnd_neg.2 hlk))
          clear hlk
          rw [c2]
          go_wp2_with fail
          go_meet
          case rel=>exact ⟨BK,B11,⟨by rw [HGE.out];exact B12.out⟩,HG,HT,HB⟩
        | some x =>
          have HGE:Aside0 (goalOf l y=⟨y,x,true,⟨0,0,0⟩⟩):=⟨by unfold goalOf;rw [hlk]⟩
          have p8:0≤fnd l y.f0:=fnd_ge.2 ⟨x,hlk⟩
          have q8:=fnd_lt l y.f0
          obtain ⟨ad,ea,hLI⟩:=at_item (Kd.C_below HC.out HB.out) p8 q8 (fnd_rd hlk)
          have LI:=Aside0.mk hLI
          have c2:decide (0≤fnd l y.f0)=true:=decide_eq_true p8
          clear hlk hLI
          subst ea
          rw [c2]
          clear c2
          replace p8:=eq_true p8
          replace q8:=eq_true q8
          go_wp2_with (first|((with_reducible refine gate_dst (N:=39) rfl ?_);refine load_ad (itemRow x) rfl (.tmp 38) rfl (ad:=ad.add ((fnd l y.f0).toNat*12)) rfl _ hu79 rfl itemRow_info LI.out ?_)|((with_reducible refine gate_store (t:=79) (p:=40) (v:= .tmp 39) rfl ?_);refine store_part B12.out 79 (.tmp 40) (.tmp 39) rfl rfl rfl 5 (.agg (itemRow x).toArray) (itemRow x) (goalCells ⟨y,x,false,⟨0,0,0⟩⟩) rfl rfl rfl (by kernel_rfl) (show (17:Nat)≤21 from by decide) ?one rfl ?_;(case one=>first|exact itemRow_one x|(intro q hq;simp only [List.mem_cons,List.not_mem_nil,or_false] at hq;rcases hq with rfl;rfl));intro w40 hbk hg;replace HG:=am_ (R_elder HG.out hg OL12_HG.out);replace HT:=am_ (R_elder HT.out hg OL12_HT.out);replace BK:=am_ (blk_put_other BK.out hg NE12_BK.out);replace B11:=am_ (blk_put_other B11.out hg NE12_B11.out);replace HB:=am_ (below_put HB.out (below_size HB.out) hg GE12.out);replace B12:=am_ (hbk);clear hbk hg)|((with_reducible refine gate_store (t:=4) (p:=41) (v:= .const (.bool true)) rfl ?_);refine store_part B12.out 4 (.tmp 41) (.const (.bool true)) rfl rfl rfl 17 (.bool true) ([.bool true]) (goalCells ⟨y,x,true,⟨0,0,0⟩⟩) rfl rfl rfl (by kernel_rfl) (show (18:Nat)≤21 from by decide) ?one rfl ?_;(case one=>first|exact itemRow_one x|(intro q hq;simp only [List.mem_cons,List.not_mem_nil,or_false] at hq;rcases hq with rfl;rfl));intro w41 hbk hg;replace HG:=am_ (R_elder HG.out hg OL12_HG.out);replace HT:=am_ (R_elder HT.out hg OL12_HT.out);replace BK:=am_ (blk_put_other BK.out hg NE12_BK.out);replace B11:=am_ (blk_put_other B11.out hg NE12_B11.out);replace HB:=am_ (below_put HB.out (below_size HB.out) hg GE12.out);replace B12:=am_ (hbk);clear hbk hg))
          go_meet
          case rel=>exact ⟨BK,B11,⟨by rw [HGE.out];exact B12.out⟩,HG,HT,HB⟩
      case rest=>
        clear BK B11 B12 HG HT HB
        obtain ⟨BK,B11,B12,HG,HT,HB⟩:=hcut
        rename_i hK0
        refine hK0 _ _ ?_
        refine wp_seq_k ?_
        intro K1 hK1
        go_cut [] (fun wc=>Aside0 (badW l ms y=false)∧Aside0 (wc.heap[b]?=some (Obj.cells #[.slice Au (pre.map (goalOf l)).length cu, .bool wd, .slice none 0 0] 139 (0,0)))∧Aside0 (wc.heap[gb12]?=some (Obj.cells (goalCells (goalOf l y)).toArray 141 (0,0)))∧Aside0 (Kd.R k141 141 wc w.heap.size (fun _=>True) (.slice Au (pre.map (goalOf l)).length cu) (pre.map (goalOf l)))∧Aside0 (Kd.R k39 39 wc w.heap.size (fun _=>True) (.slice (some ad0) top.length ct) top)∧Aside0 (Below w.heap.size w wc))
        case first=>
          cases hlk:look l y.f0 with
          | none =>
            have HBD:Aside0 (badW l ms y=false):=⟨by unfold badW;rw [hlk];rfl⟩
            have c17:wc.cell? ⟨gb12,17,none⟩=some (.bool false):=(blk_cell B12.out 17).trans (by unfold goalOf;rw [hlk];rfl)
            clear hlk
            go_wp2_with fail
            go_meet
            case rel=>exact ⟨HBD,BK,B12,HG,HT,HB⟩
          | some x =>
            have c17:wc.cell? ⟨gb12,17,none⟩=some (.bool true):=(blk_cell B12.out 17).trans (by unfold goalOf;rw [hlk];rfl)
            cases hmk:ms.any (fun m=>m.f0.toList==y.f0.toList) with
            | false =>
              have HBD:Aside0 (badW l ms y=true):=⟨by unfold badW;rw [hlk,hmk];rfl⟩
              clear hlk
              go_wp2_with (first|(go_at_call 92;refine (hasMark_calls 93 #[.pointer (some ⟨gb11,0,none⟩)] (fun m=>m.f0.toList==y.f0.toList) (enters_of Try.func93 (by kernel_rfl) rfl) _ (fun W' m hb=>stepsHas_calls W' gb11 y m (blk_below B11.out hb)) Am cm ms (Kd.C_below HM.out HB.out) HCM.out).mono ?_;rintro e w47 ⟨rfl,hb⟩;try rw [hmk];replace HG:=am_ (Kd.R_below HG.out hb);replace HT:=am_ (Kd.R_below HT.out hb);replace BK:=am_ (blk_below BK.out hb);replace B11:=am_ (blk_below B11.out hb);replace B12:=am_ (blk_below B12.out hb);replace HB:=am_ (below_step HB.out hb);clear hb))
              go_ret2
              refine ⟨_,[],3,rfl, ?_,Kd.R_nil _ _ _ _ _,HB.out⟩
              unfold PlanIs
              rw [if_pos HCE.out,HTP2.out,HWD.out]
              unfold wideP
              rw [if_pos HBD.out]
              exact ⟨rfl,rfl⟩
            | true =>
              have HBD:Aside0 (badW l ms y=false):=⟨by unfold badW;rw [hmk,Bool.not_true,Bool.and_false]⟩
              clear hlk
              go_wp2_with (first|(go_at_call 92;refine (hasMark_calls 93 #[.pointer (some ⟨gb11,0,none⟩)] (fun m=>m.f0.toList==y.f0.toList) (enters_of Try.func93 (by kernel_rfl) rfl) _ (fun W' m hb=>stepsHas_calls W' gb11 y m (blk_below B11.out hb)) Am cm ms (Kd.C_below HM.out HB.out) HCM.out).mono ?_;rintro e w47 ⟨rfl,hb⟩;try rw [hmk];replace HG:=am_ (Kd.R_below HG.out hb);replace HT:=am_ (Kd.R_below HT.out hb);replace BK:=am_ (blk_below BK.out hb);replace B11:=am_ (blk_below B11.out hb);replace B12:=am_ (blk_below B12.out hb);replace HB:=am_ (below_step HB.out hb);clear hb))
              go_meet
              case rel=>exact ⟨HBD,BK,B12,HG,HT,HB⟩
        case rest=>
          clear BK B11 B12 HG HT HB
          obtain ⟨HBD,BK,B12,HG,HT,HB⟩:=hcut
          refine hK1 _ _ ?_
          refine wp_seq_k ?_
          intro K2 hK2
          go_cut [] (fun wc=>Aside0 (wc.heap[b]?=some (Obj.cells #[.slice Au (pre.map (goalOf l)).length cu, .bool (wd||wideOf l y), .slice none 0 0] 139 (0,0)))∧Aside0 (wc.heap[gb12]?=some (Obj.cells (goalCells (goalOf l y)).toArray 141 (0,0)))∧Aside0 (Kd.R k141 141 wc w.heap.size (fun _=>True) (.slice Au (pre.map (goalOf l)).length cu) (pre.map (goalOf l)))∧Aside0 (Kd.R k39 39 wc w.heap.size (fun _=>True) (.slice (some ad0) top.length ct) top)∧Aside0 (Below w.heap.size w wc))
          case first=>
            have b1:=(blk_cell BK.out 1).trans rfl
            cases wd with
            | true =>
              go_wp2_with (first|((with_reducible refine gate_store (t:=4) (p:=69) (v:= .tmp 67) rfl ?_);refine store_part BK.out 4 (.tmp 69) (.tmp 67) rfl rfl rfl 1 (.bool true) [.bool true] [.slice Au (pre.map (goalOf l)).length cu, .bool true, .slice none 0 0] rfl rfl rfl (by kernel_rfl) (show (2:Nat)≤3 from by decide) (by intro q hq;simp only [List.mem_cons,List.not_mem_nil,or_false] at hq;rcases hq with rfl;rfl) rfl ?_;intro w69 hbk hg;replace HG:=am_ (R_put HG.out BK.out (by decide) hg);replace HT:=am_ (R_put HT.out BK.out (by decide) hg);replace B12:=am_ (blk_put_other B12.out hg (Ne.symm NE12_BK.out));replace HB:=am_ (below_put HB.out (below_size HB.out) hg GE.out);replace BK:=am_ (hbk);clear hbk hg))
              go_meet
              case rel=>exact ⟨⟨by rw [Bool.true_or];exact BK.out⟩,B12,HG,HT,HB⟩
            | false =>
              cases hlk:look l y.f0 with
              | none =>
                have HWI:Aside0 (wideOf l y=false):=⟨by unfold wideOf;rw [hlk]⟩
                have c17:wc.cell? ⟨gb12,17,none⟩=some (.bool false):=(blk_cell B12.out 17).trans (by unfold goalOf;rw [hlk];rfl)
                clear hlk
                go_wp2_with (first|((with_reducible refine gate_store (t:=4) (p:=69) (v:= .tmp 67) rfl ?_);refine store_part BK.out 4 (.tmp 69) (.tmp 67) rfl rfl rfl 1 (.bool false) [.bool false] [.slice Au (pre.map (goalOf l)).length cu, .bool false, .slice none 0 0] rfl rfl rfl (by kernel_rfl) (show (2:Nat)≤3 from by decide) (by intro q hq;simp only [List.mem_cons,List.not_mem_nil,or_false] at hq;rcases hq with rfl;rfl) rfl ?_;intro w69 hbk hg;replace HG:=am_ (R_put HG.out BK.out (by decide) hg);replace HT:=am_ (R_put HT.out BK.out (by decide) hg);replace B12:=am_ (blk_put_other B12.out hg (Ne.symm NE12_BK.out));replace HB:=am_ (below_put HB.out (below_size HB.out) hg GE.out);replace BK:=am_ (hbk);clear hbk hg))
                go_meet
                case rel=>exact ⟨⟨by rw [Bool.false_or,HWI.out];exact BK.out⟩,B12,HG,HT,HB⟩
              | some x =>
                have c17:wc.cell? ⟨gb12,17,none⟩=some (.bool true):=(blk_cell B12.out 17).trans (by unfold goalOf;rw [hlk];rfl)
                have c6:wc.cell? ⟨gb12,5+1,none⟩=some (.string x.f1):=(blk_cell B12.out 6).trans (by unfold goalOf;rw [hlk];rfl)
                have c1_:wc.cell? ⟨gb12,1,none⟩=some (.string y.f1):=(blk_cell B12.out 1).trans (by unfold goalOf;rw [hlk];rfl)
                cases hne:(x.f1.toList !=y.f1.toList) with
                | true =>
                  have HWI:Aside0 (wideOf l y=true):=⟨by unfold wideOf;rw [hlk];exact hne⟩
                  have hp1:(x.f1.toList==y.f1.toList)=false:=by simpa using hne
                  clear hlk
                  go_wp2_with (first|((with_reducible refine gate_store (t:=4) (p:=69) (v:= .tmp 67) rfl ?_);refine store_part BK.out 4 (.tmp 69) (.tmp 67) rfl rfl rfl 1 (.bool true) [.bool true] [.slice Au (pre.map (goalOf l)).length cu, .bool true, .slice none 0 0] rfl rfl rfl (by kernel_rfl) (show (2:Nat)≤3 from by decide) (by intro q hq;simp only [List.mem_cons,List.not_mem_nil,or_false] at hq;rcases hq with rfl;rfl) rfl ?_;intro w69 hbk hg;replace HG:=am_ (R_put HG.out BK.out (by decide) hg);replace HT:=am_ (R_put HT.out BK.out (by decide) hg);replace B12:=am_ (blk_put_other B12.out hg (Ne.symm NE12_BK.out));replace HB:=am_ (below_put HB.out (below_size HB.out) hg GE.out);replace BK:=am_ (hbk);clear hbk hg))
                  go_meet
                  case rel=>exact ⟨⟨by rw [Bool.false_or,HWI.out];exact BK.out⟩,B12,HG,HT,HB⟩
                | false =>
                  have HWI:Aside0 (wideOf l y=false):=⟨by unfold wideOf;rw [hlk];exact hne⟩
                  have hp1:(x.f1.toList==y.f1.toList)=true:=by simpa using hne
                  clear hlk
                  go_wp2_with (first|((with_reducible refine gate_store (t:=4) (p:=69) (v:= .tmp 67) rfl ?_);refine store_part BK.out 4 (.tmp 69) (.tmp 67) rfl rfl rfl 1 (.bool false) [.bool false] [.slice Au (pre.map (goalOf l)).length cu, .bool false, .slice none 0 0] rfl rfl rfl (by kernel_rfl) (show (2:Nat)≤3 from by decide) (by intro q hq;simp only [List.mem_cons,List.not_mem_nil,or_false] at hq;rcases hq with rfl;rfl) rfl ?_;intro w69 hbk hg;replace HG:=am_ (R_put HG.out BK.out (by decide) hg);replace HT:=am_ (R_put HT.out BK.out (by decide) hg);replace B12:=am_ (blk_put_other B12.out hg (Ne.symm NE12_BK.out));replace HB:=am_ (below_put HB.out (below_size HB.out) hg GE.out);replace BK:=am_ (hbk);clear hbk hg))
                  go_meet
                  case rel=>exact ⟨⟨by rw [Bool.false_or,HWI.out];exact BK.out⟩,B12,HG,HT,HB⟩
          case rest=>
            clear BK B12 HG HT HB
            obtain ⟨BK,B12,HG,HT,HB⟩:=hcut
            have HWD2:Aside0 (wideP l ms false top=wideP l ms (wd||wideOf l y) post):=⟨by rw [HWD.out];show (if badW l ms y=true then none else _)=_;rw [if_neg (by rw [HBD.out];simp)]⟩
            generalize (wd||wideOf l y)=wd2 at BK HWD2
            obtain ⟨z,hz⟩: ∃z,goalOf l y=z:=⟨_,rfl⟩
            have HZ:=Aside0.mk hz
            rw [hz] at B12
            clear hz
            refine hK2 _ _ ?_
            have cb0:=(blk_cell BK.out 0).trans rfl
            replace HG:=am_ (Kd.R_drew HG.out)
            replace HT:=am_ (Kd.R_drew HT.out)
            replace BK:=am_ (blk_drew BK.out)
            replace B12:=am_ (blk_drew B12.out)
            replace HB:=am_ (below_drew1 HB.out)
            refine start_ (n:=11) (S:=fun w'=>w'.cell? ⟨b,0,none⟩=some (.slice Au (pre.map (goalOf l)).length cu)∧w'.heap[gb12]?=some (Obj.cells (goalCells z).toArray 141 (0,0))) (ds:=[10]) (bt_ 11 0) (by kernel_rfl) rfl rfl ⟨(blk_cell BK.out 0).trans rfl,B12.out⟩ (fun hHeld=> ?_)
            generalize wc.drew=w15 at BK HG HT HB B12 hHeld ⊢
            refine pv_ (i:=0) (N:=some 70) (bt_ 11 1) ?_
            refine pv_ (i:=1) (N:=some 71) (bt_ 11 3) ?_
            refine pv_ (i:=2) (N:=some 72) (bt_ 11 7) ?_
            refine pv_ (i:=3) (N:=some 73) (bt_ 11 15) ?_
            refine tv_ (i:=4) (N:=some 74) (bt_ 11 31) hHeld ?_
            refine take_ (i:=5) (N:=some 75) (v:= .agg (goalCells z).toArray) (a':= ?_) (bt_ 11 63) rfl rfl (by kernel_rfl) (fun _ _ _ h=>h) (Or.inl ⟨by rfl, ?_⟩) hHeld ?_ ?_;(rintro w' ⟨s0,s1⟩;exact load_exec (goalCells z) (.tmp 12) rfl (g:=gb12) (off:=0) rfl _ hu141 rfl goalCells_info (fun j v hv=>by rw [Nat.zero_add];exact (blk_cell s1 j).trans (by rw [List.getElem?_toArray];exact hv)));rotate_left;(simp only [Act.put,List.setIfInBounds_toArray,List.set_cons_zero,List.set_cons_succ,i64_w,i32_w];rfl)
            refine one_ (i:=6) (N:=some 76) (bt_ 11 127) rfl rfl (by kernel_rfl) (by decide) (fun K hK=> ?_)
            refine event_step (by rfl) (v:= .slice (some ⟨w15.heap.size,0,none⟩) 1 1) (w1:=w15.alloc (.cells (goalCells z).toArray 141)) ?hr ?_
            (case hr=>exact goalLit_exec z rfl rfl w15)
            refine hK.out _ _ ⟨(World.cell?_alloc_lt _ _ _ (World.block_lt_of_cell? _ _ ((blk_cell BK.out 0).trans rfl))).trans ((blk_cell BK.out 0).trans rfl),blk_alloc B12.out _⟩ (fun hHeld=> ?_)
            clear hK K
            refine norm_ (a':= ?_) ?_ ?_
            rotate_left
            · show Act.put _ (some 76) _ = _
              simp only [Act.put,List.setIfInBounds_toArray,List.set_cons_zero,List.set_cons_succ,i64_w,i32_w]
              rfl
            refine one_ (i:=7) (N:=some 77) (bt_ 11 255) rfl rfl (by kernel_rfl) (by decide) (fun K hK=> ?_)
            refine Kd.R_append_step k141 (w0:=w) w.heap.size (by rfl) (.tmp 74) (.tmp 76) 137 141 (.agg #[.string ⟨#[]⟩, .string ⟨#[]⟩, .int .i64 0, .int .i64 0, .int .i64 0, .string ⟨#[]⟩, .string ⟨#[]⟩, .int .i64 0, .int .i64 0, .int .i64 0, .int .i64 0, .int .i64 0, .int .i64 0, .int .i64 0, .int .i64 0, .int .i64 0, .int .i64 0, .bool false, .int .i64 0, .int .i64 0, .int .i64 0]) 200 rfl Try.underlying137 infoGoal rfl (by decide) (by omega) _ (pre.map (goalOf l)) z (goalCells z) (fun _=>True) (fun _=>False) rfl rfl ?aP (fun _ hk=>hk.elim) (fun _ _=>trivial) (show Kd.R k141 141 w15 w.heap.size (fun _=>True) (.slice Au pre.length cu) (pre.map (goalOf l)) from by have h_:=HG.out;rw [List.length_map] at h_;exact h_) HB.out (below_size HB.out) (by rw [List.length_map];have:=HTL.out;have:=HN.out;omega) ?_
            (case aP=>exact k141_mkM _ _ _ z)
            intro v1 w77 ho hb hg hat
            replace hg:w15.grownBy w77 (Value.slice Au pre.length cu).ownBlock:=hg
            rw [show pre.length=(pre.map (goalOf l)).length from (List.length_map _).symm] at hg
            have OWN: ∀k,(Value.slice Au (pre.map (goalOf l)).length cu).ownBlock=some k→ ∃cells,w15.heap[k]?=some (Obj.cells cells 141 (0,0)):=fun k hk=>by
              obtain ⟨inner,h⟩:=Kd.R_own HG.out
              exact own_typed h k hk
            have n0_:=am_ (blk_row BK.out OWN (by decide) hg)
            have n1_:=am_ (Kd.R_mono (Kd.R_grown (Kd.R_types2 HT.out OWN (by decide)) hg (fun k hk e=>hk e)) (fun _ _=>trivial))
            have n2_:=Aside0.mk ho
            have n3_:=Aside0.mk hb
            have n4_:=am_ (blk_put_other2 B12.out hg (fun e=>OL12_HG.out (by rw [e])))
            clear BK HT HG HB B12 ho hb hat OWN
            have BK:=n0_
            have HT:=n1_
            have HG:=n2_
            have HB:=n3_
            have B12:=n4_
            clear n0_ n1_ n2_ n3_ n4_
            obtain ⟨A1,c1,e1⟩:=Kd.R_slice HG.out
            subst e1
            refine hK.out _ _ ⟨(blk_cell BK.out 0).trans rfl,B12.out⟩ (fun hHeld=> ?_)
            clear hK K hg
            refine norm_ (a':= ?_) ?_ ?_
            rotate_left
            · show Act.put _ (some 77) _ = _
              simp only [Act.put,List.setIfInBounds_toArray,List.set_cons_zero,List.set_cons_succ,i64_w,i32_w]
              rfl
            refine pv_ (i:=8) (N:=some 78) (bt_ 11 511) ?_
            refine pv_ (i:=9) (N:=some 79) (bt_ 11 1023) ?_
            refine last_ (i:=10) (N:=none) (bt_ 11 2047) rfl rfl (by kernel_rfl) (by decide) (fun K hK=> ?_)
            refine store_part_step BK.out (by rfl) 137 (.tmp 79) (.tmp 77) rfl rfl 0 (.slice A1 (pre.map (goalOf l)++ [z]).length c1) [.slice A1 (pre.map (goalOf l)++ [z]).length c1] [.slice A1 (pre.map (goalOf l)++ [z]).length c1, .bool wd2, .slice none 0 0] rfl rfl rfl (by kernel_rfl) (show (1:Nat)≤3 from by decide) (by intro q hq;simp only [List.mem_cons,List.not_mem_nil,or_false] at hq;rcases hq with rfl;rfl) rfl ?_
            intro w78 hbk hg
            have n0_:=am_ (R_put HG.out BK.out (by decide) hg)
            have n1_:=am_ (below_put HB.out (below_size HB.out) hg GE.out)
            have n2_:=am_ (R_put HT.out BK.out (by decide) hg)
            have n3_:=Aside0.mk hbk
            clear HG HB HT BK hbk hg B12
            have HG:=n0_
            have HB:=n1_
            have HT:=n2_
            have BK:=n3_
            clear n0_ n1_ n2_ n3_
            refine hK.out _ _ ?_
            clear hK K hHeld
            refine done_ (by kernel_rfl) ?_
            go_wp2_with fail
            go_roundg post.length
            case measure=>have:=HKQ.out;rw [this,List.length_cons];omega
            case rel=>exact ⟨pre++ [y],post,_,wd2,by rw [HTP.out,List.append_assoc];rfl,rfl,by rw [List.length_append,List.length_singleton,nx_nat (n:=top.length) (by have:=HN.out;omega) (by have:=HTL.out;omega)],HWD2,BK,⟨by rw [List.map_append];show Kd.R _ _ _ _ _ _ (_++ [goalOf l y]);rw [HZ.out];exact HG.out⟩,HT,HB⟩
end Go.Proofs.Ytahidkjncljkaaa.Print

namespace Go.Proofs.Ytahidkjncljkaaa.Print
open Go.RowKit Go.Proofs.YtahidkjncljkaaaW.PrintWords Go.Proofs.YtahidkjncljkaaaW.PrintLast Go.Proofs.YtahidkjncljkaaaW.PrintMore
attribute [local go_sem] max2_int min2_int max_two min_two max_three min_three max_four min_four

noncomputable def plan_Steps.f (l0:List (S39)) (l1:List (S84)) (l2:List (S79)):Option (List (S76)×Int):=open Classical in if h:(smallW l0∧l2.length<10000∧l1.length<10000)∧ ∃p:List (S76)×Int,PlanIs l0 (topR l0) l1 l2 p.1 p.2∧ ∀q:List (S76)×Int,PlanIs l0 (topR l0) l1 l2 q.1 q.2→q=p then some h.2.choose else none
theorem plan_Steps.calls (A0:Option Addr) (c0:Nat) (l0:List (S39)) (A1:Option Addr) (c1:Nat) (l1:List (S84)) (A2:Option Addr) (c2:Nat) (l2:List (S79)) (r1:List (S76)) (r2:Int) (w:World) (hr0:Kd.C k39 w A0 l0.length l0) (hc0:l0.length≤c0) (hr1:Kd.C k84 w A1 l1.length l1) (hc1:l1.length≤c1) (hr2:Kd.C k79 w A2 l2.length l2) (hc2:l2.length≤c2) (h:plan_Steps.f l0 l1 l2=some (r1,r2)):
    Calls Try.prog 48 #[.slice A0 l0.length c0, .slice A1 l1.length c1, .slice A2 l2.length c2] w fun e w'=> ∃v0_:Value,e= .returned (.tuple #[v0_, .int .i64 r2])∧Kd.R k76 76 w' w.heap.size (fun _=>True) v0_ r1∧Below w.heap.size w w':=by
  unfold plan_Steps.f at h
  split at h
  rotate_left
  · cases h


  rename_i hh
  have UQ: ∀q:List (S76)×Int,PlanIs l0 (topR l0) l1 l2 q.1 q.2→q=(r1,r2):=by
    have q:=Option.some.inj h
    rw [←q]
    exact hh.2.choose_spec.2
  obtain ⟨⟨hs,hl,hm⟩,_⟩:=hh
  refine (planSteps_raw A0 c0 l0 A1 c1 l1 A2 c2 l2 w hr0 hc0 hr1 hc1 hr2 hc2 hs hl hm).mono ?_
  rintro e w' ⟨v,r,q,rfl,hp,ho,hb⟩
  have e:=UQ (r,q) hp
  injection e with e1 e2
  subst e1 e2
  exact ⟨v,rfl,ho,hb⟩
mutual
def law11_Make.l0:Nat→List Int→Bool→List (S39)→List Int→Int→Option ((List (S39)))
 |0,_,_,_,_,_=>none
 |k+1,x0,x1,x5,x6,x7=>if (wrap64 (x7+1))<(x0.length:Int) then (law11_Make.j1 k x0 x1 x5 x6 x7 (decide ((x5.length:Int)<24))) else (law11_Make.j1 k x0 x1 x5 x6 x7 false)
def law11_Make.j1:Nat→List Int→Bool→List (S39)→List Int→Int→Bool→Option ((List (S39)))
 |0,_,_,_,_,_,_=>none
 |k+1,x0,x1,x5,x6,x7,x23=>if x23=true then (if 0≤x7 then (if x7<(x0.length:Int) then ((some (([(wrap64 (97+(Int.tmod (wrap64 ((x5.length:Int)*7)) 24))) % 256]:List Int):List Int)).bind fun y5=>(if (x5.length:Int)>0 then (law11_Make.j2 k x0 x1 x5 x6 x7 (x5.length:Int) (wrap64 (rd x0 x7)) 4096 (decide ((Int.tmod (wrap64 (rd x0 x7)) 3)>0)) (strOfNums y5) (⟨#[]⟩:ByteArray) 4096 4096 4096) else (law11_Make.j2 k x0 x1 x5 x6 x7 (x5.length:Int) (wrap64 (rd x0 x7)) 4096 false (strOfNums y5) (⟨#[]⟩:ByteArray) 4096 4096 4096))) else (none)) else (none)) else (some x5)
def law11_Make.j2:Nat→List Int→Bool→List (S39)→List Int→Int→Int→Int→Int→Bool→ByteArray→ByteArray→Int→Int→Int→Option ((List (S39)))
 |0,_,_,_,_,_,_,_,_,_,_,_,_,_,_=>none
 |k+1,x0,x1,x5,x6,x7,x8,x9,x11,x48,x9000,x9001,x9002,x9003,x9004=>if x48=true then (if x8=0 then (none) else (if 0≤(Int.tmod (wrap64 (Int.tdiv x9 3)) x8) then (if (Int.tmod (wrap64 (Int.tdiv x9 3)) x8)<(x5.length:Int) then (if (Int.tmod (wrap64 (Int.tdiv x9 3)) x8)<(x6.length:Int) then ((some (x6.set ((Int.tmod (wrap64 (Int.tdiv x9 3)) x8):Int).toNat (wrap64 ((rd x6 (Int.tmod (wrap64 (Int.tdiv x9 3)) x8)) - (wrap64 (Int.tdiv (rd x6 (Int.tmod (wrap64 (Int.tdiv x9 3)) x8)) 2)))):List Int)).bind fun y12=>(if x1=true then (if 0≤(wrap64 (x7+1)) then (if (wrap64 (x7+1))<(x0.length:Int) then (if (Int.tmod (rd x0 (wrap64 (x7+1))) 16)=0 then (if x5.length<2513169434916 then (if y12.length<17592186044416 then (law11_Make.l0 k x0 x1 (x5++ [(⟨x9000,(rd_T39 x5 (Int.tmod (wrap64 (Int.tdiv x9 3)) x8)).f0,(⟨wrap64 ((wrap64 ((wrap64 (Int.tdiv (rd x6 (Int.tmod (wrap64 (Int.tdiv x9 3)) x8)) 2))*2))+1),wrap64 ((wrap64 ((wrap64 (Int.tdiv (rd x6 (Int.tmod (wrap64 (Int.tdiv x9 3)) x8)) 2))*2))+1),wrap64 ((wrap64 ((wrap64 ((wrap64 (Int.tdiv (rd x6 (Int.tmod (wrap64 (Int.tdiv x9 3)) x8)) 2))*2))+1)) - (wrap64 ((wrap64 (Int.tdiv (wrap64 ((wrap64 ((wrap64 (Int.tdiv (rd x6 (Int.tmod (wrap64 (Int.tdiv x9 3)) x8)) 2))*2))+1)) 3))*(wrap64 (Int.tmod (rd x0 (wrap64 (x7+1))) 2)))))⟩:S37)⟩:S39)]) (y12++ [wrap64 ((wrap64 ((wrap64 ((wrap64 (Int.tdiv (rd x6 (Int.tmod (wrap64 (Int.tdiv x9 3)) x8)) 2))*2))+1)) - (wrap64 (Int.tdiv (wrap64 ((wrap64 ((wrap64 (Int.tdiv (rd x6 (Int.tmod (wrap64 (Int.tdiv x9 3)) x8)) 2))*2))+1)) 3)))]) (wrap64 (x7+2))) else (none)) else (none)) else (if x5.length<2513169434916 then (if y12.length<17592186044416 then (law11_Make.l0 k x0 x1 (x5++ [(⟨x9000,(rd_T39 x5 (Int.tmod (wrap64 (Int.tdiv x9 3)) x8)).f0,(⟨wrap64 (Int.tdiv (rd x6 (Int.tmod (wrap64 (Int.tdiv x9 3)) x8)) 2),wrap64 (Int.tdiv (rd x6 (Int.tmod (wrap64 (Int.tdiv x9 3)) x8)) 2),wrap64 ((wrap64 (Int.tdiv (rd x6 (Int.tmod (wrap64 (Int.tdiv x9 3)) x8)) 2)) - (wrap64 ((wrap64 (Int.tdiv (wrap64 (Int.tdiv (rd x6 (Int.tmod (wrap64 (Int.tdiv x9 3)) x8)) 2)) 3))*(wrap64 (Int.tmod (rd x0 (wrap64 (x7+1))) 2)))))⟩:S37)⟩:S39)]) (y12++ [wrap64 ((wrap64 (Int.tdiv (rd x6 (Int.tmod (wrap64 (Int.tdiv x9 3)) x8)) 2)) - (wrap64 (Int.tdiv (wrap64 (Int.tdiv (rd x6 (Int.tmod (wrap64 (Int.tdiv x9 3)) x8)) 2)) 3)))]) (wrap64 (x7+2))) else (none)) else (none))) else (none)) else (none)) else (if 0≤(wrap64 (x7+1)) then (if (wrap64 (x7+1))<(x0.length:Int) then (if x5.length<2513169434916 then (if y12.length<17592186044416 then (law11_Make.l0 k x0 x1 (x5++ [(⟨x9000,(rd_T39 x5 (Int.tmod (wrap64 (Int.tdiv x9 3)) x8)).f0,(⟨wrap64 (Int.tdiv (rd x6 (Int.tmod (wrap64 (Int.tdiv x9 3)) x8)) 2),wrap64 (Int.tdiv (rd x6 (Int.tmod (wrap64 (Int.tdiv x9 3)) x8)) 2),wrap64 ((wrap64 (Int.tdiv (rd x6 (Int.tmod (wrap64 (Int.tdiv x9 3)) x8)) 2)) - (wrap64 ((wrap64 (Int.tdiv (wrap64 (Int.tdiv (rd x6 (Int.tmod (wrap64 (Int.tdiv x9 3)) x8)) 2)) 3))*(wrap64 (Int.tmod (rd x0 (wrap64 (x7+1))) 2)))))⟩:S37)⟩:S39)]) (y12++ [wrap64 ((wrap64 (Int.tdiv (rd x6 (Int.tmod (wrap64 (Int.tdiv x9 3)) x8)) 2)) - (wrap64 (Int.tdiv (wrap64 (Int.tdiv (rd x6 (Int.tmod (wrap64 (Int.tdiv x9 3)) x8)) 2)) 3)))]) (wrap64 (x7+2))) else (none)) else (none)) else (none)) else (none)))) else (none)) else (none)) else (none))) else (if x1=true then (if 0≤(wrap64 (x7+1)) then (if (wrap64 (x7+1))<(x0.length:Int) then (if (Int.tmod (rd x0 (wrap64 (x7+1))) 16)=0 then (if x5.length<2513169434916 then (if x6.length<17592186044416 then (law11_Make.l0 k x0 x1 (x5++ [(⟨x9000,x9001,(⟨wrap64 ((wrap64 (x11*2))+1),wrap64 ((wrap64 (x11*2))+1),wrap64 ((wrap64 ((wrap64 (x11*2))+1)) - (wrap64 ((wrap64 (Int.tdiv (wrap64 ((wrap64 (x11*2))+1)) 3))*(wrap64 (Int.tmod (rd x0 (wrap64 (x7+1))) 2)))))⟩:S37)⟩:S39)]) (x6++ [wrap64 ((wrap64 ((wrap64 (x11*2))+1)) - (wrap64 (Int.tdiv (wrap64 ((wrap64 (x11*2))+1)) 3)))]) (wrap64 (x7+2))) else (none)) else (none)) else (if x5.length<2513169434916 then (if x6.length<17592186044416 then (law11_Make.l0 k x0 x1 (x5++ [(⟨x9000,x9001,(⟨x11,x11,wrap64 (x11 - (wrap64 ((wrap64 (Int.tdiv x11 3))*(wrap64 (Int.tmod (rd x0 (wrap64 (x7+1))) 2)))))⟩:S37)⟩:S39)]) (x6++ [wrap64 (x11 - (wrap64 (Int.tdiv x11 3)))]) (wrap64 (x7+2))) else (none)) else (none))) else (none)) else (none)) else (if 0≤(wrap64 (x7+1)) then (if (wrap64 (x7+1))<(x0.length:Int) then (if x5.length<2513169434916 then (if x6.length<17592186044416 then (law11_Make.l0 k x0 x1 (x5++ [(⟨x9000,x9001,(⟨x11,x11,wrap64 (x11 - (wrap64 ((wrap64 (Int.tdiv x11 3))*(wrap64 (Int.tmod (rd x0 (wrap64 (x7+1))) 2)))))⟩:S37)⟩:S39)]) (x6++ [wrap64 (x11 - (wrap64 (Int.tdiv x11 3)))]) (wrap64 (x7+2))) else (none)) else (none)) else (none)) else (none)))
end
def law11_Make.f (k:Nat) (l0:List Int) (a1:Bool):Option ((List (S39))):=law11_Make.l0 k l0 a1 ([]:List (S39)) (([]:List Int)) 0
theorem law11_Make.mono_l: ∀k,(∀y0 y1 y2 y3 y4,LeO (law11_Make.l0 k y0 y1 y2 y3 y4) (law11_Make.l0 (k+1) y0 y1 y2 y3 y4))∧(∀y0 y1 y2 y3 y4 y5,LeO (law11_Make.j1 k y0 y1 y2 y3 y4 y5) (law11_Make.j1 (k+1) y0 y1 y2 y3 y4 y5))∧(∀y0 y1 y2 y3 y4 y5 y6 y7 y8 y9 y10 y11 y12 y13,LeO (law11_Make.j2 k y0 y1 y2 y3 y4 y5 y6 y7 y8 y9 y10 y11 y12 y13) (law11_Make.j2 (k+1) y0 y1 y2 y3 y4 y5 y6 y7 y8 y9 y10 y11 y12 y13))
 |0=>⟨fun _ _ _ _ _ r h=>by simp [law11_Make.l0] at h,fun _ _ _ _ _ _ r h=>by simp [law11_Make.j1] at h,fun _ _ _ _ _ _ _ _ _ _ _ _ _ _ r h=>by simp [law11_Make.j2] at h⟩
 |k+1=>by
  obtain ⟨ih0,ih1,ih2⟩:=law11_Make.mono_l k
  refine ⟨?_, ?_, ?_⟩
  ·intro y0 y1 y2 y3 y4
   unfold law11_Make.l0
   repeat' first
   |(with_reducible exact ih0 _ _ _ _ _)
   |(with_reducible exact ih1 _ _ _ _ _ _)
   |(with_reducible exact ih2 _ _ _ _ _ _ _ _ _ _ _ _ _ _)
   |(with_reducible exact LeO.refl _)
   |(with_reducible exact LeO.none _)
   |(with_reducible refine LeO.ite ?_ ?_)
   |(with_reducible refine LeO.bind ?_ (fun _=> ?_))
   |exact ih0 _ _ _ _ _
   |exact ih1 _ _ _ _ _ _
   |exact ih2 _ _ _ _ _ _ _ _ _ _ _ _ _ _
   |exact LeO.none _
   |refine LeO.ite ?_ ?_
   |refine LeO.bind ?_ (fun _=> ?_)
  ·intro y0 y1 y2 y3 y4 y5
   unfold law11_Make.j1
   repeat' first
   |(with_reducible exact ih0 _ _ _ _ _)
   |(with_reducible exact ih1 _ _ _ _ _ _)
   |(with_reducible exact ih2 _ _ _ _ _ _ _ _ _ _ _ _ _ _)
   |(with_reducible exact LeO.refl _)
   |(with_reducible exact LeO.none _)
   |(with_reducible refine LeO.ite ?_ ?_)
   |(with_reducible refine LeO.bind ?_ (fun _=> ?_))
   |exact ih0 _ _ _ _ _
   |exact ih1 _ _ _ _ _ _
   |exact ih2 _ _ _ _ _ _ _ _ _ _ _ _ _ _
   |exact LeO.none _
   |refine LeO.ite ?_ ?_
   |refine LeO.bind ?_ (fun _=> ?_)
  intro y0 y1 y2 y3 y4 y5 y6 y7 y8 y9 y10 y11 y12 y13
  unfold law11_Make.j2
  repeat' first
  |(with_reducible exact ih0 _ _ _ _ _)
  |(with_reducible exact ih1 _ _ _ _ _ _)
  |(with_reducible exact ih2 _ _ _ _ _ _ _ _ _ _ _ _ _ _)
  |(with_reducible exact LeO.refl _)
  |(with_reducible exact LeO.none _)
  |(with_reducible refine LeO.ite ?_ ?_)
  |(with_reducible refine LeO.bind ?_ (fun _=> ?_))
  |exact ih0 _ _ _ _ _
  |exact ih1 _ _ _ _ _ _
  |exact ih2 _ _ _ _ _ _ _ _ _ _ _ _ _ _
  |exact LeO.none _
  |refine LeO.ite ?_ ?_
  |refine LeO.bind ?_ (fun _=> ?_)
theorem law11_Make.mono: ∀a0 a1 k,LeO (law11_Make.f k a0 a1) (law11_Make.f (k+1) a0 a1):=by
 intro a0 a1 k
 obtain ⟨ih0,ih1,ih2⟩:=law11_Make.mono_l k
 unfold law11_Make.f
 repeat' first
  |(with_reducible exact ih0 _ _ _ _ _)
  |(with_reducible exact ih1 _ _ _ _ _ _)
  |(with_reducible exact ih2 _ _ _ _ _ _ _ _ _ _ _ _ _ _)
  |(with_reducible exact LeO.refl _)
  |(with_reducible exact LeO.none _)
  |(with_reducible refine LeO.ite ?_ ?_)
  |(with_reducible refine LeO.bind ?_ (fun _=> ?_))
  |exact ih0 _ _ _ _ _
  |exact ih1 _ _ _ _ _ _
  |exact ih2 _ _ _ _ _ _ _ _ _ _ _ _ _ _
  |exact LeO.none _
  |refine LeO.ite ?_ ?_
  |refine LeO.bind ?_ (fun _=> ?_)
theorem lm_E1:wrap64 ((wrap64 (4096*2))+1)=8193:=by unfold wrap64;rfl
theorem lm_E2:wrap64 (Int.tdiv 8193 3)=2731:=by unfold wrap64;rfl
theorem lm_E3:wrap64 (8193 - 2731)=5462:=by unfold wrap64;rfl
theorem lm_E4:wrap64 (Int.tdiv 4096 3)=1365:=by unfold wrap64;rfl
theorem lm_E5:wrap64 (4096 - 1365)=2731:=by unfold wrap64;rfl
set_option maxHeartbeats 8000000 in
set_option maxRecDepth 100000 in
theorem law11_Make.calls (k:Nat) (A0:Option Addr) (c0:Nat) (l0:List Int) (a1:Bool) (r:List (S39)) (w:World) (hr0:Kd.C (Kd.int .u8) w A0 l0.length l0) (hc0:l0.length≤c0) (h:law11_Make.f k l0 a1=some r):
  Calls Try.prog 32 #[.slice A0 l0.length c0, .bool a1] w fun e w'=> ∃v0_:Value,e= .returned (v0_)∧Kd.R k39 39 w' w.heap.size (fun _=>True) v0_ r∧Below w.heap.size w w':=by
 have hu37:=Try.underlying37
 have hu39:=Try.underlying39
 have HR0:=Aside0.mk hr0
 have HC0:=Aside0.mk hc0
 clear hr0 hc0
 have HB:=am_ (Below.refl w.heap.size w)
 have H:(law11_Make.l0 k l0 a1 ([]:List (S39)) (([]:List Int)) 0)=some r:=h
 clear h
 obtain ⟨y1,hy1⟩: ∃y_:List Int,y_=(([]:List Int)):=⟨_,rfl⟩
 replace H:(law11_Make.l0 k l0 a1 ([]:List (S39)) y1 0)=some r:=by first|(rw [hy1];with_reducible exact H)|(have H2_:=(Option.bind_some _ _).symm.trans H;rw [hy1];with_reducible exact H2_)|(have H2_:=(Option.bind_some _ _).symm.trans H;with_reducible exact H2_)|with_reducible exact H|(rw [hy1];exact H)|exact H
 have Ny1:=Aside0.mk hy1
 clear hy1
 have H':=Aside0.mk H
 clear H
 go_enter Try.func32,Try.ntmps32
 go_wp2_with (first|((with_reducible refine gate_dst (N:=13) rfl ?_);(try (refine gate_guard (by rfl) ?_;dsimp only));refine Kd.R_lit (Kd.int .i64) _ 3 ?hg (N:=13) ?hd (xs:=([]:List Int)) (inner:=[]) (ok:=fun _=>True) (okp:=fun _=>True) ?hr ?hp (fun _ hk=>hk) trivial (Below.refl _ _) (Nat.le_refl _) (by simp) ?_;(case hd=>rfl);(case hg=>rfl);(case hr=>first|(go_simp;done)|(go_simp;rfl));(case hp=>exact (Reps.none _ _));intro v2 w3 ho4 hb hg_ hnew_;clear hg_ hnew_;(first|rw [←Ny1.out] at ho4|(simp only [Int.reduceToNat] at ho4;rw [←Ny1.out] at ho4));have HO3:=am_ (Kd.R_lower ho4 (below_size (zl0_ HB)));replace HB:=am_ (below_step (zl0_ HB) hb);clear hb ho4))
 repeat (go_quiet (first|((with_reducible refine gate_dst (N:=13) rfl ?_);(try (refine gate_guard (by rfl) ?_;dsimp only));refine Kd.R_lit (Kd.int .i64) _ 3 ?hg (N:=13) ?hd (xs:=([]:List Int)) (inner:=[]) (ok:=fun _=>True) (okp:=fun _=>True) ?hr ?hp (fun _ hk=>hk) trivial (Below.refl _ _) (Nat.le_refl _) (by simp) ?_;(case hd=>rfl);(case hg=>rfl);(case hr=>first|(go_simp;done)|(go_simp;rfl));(case hp=>exact (Reps.none _ _));intro v2 w3 ho4 hb hg_ hnew_;clear hg_ hnew_;(first|rw [←Ny1.out] at ho4|(simp only [Int.reduceToNat] at ho4;rw [←Ny1.out] at ho4));have HO3:=am_ (Kd.R_lower ho4 (below_size (zl0_ HB)));replace HB:=am_ (below_step (zl0_ HB) hb);clear hb ho4));try go_wp2_with (first|((with_reducible refine gate_dst (N:=13) rfl ?_);(try (refine gate_guard (by rfl) ?_;dsimp only));refine Kd.R_lit (Kd.int .i64) _ 3 ?hg (N:=13) ?hd (xs:=([]:List Int)) (inner:=[]) (ok:=fun _=>True) (okp:=fun _=>True) ?hr ?hp (fun _ hk=>hk) trivial (Below.refl _ _) (Nat.le_refl _) (by simp) ?_;(case hd=>rfl);(case hg=>rfl);(case hr=>first|(go_simp;done)|(go_simp;rfl));(case hp=>exact (Reps.none _ _));intro v2 w3 ho4 hb hg_ hnew_;clear hg_ hnew_;(first|rw [←Ny1.out] at ho4|(simp only [Int.reduceToNat] at ho4;rw [←Ny1.out] at ho4));have HO3:=am_ (Kd.R_lower ho4 (below_size (zl0_ HB)));replace HB:=am_ (below_step (zl0_ HB) hb);clear hb ho4)))
 go_loopg [5,6,7] k (fun kq v5 v6 v7 w'=> ∃(x5_1:List (S39)) (x6_1:List Int) (x7_1:Int),v7= .int .i64 x7_1∧Aside0 (law11_Make.l0 kq l0 a1 x5_1 x6_1 x7_1=some r)∧Aside0 (kq≤k)∧Aside0 (Kd.R k39 39 w' w.heap.size (fun _=>True) v5 x5_1)∧Aside0 (Kd.R (Kd.int .i64) 3 w' w.heap.size (fun _=>True) v6 x6_1)∧Aside0 (Below w.heap.size w w'))
 case atStart=>exact ⟨(([]:List (S39))),(y1),(0),(by first|rfl|(simp;done)|(simp [*];done)),H',⟨Nat.le_refl _⟩,⟨by first|exact Kd.R_nil _ _ _ _ _|exact Kd.N_nil _ _ _ _ _|exact Kd.V_nil _ _ _ _ _|exact Kd.Q_nil _ _ _ _ _|exact Kd.S_nil _ _ _ _ _⟩,⟨by (with_reducible repeat (first|apply Kd.R_alloc|apply Kd.R_drewN|apply Kd.R_drew));exact HO3.out⟩,⟨zl0_ HB⟩⟩
 case round=>
  clear H'
  try clear p2
  try clear c3
  obtain ⟨x5_1,x6_1,x7_1,rfl,HA,HK1,HO_5,HO_6,HB⟩:=hrel
  cases gk with
  |zero=>exact absurd HA.out (by simp [law11_Make.l0])
  |succ k1=>
   have H:=HA.out
   clear HA
   simp only [law11_Make.l0] at H
   have HC5:=Aside0.mk H
   clear H
   go_upto_region 4 with (fail)
   repeat (go_quiet (fail);go_upto_region 4 with (fail))
   go_cut [23] (fun v23 wc=> ∃(kq:Nat) (x23_4:Bool),v23= .bool x23_4∧Aside0 (law11_Make.j1 kq l0 a1 x5_1 x6_1 x7_1 x23_4=some r)∧Aside0 (kq≤k1)∧Aside0 (Kd.R k39 39 wc w.heap.size (fun _=>True) u5 x5_1)∧Aside0 (Kd.R (Kd.int .i64) 3 wc w.heap.size (fun _=>True) u6 x6_1)∧Aside0 (Below w.heap.size w wc))
   case first=>
    have H:=HC5.out
    clear HC5
    by_cases c6:(wrap64 (x7_1+1))<(l0.length:Int)
    rotate_left
    ·rw [if_neg c6] at H
     have c6b0:decide ((wrap64 (x7_1+1))<(l0.length:Int))=false:=decide_eq_false c6
     clear c6
     (first|rw [c6b0]|(simp only [i64_w,i32_w];rw [c6b0])|skip)
     have H':=Aside0.mk H
     clear H
     go_wp2
     repeat (go_quiet (fail);try go_wp2)
     go_meet
     case rel=>exact ⟨_,(false),(by first|rfl|(simp;done)|(simp [*];done)),H',⟨by have:=HK1.out;first|omega|exact Nat.le_refl _⟩,⟨by (with_reducible repeat (first|apply Kd.R_alloc|apply Kd.R_drewN|apply Kd.R_drew));exact HO_5.out⟩,⟨by (with_reducible repeat (first|apply Kd.R_alloc|apply Kd.R_drewN|apply Kd.R_drew));exact HO_6.out⟩,⟨zl0_ HB⟩⟩
    rw [if_pos c6] at H
    have c6b0:decide ((wrap64 (x7_1+1))<(l0.length:Int))=true:=decide_eq_true c6
    clear c6
    (first|rw [c6b0]|(simp only [i64_w,i32_w];rw [c6b0])|skip)
    have H':=Aside0.mk H
    clear H
    obtain ⟨Ao7,co7,eo7⟩:=Kd.R_slice HO_5.out
    subst eo7
    go_wp2
    repeat (go_quiet (fail);try go_wp2)
    go_meet
    case rel=>exact ⟨_,(decide ((x5_1.length:Int)<24)),(by first|rfl|(simp;done)|(simp [*];done)),H',⟨by have:=HK1.out;first|omega|exact Nat.le_refl _⟩,⟨by (with_reducible repeat (first|apply Kd.R_alloc|apply Kd.R_drewN|apply Kd.R_drew));exact HO_5.out⟩,⟨by (with_reducible repeat (first|apply Kd.R_alloc|apply Kd.R_drewN|apply Kd.R_drew));exact HO_6.out⟩,⟨zl0_ HB⟩⟩
   case rest=>
    clear HC5
    try clear p2
    try clear c3
    try clear c6
    try clear c6b0
    try clear p6
    try clear p2
    obtain ⟨kq,x23_4,rfl,HA,HJ4,HO_5,HO_6,HB⟩:=hcut
    cases kq with
    |zero=>exact absurd HA.out (by simp [law11_Make.j1])
    |succ kj4=>
     have H:=HA.out
     clear HA
     simp only [law11_Make.j1] at H
     by_cases c8:x23_4=true
     rotate_left
     ·replace c8:=Bool.eq_false_iff.mpr c8
      subst c8
      have H1:(some x5_1)=some r:=by rw [if_neg (show¬(false=true) by decide)] at H;exact H
      clear H
      have H:=H1
      clear H1
      obtain rfl:=Option.some.inj H
      go_wp2
      repeat (go_quiet (fail);try go_wp2)
      go_ret
      exact ⟨_,by first|rfl|(simp [errW_none,errW_some]<;>rfl)|(simp [*,errW_none,errW_some]<;>rfl),by (with_reducible repeat (first|apply Kd.R_alloc|apply Kd.R_drewN|apply Kd.R_drew));exact HO_5.out,zl0_ HB⟩

     subst c8
     have H1:(if 0≤x7_1 then (if x7_1<(l0.length:Int) then ((some (([(wrap64 (97+(Int.tmod (wrap64 ((x5_1.length:Int)*7)) 24))) % 256]:List Int):List Int)).bind fun y5=>(if (x5_1.length:Int)>0 then (law11_Make.j2 kj4 l0 a1 x5_1 x6_1 x7_1 (x5_1.length:Int) (wrap64 (rd l0 x7_1)) 4096 (decide ((Int.tmod (wrap64 (rd l0 x7_1)) 3)>0)) (strOfNums y5) (⟨#[]⟩:ByteArray) 4096 4096 4096) else (law11_Make.j2 kj4 l0 a1 x5_1 x6_1 x7_1 (x5_1.length:Int) (wrap64 (rd l0 x7_1)) 4096 false (strOfNums y5) (⟨#[]⟩:ByteArray) 4096 4096 4096))) else (none)) else (none))=some r:=by rw [if_pos rfl] at H;exact H
     clear H
     have H:=H1
     clear H1
     by_cases c9:0≤x7_1
     rotate_left
     ·rw [if_neg c9] at H
      exact absurd H (by simp)
     rw [if_pos c9] at H
     have c9b0:decide (0≤x7_1)=true:=decide_eq_true c9
     clear c9
     by_cases c10:x7_1<(l0.length:Int)
     rotate_left
     ·rw [if_neg c10] at H
      exact absurd H (by simp)
     rw [if_pos c10] at H
     have c10b0:decide (x7_1<(l0.length:Int))=true:=decide_eq_true c10
     clear c10
     obtain ⟨y5,hy5⟩: ∃y_:List Int,y_=(([(wrap64 (97+(Int.tmod (wrap64 ((x5_1.length:Int)*7)) 24))) % 256]:List Int)):=⟨_,rfl⟩
     replace H:(if (x5_1.length:Int)>0 then (law11_Make.j2 kj4 l0 a1 x5_1 x6_1 x7_1 (x5_1.length:Int) (wrap64 (rd l0 x7_1)) 4096 (decide ((Int.tmod (wrap64 (rd l0 x7_1)) 3)>0)) (strOfNums y5) (⟨#[]⟩:ByteArray) 4096 4096 4096) else (law11_Make.j2 kj4 l0 a1 x5_1 x6_1 x7_1 (x5_1.length:Int) (wrap64 (rd l0 x7_1)) 4096 false (strOfNums y5) (⟨#[]⟩:ByteArray) 4096 4096 4096))=some r:=by first|(rw [hy5];with_reducible exact H)|(have H2_:=(Option.bind_some _ _).symm.trans H;rw [hy5];with_reducible exact H2_)|(have H2_:=(Option.bind_some _ _).symm.trans H;with_reducible exact H2_)|with_reducible exact H|(rw [hy5];exact H)|exact H
     have Ny5:=Aside0.mk hy5
     clear hy5
     have HC11:=Aside0.mk H
     clear H
     obtain ⟨Ao12,co12,eo12⟩:=Kd.R_slice HO_5.out
     subst eo12
     have p4:0≤(x7_1:Int):=of_decide_eq_true zq_
     have q4:x7_1<(l0.length:Int):=of_decide_eq_true zq_
     obtain ⟨ad4,e4,hx4_0⟩:=Kd.at_int HR0.out x7_1 p4 q4
     cases e4
     replace hx4_0:=zx_ HB hx4_0
     replace p4:=eq_true p4
     replace q4:=eq_true q4
     go_upto_region 9 with (first|((with_reducible refine gate_dst (N:=38) rfl ?_);(try (refine gate_guard (by rfl) ?_;dsimp only));refine Kd.R_lit (Kd.int .u8) _ 5 ?hg (N:=38) ?hd (xs:=([(wrap64 (97+(Int.tmod (wrap64 ((x5_1.length:Int)*7)) 24))) % 256]:List Int)) (inner:=[.int .u8 ((wrap64 (97+(Int.tmod (wrap64 ((x5_1.length:Int)*7)) 24))) % 256)]) (ok:=fun _=>True) (okp:=fun _=>True) ?hr ?hp (fun _ hk=>hk) trivial (Below.refl _ _) (Nat.le_refl _) (by simp) ?_;(case hd=>rfl);(case hg=>rfl);(case hr=>first|(go_simp;done)|(go_simp;rfl));(case hp=>exact (Reps.one (show Kd.M (Kd.int .u8) _ _ _ ((wrap64 (97+(Int.tmod (wrap64 ((x5_1.length:Int)*7)) 24))) % 256) [.int .u8 ((wrap64 (97+(Int.tmod (wrap64 ((x5_1.length:Int)*7)) 24))) % 256)] from rfl) (Reps.none _ _)));intro v6 w13 ho14 hb hg_ hnew_;clear hg_ hnew_;(first|rw [←Ny5.out] at ho14|(simp only [Int.reduceToNat] at ho14;rw [←Ny5.out] at ho14));replace HO_5:=am_ (Kd.R_below (zr_ HO_5) hb);replace HO_6:=am_ (Kd.R_below (zr_ HO_6) hb);have HO7:=am_ (Kd.R_lower ho14 (below_size (zl0_ HB)));replace HB:=am_ (below_step (zl0_ HB) hb);clear hb ho14;have hcv15:=own_string (P:=Try.prog) Try.underlying33 Try.underlying5 Try.underlying9 (Kd.own_of_R HO7.out))|((with_reducible refine gate_dst (N:=10) rfl ?_);(try (refine gate_guard (by rfl) ?_;dsimp only));refine bx_ (N:=10) (cs:=#[.string (⟨#[]⟩:ByteArray), .string (⟨#[]⟩:ByteArray), .int .i64 0, .int .i64 0, .int .i64 0]) (t:=39) ?_;intro gb8 hg w16 hbox hb;replace HO_5:=am_ (Kd.R_below (Kd.R_elderB (zr_ HO_5) gb8 (Nat.le_of_eq hg.symm)) hb);replace HO_6:=am_ (Kd.R_below (zr_ HO_6) hb);replace HO7:=am_ (Kd.R_below (zr_ HO7) hb);have BK8:=am_ (hbox);have GW8:=am_ ((zg0_ HB hg:w.heap.size≤gb8));have GE8:=am_ ((zg0_ HB hg:w.heap.size≤gb8));replace HB:=am_ (below_step (zl0_ HB) hb);clear hb hbox hg;obtain ⟨hcz17_0,hcz17_1,hcz17_2,hcz17_3,hcz17_4⟩:=x5_ BK8;have hfz17_0:=blk_frozen BK8.out 0;have hfz17_1:=blk_frozen BK8.out 1;have hfz17_2:=blk_frozen BK8.out 2;have hfz17_3:=blk_frozen BK8.out 3;have hfz17_4:=blk_frozen BK8.out 4))
     repeat (go_quiet (first|((with_reducible refine gate_dst (N:=38) rfl ?_);(try (refine gate_guard (by rfl) ?_;dsimp only));refine Kd.R_lit (Kd.int .u8) _ 5 ?hg (N:=38) ?hd (xs:=([(wrap64 (97+(Int.tmod (wrap64 ((x5_1.length:Int)*7)) 24))) % 256]:List Int)) (inner:=[.int .u8 ((wrap64 (97+(Int.tmod (wrap64 ((x5_1.length:Int)*7)) 24))) % 256)]) (ok:=fun _=>True) (okp:=fun _=>True) ?hr ?hp (fun _ hk=>hk) trivial (Below.refl _ _) (Nat.le_refl _) (by simp) ?_;(case hd=>rfl);(case hg=>rfl);(case hr=>first|(go_simp;done)|(go_simp;rfl));(case hp=>exact (Reps.one (show Kd.M (Kd.int .u8) _ _ _ ((wrap64 (97+(Int.tmod (wrap64 ((x5_1.length:Int)*7)) 24))) % 256) [.int .u8 ((wrap64 (97+(Int.tmod (wrap64 ((x5_1.length:Int)*7)) 24))) % 256)] from rfl) (Reps.none _ _)));intro v6 w13 ho14 hb hg_ hnew_;clear hg_ hnew_;(first|rw [←Ny5.out] at ho14|(simp only [Int.reduceToNat] at ho14;rw [←Ny5.out] at ho14));replace HO_5:=am_ (Kd.R_below (zr_ HO_5) hb);replace HO_6:=am_ (Kd.R_below (zr_ HO_6) hb);have HO7:=am_ (Kd.R_lower ho14 (below_size (zl0_ HB)));replace HB:=am_ (below_step (zl0_ HB) hb);clear hb ho14;have hcv15:=own_string (P:=Try.prog) Try.underlying33 Try.underlying5 Try.underlying9 (Kd.own_of_R HO7.out))|((with_reducible refine gate_dst (N:=10) rfl ?_);(try (refine gate_guard (by rfl) ?_;dsimp only));refine bx_ (N:=10) (cs:=#[.string (⟨#[]⟩:ByteArray), .string (⟨#[]⟩:ByteArray), .int .i64 0, .int .i64 0, .int .i64 0]) (t:=39) ?_;intro gb8 hg w16 hbox hb;replace HO_5:=am_ (Kd.R_below (Kd.R_elderB (zr_ HO_5) gb8 (Nat.le_of_eq hg.symm)) hb);replace HO_6:=am_ (Kd.R_below (zr_ HO_6) hb);replace HO7:=am_ (Kd.R_below (zr_ HO7) hb);have BK8:=am_ (hbox);have GW8:=am_ ((zg0_ HB hg:w.heap.size≤gb8));have GE8:=am_ ((zg0_ HB hg:w.heap.size≤gb8));replace HB:=am_ (below_step (zl0_ HB) hb);clear hb hbox hg;obtain ⟨hcz17_0,hcz17_1,hcz17_2,hcz17_3,hcz17_4⟩:=x5_ BK8;have hfz17_0:=blk_frozen BK8.out 0;have hfz17_1:=blk_frozen BK8.out 1;have hfz17_2:=blk_frozen BK8.out 2;have hfz17_3:=blk_frozen BK8.out 3;have hfz17_4:=blk_frozen BK8.out 4));go_upto_region 9 with (first|((with_reducible refine gate_dst (N:=38) rfl ?_);(try (refine gate_guard (by rfl) ?_;dsimp only));refine Kd.R_lit (Kd.int .u8) _ 5 ?hg (N:=38) ?hd (xs:=([(wrap64 (97+(Int.tmod (wrap64 ((x5_1.length:Int)*7)) 24))) % 256]:List Int)) (inner:=[.int .u8 ((wrap64 (97+(Int.tmod (wrap64 ((x5_1.length:Int)*7)) 24))) % 256)]) (ok:=fun _=>True) (okp:=fun _=>True) ?hr ?hp (fun _ hk=>hk) trivial (Below.refl _ _) (Nat.le_refl _) (by simp) ?_;(case hd=>rfl);(case hg=>rfl);(case hr=>first|(go_simp;done)|(go_simp;rfl));(case hp=>exact (Reps.one (show Kd.M (Kd.int .u8) _ _ _ ((wrap64 (97+(Int.tmod (wrap64 ((x5_1.length:Int)*7)) 24))) % 256) [.int .u8 ((wrap64 (97+(Int.tmod (wrap64 ((x5_1.length:Int)*7)) 24))) % 256)] from rfl) (Reps.none _ _)));intro v6 w13 ho14 hb hg_ hnew_;clear hg_ hnew_;(first|rw [←Ny5.out] at ho14|(simp only [Int.reduceToNat] at ho14;rw [←Ny5.out] at ho14));replace HO_5:=am_ (Kd.R_below (zr_ HO_5) hb);replace HO_6:=am_ (Kd.R_below (zr_ HO_6) hb);have HO7:=am_ (Kd.R_lower ho14 (below_size (zl0_ HB)));replace HB:=am_ (below_step (zl0_ HB) hb);clear hb ho14;have hcv15:=own_string (P:=Try.prog) Try.underlying33 Try.underlying5 Try.underlying9 (Kd.own_of_R HO7.out))|((with_reducible refine gate_dst (N:=10) rfl ?_);(try (refine gate_guard (by rfl) ?_;dsimp only));refine bx_ (N:=10) (cs:=#[.string (⟨#[]⟩:ByteArray), .string (⟨#[]⟩:ByteArray), .int .i64 0, .int .i64 0, .int .i64 0]) (t:=39) ?_;intro gb8 hg w16 hbox hb;replace HO_5:=am_ (Kd.R_below (Kd.R_elderB (zr_ HO_5) gb8 (Nat.le_of_eq hg.symm)) hb);replace HO_6:=am_ (Kd.R_below (zr_ HO_6) hb);replace HO7:=am_ (Kd.R_below (zr_ HO7) hb);have BK8:=am_ (hbox);have GW8:=am_ ((zg0_ HB hg:w.heap.size≤gb8));have GE8:=am_ ((zg0_ HB hg:w.heap.size≤gb8));replace HB:=am_ (below_step (zl0_ HB) hb);clear hb hbox hg;obtain ⟨hcz17_0,hcz17_1,hcz17_2,hcz17_3,hcz17_4⟩:=x5_ BK8;have hfz17_0:=blk_frozen BK8.out 0;have hfz17_1:=blk_frozen BK8.out 1;have hfz17_2:=blk_frozen BK8.out 2;have hfz17_3:=blk_frozen BK8.out 3;have hfz17_4:=blk_frozen BK8.out 4)))
     (try simp only [Act.put,List.setIfInBounds_toArray,List.set_cons_zero,List.set_cons_succ])
     go_cut [48] (fun v48 wc=> ∃(kq:Nat) (x48_10:Bool),v48= .bool x48_10∧Aside0 (law11_Make.j2 kq l0 a1 x5_1 x6_1 x7_1 (x5_1.length:Int) (wrap64 (rd l0 x7_1)) 4096 x48_10 (strOfNums y5) (⟨#[]⟩:ByteArray) 4096 4096 4096=some r)∧Aside0 (kq≤kj4)∧Aside0 (Kd.R k39 39 wc w.heap.size (fun k_=>k_≠gb8) (.slice Ao12 x5_1.length co12) x5_1)∧Aside0 (Kd.R (Kd.int .i64) 3 wc w.heap.size (fun _=>True) u6 x6_1)∧Aside0 (wc.heap[gb8]?=some (.cells #[.string (strOfNums y5), .string (⟨#[]⟩:ByteArray), .int .i64 4096, .int .i64 4096, .int .i64 4096] 39 (0,0)))∧Aside0 (Below w.heap.size w wc))
     case first=>
      have H:=HC11.out
      clear HC11
      by_cases c18:(x5_1.length:Int)>0
      ·rw [if_pos c18] at H
       have c18b0:decide (0<(x5_1.length:Int))=true:=decide_eq_true c18
       have c18b1:decide (0<x5_1.length)=true:=decide_eq_true (by omega)
       clear c18
       (first|rw [c18b0]|(simp only [i64_w,i32_w];rw [c18b0])|skip)
       have H':=Aside0.mk H
       clear H
       go_wp2
       repeat (go_quiet (fail);try go_wp2)
       go_meet
       case rel=>exact ⟨_,(decide ((Int.tmod (wrap64 (rd l0 x7_1)) 3)>0)),(by first|rfl|(simp;done)|(simp [*];done)),H',⟨by have:=HK1.out;have:=HJ4.out;first|omega|exact Nat.le_refl _⟩,⟨by (with_reducible repeat (first|apply Kd.R_alloc|apply Kd.R_drewN|apply Kd.R_drew));exact Kd.R_mono (Kd.R_far (p:=⟨gb8,4,none⟩) (Kd.R_far (p:=⟨gb8,3,none⟩) (Kd.R_far (p:=⟨gb8,2,none⟩) (Kd.R_far (p:=⟨gb8,1,none⟩) (Kd.R_far (p:=⟨gb8,0,none⟩) (Kd.R_mono HO_5.out (fun k_ hk=>(⟨hk,hk.2⟩:_∧k_≠gb8))) (fun _ hk=>hk.2) (.string (strOfNums y5))) (fun _ hk=>hk.2) (.string (⟨#[]⟩:ByteArray))) (fun _ hk=>hk.2) (.int .i64 4096)) (fun _ hk=>hk.2) (.int .i64 4096)) (fun _ hk=>hk.2) (.int .i64 4096)) (fun _ hk=>hk.1.2)⟩,⟨zy_ HO_6 BK8⟩,⟨zw_ BK8⟩,⟨zl1_ HB GE8⟩⟩
      rw [if_neg c18] at H
      have c18b0:decide (0<(x5_1.length:Int))=false:=decide_eq_false c18
      have c18b1:decide (0<x5_1.length)=false:=decide_eq_false (by omega)
      clear c18
      (first|rw [c18b0]|(simp only [i64_w,i32_w];rw [c18b0])|skip)
      have H':=Aside0.mk H
      clear H
      go_wp2
      repeat (go_quiet (fail);try go_wp2)
      go_meet
      case rel=>exact ⟨_,(false),(by first|rfl|(simp;done)|(simp [*];done)),H',⟨by have:=HK1.out;have:=HJ4.out;first|omega|exact Nat.le_refl _⟩,⟨by (with_reducible repeat (first|apply Kd.R_alloc|apply Kd.R_drewN|apply Kd.R_drew));exact Kd.R_mono (Kd.R_far (p:=⟨gb8,4,none⟩) (Kd.R_far (p:=⟨gb8,3,none⟩) (Kd.R_far (p:=⟨gb8,2,none⟩) (Kd.R_far (p:=⟨gb8,1,none⟩) (Kd.R_far (p:=⟨gb8,0,none⟩) (Kd.R_mono HO_5.out (fun k_ hk=>(⟨hk,hk.2⟩:_∧k_≠gb8))) (fun _ hk=>hk.2) (.string (strOfNums y5))) (fun _ hk=>hk.2) (.string (⟨#[]⟩:ByteArray))) (fun _ hk=>hk.2) (.int .i64 4096)) (fun _ hk=>hk.2) (.int .i64 4096)) (fun _ hk=>hk.2) (.int .i64 4096)) (fun _ hk=>hk.1.2)⟩,⟨zy_ HO_6 BK8⟩,⟨zw_ BK8⟩,⟨zl1_ HB GE8⟩⟩
     case rest=>
      clear HC11
      try clear c1
      try clear hcv1
      try clear p2
      try clear c3
      try clear p4
      try clear q4
      try clear hx4
      try clear c6
      try clear c6b0
      try clear p6
      try clear c8
      try clear c9
      try clear c9b0
      try clear c10
      try clear c10b0
      try clear hcv15
      try clear c18
      try clear c18b0
      try clear c18b1
      try clear hcz17_0
      try clear hcz17_1
      try clear hcz17_2
      try clear hcz17_3
      try clear hcz17_4
      try clear hfz17_0
      try clear hfz17_1
      try clear hfz17_2
      try clear hfz17_3
      try clear hfz17_4
      try clear hx4_0
      try clear p2
      try clear p4
      try clear p6
      try clear q4
      obtain ⟨kq,x48_10,rfl,HA,HJ10,HO_5,HO_6,BK8,HB⟩:=hcut
      cases kq with
      |zero=>exact absurd HA.out (by simp [law11_Make.j2])
      |succ kj10=>
       have H:=HA.out
       clear HA
       simp only [law11_Make.j2] at H
       by_cases c19:x48_10=true
       rotate_left
       ·replace c19:=Bool.eq_false_iff.mpr c19
        subst c19
        have H1:(if a1=true then (if 0≤(wrap64 (x7_1+1)) then (if (wrap64 (x7_1+1))<(l0.length:Int) then (if (Int.tmod (rd l0 (wrap64 (x7_1+1))) 16)=0 then (if x5_1.length<2513169434916 then (if x6_1.length<17592186044416 then (law11_Make.l0 kj10 l0 a1 (x5_1++ [(⟨(strOfNums y5),(⟨#[]⟩:ByteArray),(⟨wrap64 ((wrap64 (4096*2))+1),wrap64 ((wrap64 (4096*2))+1),wrap64 ((wrap64 ((wrap64 (4096*2))+1)) - (wrap64 ((wrap64 (Int.tdiv (wrap64 ((wrap64 (4096*2))+1)) 3))*(wrap64 (Int.tmod (rd l0 (wrap64 (x7_1+1))) 2)))))⟩:S37)⟩:S39)]) (x6_1++ [wrap64 ((wrap64 ((wrap64 (4096*2))+1)) - (wrap64 (Int.tdiv (wrap64 ((wrap64 (4096*2))+1)) 3)))]) (wrap64 (x7_1+2))) else (none)) else (none)) else (if x5_1.length<2513169434916 then (if x6_1.length<17592186044416 then (law11_Make.l0 kj10 l0 a1 (x5_1++ [(⟨(strOfNums y5),(⟨#[]⟩:ByteArray),(⟨4096,4096,wrap64 (4096 - (wrap64 ((wrap64 (Int.tdiv 4096 3))*(wrap64 (Int.tmod (rd l0 (wrap64 (x7_1+1))) 2)))))⟩:S37)⟩:S39)]) (x6_1++ [wrap64 (4096 - (wrap64 (Int.tdiv 4096 3)))]) (wrap64 (x7_1+2))) else (none)) else (none))) else (none)) else (none)) else (if 0≤(wrap64 (x7_1+1)) then (if (wrap64 (x7_1+1))<(l0.length:Int) then (if x5_1.length<2513169434916 then (if x6_1.length<17592186044416 then (law11_Make.l0 kj10 l0 a1 (x5_1++ [(⟨(strOfNums y5),(⟨#[]⟩:ByteArray),(⟨4096,4096,wrap64 (4096 - (wrap64 ((wrap64 (Int.tdiv 4096 3))*(wrap64 (Int.tmod (rd l0 (wrap64 (x7_1+1))) 2)))))⟩:S37)⟩:S39)]) (x6_1++ [wrap64 (4096 - (wrap64 (Int.tdiv 4096 3)))]) (wrap64 (x7_1+2))) else (none)) else (none)) else (none)) else (none)))=some r:=by rw [if_neg (show¬(false=true) by decide)] at H;exact H
        clear H
        have H:=H1
        clear H1
        by_cases c64:a1=true
        rotate_left
        ·replace c64:=Bool.eq_false_iff.mpr c64
         subst c64
         have H1:(if 0≤(wrap64 (x7_1+1)) then (if (wrap64 (x7_1+1))<(l0.length:Int) then (if x5_1.length<2513169434916 then (if x6_1.length<17592186044416 then (law11_Make.l0 kj10 l0 false (x5_1++ [(⟨(strOfNums y5),(⟨#[]⟩:ByteArray),(⟨4096,4096,wrap64 (4096 - (wrap64 ((wrap64 (Int.tdiv 4096 3))*(wrap64 (Int.tmod (rd l0 (wrap64 (x7_1+1))) 2)))))⟩:S37)⟩:S39)]) (x6_1++ [wrap64 (4096 - (wrap64 (Int.tdiv 4096 3)))]) (wrap64 (x7_1+2))) else (none)) else (none)) else (none)) else (none))=some r:=by rw [if_neg (show¬(false=true) by decide)] at H;exact H
         clear H
         have H:=H1
         clear H1
         obtain ⟨ji79,hji79⟩: ∃j_:Int,(wrap64 (x7_1+1))=j_:=⟨_,rfl⟩
         replace H:(if 0≤(ji79) then (if (ji79)<(l0.length:Int) then (if x5_1.length<2513169434916 then (if x6_1.length<17592186044416 then (law11_Make.l0 kj10 l0 false (x5_1++ [(⟨(strOfNums y5),(⟨#[]⟩:ByteArray),(⟨4096,4096,wrap64 (4096 - (wrap64 ((wrap64 (Int.tdiv 4096 3))*(wrap64 (Int.tmod (rd l0 (ji79)) 2)))))⟩:S37)⟩:S39)]) (x6_1++ [wrap64 (4096 - (wrap64 (Int.tdiv 4096 3)))]) (wrap64 (x7_1+2))) else (none)) else (none)) else (none)) else (none))=some r:=by first|(rw [hji79] at H;exact H)|(simp only [hji79] at H ⊢;exact H)
         have hji79w:(IntKind.i64.wrap (x7_1+1))=ji79:=(i64_w _).trans hji79
         by_cases c80:0≤(ji79)
         rotate_left
         ·rw [if_neg c80] at H
          exact absurd H (by simp)
         rw [if_pos c80] at H
         have c80b0:decide (0≤(ji79))=true:=decide_eq_true c80
         clear c80
         by_cases c81:(ji79)<(l0.length:Int)
         rotate_left
         ·rw [if_neg c81] at H
          exact absurd H (by simp)
         rw [if_pos c81] at H
         have c81b0:decide ((ji79)<(l0.length:Int))=true:=decide_eq_true c81
         clear c81
         by_cases c82:x5_1.length<2513169434916
         rotate_left
         ·rw [if_neg c82] at H
          exact absurd H (by simp)
         rw [if_pos c82] at H
         have LMc82:=Aside0.mk c82
         clear c82
         simp only [lm_E1,lm_E2,lm_E3,lm_E4,lm_E5] at H
         obtain ⟨y51,hy51⟩: ∃y_:List (S39),y_=(x5_1++ [(⟨(strOfNums y5),(⟨#[]⟩:ByteArray),(⟨4096,4096,wrap64 (4096 - (wrap64 ((1365)*(wrap64 (Int.tmod (rd l0 (ji79)) 2)))))⟩:S37)⟩:S39)]):=⟨_,rfl⟩
         replace H:(if x6_1.length<17592186044416 then (law11_Make.l0 kj10 l0 false y51 (x6_1++ [2731]) (wrap64 (x7_1+2))) else (none))=some r:=by first|(rw [hy51];with_reducible exact H)|(have H2_:=(Option.bind_some _ _).symm.trans H;rw [hy51];with_reducible exact H2_)|(have H2_:=(Option.bind_some _ _).symm.trans H;with_reducible exact H2_)|with_reducible exact H|(rw [hy51];exact H)|exact H
         have Ny51:=Aside0.mk hy51
         clear hy51
         by_cases c83:x6_1.length<17592186044416
         rotate_left
         ·rw [if_neg c83] at H
          exact absurd H (by simp)
         rw [if_pos c83] at H
         have LMc83:=Aside0.mk c83
         clear c83
         obtain ⟨y54,hy54⟩: ∃y_:List Int,y_=(x6_1++ [2731]):=⟨_,rfl⟩
         replace H:(law11_Make.l0 kj10 l0 false y51 y54 (wrap64 (x7_1+2)))=some r:=by first|(rw [hy54];with_reducible exact H)|(have H2_:=(Option.bind_some _ _).symm.trans H;rw [hy54];with_reducible exact H2_)|(have H2_:=(Option.bind_some _ _).symm.trans H;with_reducible exact H2_)|with_reducible exact H|(rw [hy54];exact H)|exact H
         have Ny54:=Aside0.mk hy54
         clear hy54
         have H':=Aside0.mk H
         clear H
         have p50:0≤((ji79):Int):=of_decide_eq_true zq_
         have q50:(ji79)<(l0.length:Int):=of_decide_eq_true zq_
         obtain ⟨ad50,e50,hx50_0⟩:=Kd.at_int HR0.out (ji79) p50 q50
         obtain rfl:ad4=ad50:=(by injection e50)
         replace hx50_0:=zx_ HB hx50_0
         replace p50:=eq_true p50
         replace q50:=eq_true q50
         obtain ⟨hcz84_0,hcz84_1,hcz84_2,hcz84_3,hcz84_4,hfz84_0,hfz84_1,hfz84_2,hfz84_3,hfz84_4⟩:=y5_ BK8
         go_wp2_with (first|((with_reducible refine gate_builtin (b:= .append) (xs:=#[.tmp 102, .tmp 104]) rfl ?_);(try (refine gate_guard (by rfl) ?_;dsimp only));at_builtin;refine Kd.R_append k39 (w0:=w) w.heap.size rfl (.tmp 102) (.tmp 104) 22 39 (.agg #[(.string ⟨#[]⟩),(.string ⟨#[]⟩),(.int .i64 0),(.int .i64 0),(.int .i64 0)]) 56 rfl Try.underlying22 info39 rfl (by decide) (by omega) (.slice Ao12 x5_1.length co12) x5_1 (⟨(strOfNums y5),(⟨#[]⟩:ByteArray),(⟨4096,4096,wrap64 (4096 - (wrap64 ((1365)*(wrap64 (Int.tmod (rd l0 (ji79)) 2)))))⟩:S37)⟩:S39) [.string (strOfNums y5), .string (⟨#[]⟩:ByteArray), .int .i64 4096, .int .i64 4096, .int .i64 (wrap64 (4096 - (wrap64 ((1365)*(wrap64 (Int.tmod (rd l0 (ji79)) 2))))))] (fun k_=>k_≠gb8) (fun _=>False) rfl (by first|(go_simp;done)|(go_simp;rfl)) ?aP (fun _ hk=>hk.elim) ?aF ?aO ?aB ?aS ?aL ?_;(case aP=>exact k39_mkM _ _ _ (⟨(strOfNums y5),(⟨#[]⟩:ByteArray),(⟨4096,4096,wrap64 (4096 - (wrap64 ((1365)*(wrap64 (Int.tmod (rd l0 (ji79)) 2)))))⟩:S37)⟩:S39));(case aB=>exact (zl1_ HB GE8));(case aF=>exact (fun k_ hk=>Kd.freshB (g:=gb8) (o:= .cells #[.string (strOfNums y5), .string (⟨#[]⟩:ByteArray), .int .i64 4096, .int .i64 4096, .int .i64 (wrap64 (4096 - (wrap64 ((1365)*(wrap64 (Int.tmod (rd l0 (ji79)) 2))))))] 39 (0,0)) (zw_ BK8) k_ hk));(case aO=>exact (by refine zt_ ?_;exact Kd.R_mono (Kd.R_far (p:=⟨gb8,4,none⟩) (Kd.R_far (p:=⟨gb8,3,none⟩) (Kd.R_far (p:=⟨gb8,2,none⟩) (Kd.R_mono HO_5.out (fun k_ hk=>(⟨hk,hk⟩:_∧k_≠gb8))) (fun _ hk=>hk.2) (.int .i64 4096)) (fun _ hk=>hk.2) (.int .i64 4096)) (fun _ hk=>hk.2) (.int .i64 (wrap64 (4096 - (wrap64 ((1365)*(wrap64 (Int.tmod (rd l0 (ji79)) 2)))))))) (fun _ hk=>hk.1)));(case aS=>exact (below_size (zl1_ HB GE8)));(case aL=>have:=LMc82.out;omega);intro v52 w85 ho hb hg hat;rw [←Ny51.out] at ho;have n0_:=am_ (Kd.R_over' (by refine zt_ ?_;exact (Kd.R_mono (Kd.R_far (p:=⟨gb8,4,none⟩) (Kd.R_far (p:=⟨gb8,3,none⟩) (Kd.R_far (p:=⟨gb8,2,none⟩) (Kd.R_types HO_6.out BK8.out (by decide)) (fun _ hk=>hk.2) (.int .i64 4096)) (fun _ hk=>hk.2) (.int .i64 4096)) (fun _ hk=>hk.2) (.int .i64 (wrap64 (4096 - (wrap64 ((1365)*(wrap64 (Int.tmod (rd l0 (ji79)) 2)))))))) (fun _ h_=>h_.1))) (Kd.R_typed (by refine zt_ ?_;exact (Kd.R_mono (Kd.R_far (p:=⟨gb8,4,none⟩) (Kd.R_far (p:=⟨gb8,3,none⟩) (Kd.R_far (p:=⟨gb8,2,none⟩) (Kd.R_mono HO_5.out (fun k_ hk=>(⟨hk,hk⟩:_∧k_≠gb8))) (fun _ hk=>hk.2) (.int .i64 4096)) (fun _ hk=>hk.2) (.int .i64 4096)) (fun _ hk=>hk.2) (.int .i64 (wrap64 (4096 - (wrap64 ((1365)*(wrap64 (Int.tmod (rd l0 (ji79)) 2)))))))) (fun _ h_=>h_.1)))) (by decide) hg);have n1_:=am_ (blk_grown (g:=gb8) (o:= .cells #[.string (strOfNums y5), .string (⟨#[]⟩:ByteArray), .int .i64 4096, .int .i64 4096, .int .i64 (wrap64 (4096 - (wrap64 ((1365)*(wrap64 (Int.tmod (rd l0 (ji79)) 2))))))] 39 (0,0)) (zw_ BK8) hg (Kd.R_away HO_5.out (fun _ hk=>hk)));have n2_:=am_ (hb);have n3_:=am_ (ho);clear HO_6;clear BK8;clear HB;clear HO_5;have HO_6:=n0_;have BK8:=n1_;have HB:=n2_;have HO53:=n3_;clear n0_ n1_ n2_ n3_;clear ho hb hg hat)|((with_reducible refine gate_builtin (b:= .append) (xs:=#[.tmp 106, .tmp 111]) rfl ?_);(try (refine gate_guard (by rfl) ?_;dsimp only));at_builtin;refine Kd.R_append (Kd.int .i64) (w0:=w) w.heap.size rfl (.tmp 106) (.tmp 111) 122 3 (.int .i64 0) 8 rfl Try.underlying122 info3 rfl (by decide) (by omega) u6 x6_1 (2731) [.int .i64 (2731)] (fun _=>True) (fun _=>False) rfl rfl ?aP (fun _ hk=>hk.elim) ?aF ?aO ?aB ?aS ?aL ?_;(case aP=>exact rfl);(case aB=>exact (zl1_ HB GE8));(case aF=>exact (fun _ _=>trivial));(case aO=>exact (zr_ HO_6));(case aS=>exact (below_size (zl1_ HB GE8)));(case aL=>have:=LMc83.out;omega);intro v55 w86 ho hb hg hat;rw [←Ny54.out] at ho;have n0_:=am_ (blk_grown (g:=gb8) (o:= .cells #[.string (strOfNums y5), .string (⟨#[]⟩:ByteArray), .int .i64 4096, .int .i64 4096, .int .i64 (wrap64 (4096 - (wrap64 ((1365)*(wrap64 (Int.tmod (rd l0 (ji79)) 2))))))] 39 (0,0)) (zb_ BK8) hg (Kd.R_ne HO_6.out BK8.out (by decide)));have n1_:=am_ (Kd.R_over' (zr_ HO53) (Kd.R_typed (zr_ HO_6)) (by decide) hg);have n2_:=am_ (hb);have n3_:=am_ (ho);clear BK8;clear HO53;clear HB;clear HO_6;have BK8:=n0_;have HO53:=n1_;have HB:=n2_;have HO56:=n3_;clear n0_ n1_ n2_ n3_;clear ho hb hg hat))
         repeat (go_quiet (first|((with_reducible refine gate_builtin (b:= .append) (xs:=#[.tmp 102, .tmp 104]) rfl ?_);(try (refine gate_guard (by rfl) ?_;dsimp only));at_builtin;refine Kd.R_append k39 (w0:=w) w.heap.size rfl (.tmp 102) (.tmp 104) 22 39 (.agg #[(.string ⟨#[]⟩),(.string ⟨#[]⟩),(.int .i64 0),(.int .i64 0),(.int .i64 0)]) 56 rfl Try.underlying22 info39 rfl (by decide) (by omega) (.slice Ao12 x5_1.length co12) x5_1 (⟨(strOfNums y5),(⟨#[]⟩:ByteArray),(⟨4096,4096,wrap64 (4096 - (wrap64 ((1365)*(wrap64 (Int.tmod (rd l0 (ji79)) 2)))))⟩:S37)⟩:S39) [.string (strOfNums y5), .string (⟨#[]⟩:ByteArray), .int .i64 4096, .int .i64 4096, .int .i64 (wrap64 (4096 - (wrap64 ((1365)*(wrap64 (Int.tmod (rd l0 (ji79)) 2))))))] (fun k_=>k_≠gb8) (fun _=>False) rfl (by first|(go_simp;done)|(go_simp;rfl)) ?aP (fun _ hk=>hk.elim) ?aF ?aO ?aB ?aS ?aL ?_;(case aP=>exact k39_mkM _ _ _ (⟨(strOfNums y5),(⟨#[]⟩:ByteArray),(⟨4096,4096,wrap64 (4096 - (wrap64 ((1365)*(wrap64 (Int.tmod (rd l0 (ji79)) 2)))))⟩:S37)⟩:S39));(case aB=>exact (zl1_ HB GE8));(case aF=>exact (fun k_ hk=>Kd.freshB (g:=gb8) (o:= .cells #[.string (strOfNums y5), .string (⟨#[]⟩:ByteArray), .int .i64 4096, .int .i64 4096, .int .i64 (wrap64 (4096 - (wrap64 ((1365)*(wrap64 (Int.tmod (rd l0 (ji79)) 2))))))] 39 (0,0)) (zw_ BK8) k_ hk));(case aO=>exact (by refine zt_ ?_;exact Kd.R_mono (Kd.R_far (p:=⟨gb8,4,none⟩) (Kd.R_far (p:=⟨gb8,3,none⟩) (Kd.R_far (p:=⟨gb8,2,none⟩) (Kd.R_mono HO_5.out (fun k_ hk=>(⟨hk,hk⟩:_∧k_≠gb8))) (fun _ hk=>hk.2) (.int .i64 4096)) (fun _ hk=>hk.2) (.int .i64 4096)) (fun _ hk=>hk.2) (.int .i64 (wrap64 (4096 - (wrap64 ((1365)*(wrap64 (Int.tmod (rd l0 (ji79)) 2)))))))) (fun _ hk=>hk.1)));(case aS=>exact (below_size (zl1_ HB GE8)));(case aL=>have:=LMc82.out;omega);intro v52 w85 ho hb hg hat;rw [←Ny51.out] at ho;have n0_:=am_ (Kd.R_over' (by refine zt_ ?_;exact (Kd.R_mono (Kd.R_far (p:=⟨gb8,4,none⟩) (Kd.R_far (p:=⟨gb8,3,none⟩) (Kd.R_far (p:=⟨gb8,2,none⟩) (Kd.R_types HO_6.out BK8.out (by decide)) (fun _ hk=>hk.2) (.int .i64 4096)) (fun _ hk=>hk.2) (.int .i64 4096)) (fun _ hk=>hk.2) (.int .i64 (wrap64 (4096 - (wrap64 ((1365)*(wrap64 (Int.tmod (rd l0 (ji79)) 2)))))))) (fun _ h_=>h_.1))) (Kd.R_typed (by refine zt_ ?_;exact (Kd.R_mono (Kd.R_far (p:=⟨gb8,4,none⟩) (Kd.R_far (p:=⟨gb8,3,none⟩) (Kd.R_far (p:=⟨gb8,2,none⟩) (Kd.R_mono HO_5.out (fun k_ hk=>(⟨hk,hk⟩:_∧k_≠gb8))) (fun _ hk=>hk.2) (.int .i64 4096)) (fun _ hk=>hk.2) (.int .i64 4096)) (fun _ hk=>hk.2) (.int .i64 (wrap64 (4096 - (wrap64 ((1365)*(wrap64 (Int.tmod (rd l0 (ji79)) 2)))))))) (fun _ h_=>h_.1)))) (by decide) hg);have n1_:=am_ (blk_grown (g:=gb8) (o:= .cells #[.string (strOfNums y5), .string (⟨#[]⟩:ByteArray), .int .i64 4096, .int .i64 4096, .int .i64 (wrap64 (4096 - (wrap64 ((1365)*(wrap64 (Int.tmod (rd l0 (ji79)) 2))))))] 39 (0,0)) (zw_ BK8) hg (Kd.R_away HO_5.out (fun _ hk=>hk)));have n2_:=am_ (hb);have n3_:=am_ (ho);clear HO_6;clear BK8;clear HB;clear HO_5;have HO_6:=n0_;have BK8:=n1_;have HB:=n2_;have HO53:=n3_;clear n0_ n1_ n2_ n3_;clear ho hb hg hat)|((with_reducible refine gate_builtin (b:= .append) (xs:=#[.tmp 106, .tmp 111]) rfl ?_);(try (refine gate_guard (by rfl) ?_;dsimp only));at_builtin;refine Kd.R_append (Kd.int .i64) (w0:=w) w.heap.size rfl (.tmp 106) (.tmp 111) 122 3 (.int .i64 0) 8 rfl Try.underlying122 info3 rfl (by decide) (by omega) u6 x6_1 (2731) [.int .i64 (2731)] (fun _=>True) (fun _=>False) rfl rfl ?aP (fun _ hk=>hk.elim) ?aF ?aO ?aB ?aS ?aL ?_;(case aP=>exact rfl);(case aB=>exact (zl1_ HB GE8));(case aF=>exact (fun _ _=>trivial));(case aO=>exact (zr_ HO_6));(case aS=>exact (below_size (zl1_ HB GE8)));(case aL=>have:=LMc83.out;omega);intro v55 w86 ho hb hg hat;rw [←Ny54.out] at ho;have n0_:=am_ (blk_grown (g:=gb8) (o:= .cells #[.string (strOfNums y5), .string (⟨#[]⟩:ByteArray), .int .i64 4096, .int .i64 4096, .int .i64 (wrap64 (4096 - (wrap64 ((1365)*(wrap64 (Int.tmod (rd l0 (ji79)) 2))))))] 39 (0,0)) (zb_ BK8) hg (Kd.R_ne HO_6.out BK8.out (by decide)));have n1_:=am_ (Kd.R_over' (zr_ HO53) (Kd.R_typed (zr_ HO_6)) (by decide) hg);have n2_:=am_ (hb);have n3_:=am_ (ho);clear BK8;clear HO53;clear HB;clear HO_6;have BK8:=n0_;have HO53:=n1_;have HB:=n2_;have HO56:=n3_;clear n0_ n1_ n2_ n3_;clear ho hb hg hat));try go_wp2_with (first|((with_reducible refine gate_builtin (b:= .append) (xs:=#[.tmp 102, .tmp 104]) rfl ?_);(try (refine gate_guard (by rfl) ?_;dsimp only));at_builtin;refine Kd.R_append k39 (w0:=w) w.heap.size rfl (.tmp 102) (.tmp 104) 22 39 (.agg #[(.string ⟨#[]⟩),(.string ⟨#[]⟩),(.int .i64 0),(.int .i64 0),(.int .i64 0)]) 56 rfl Try.underlying22 info39 rfl (by decide) (by omega) (.slice Ao12 x5_1.length co12) x5_1 (⟨(strOfNums y5),(⟨#[]⟩:ByteArray),(⟨4096,4096,wrap64 (4096 - (wrap64 ((1365)*(wrap64 (Int.tmod (rd l0 (ji79)) 2)))))⟩:S37)⟩:S39) [.string (strOfNums y5), .string (⟨#[]⟩:ByteArray), .int .i64 4096, .int .i64 4096, .int .i64 (wrap64 (4096 - (wrap64 ((1365)*(wrap64 (Int.tmod (rd l0 (ji79)) 2))))))] (fun k_=>k_≠gb8) (fun _=>False) rfl (by first|(go_simp;done)|(go_simp;rfl)) ?aP (fun _ hk=>hk.elim) ?aF ?aO ?aB ?aS ?aL ?_;(case aP=>exact k39_mkM _ _ _ (⟨(strOfNums y5),(⟨#[]⟩:ByteArray),(⟨4096,4096,wrap64 (4096 - (wrap64 ((1365)*(wrap64 (Int.tmod (rd l0 (ji79)) 2)))))⟩:S37)⟩:S39));(case aB=>exact (zl1_ HB GE8));(case aF=>exact (fun k_ hk=>Kd.freshB (g:=gb8) (o:= .cells #[.string (strOfNums y5), .string (⟨#[]⟩:ByteArray), .int .i64 4096, .int .i64 4096, .int .i64 (wrap64 (4096 - (wrap64 ((1365)*(wrap64 (Int.tmod (rd l0 (ji79)) 2))))))] 39 (0,0)) (zw_ BK8) k_ hk));(case aO=>exact (by refine zt_ ?_;exact Kd.R_mono (Kd.R_far (p:=⟨gb8,4,none⟩) (Kd.R_far (p:=⟨gb8,3,none⟩) (Kd.R_far (p:=⟨gb8,2,none⟩) (Kd.R_mono HO_5.out (fun k_ hk=>(⟨hk,hk⟩:_∧k_≠gb8))) (fun _ hk=>hk.2) (.int .i64 4096)) (fun _ hk=>hk.2) (.int .i64 4096)) (fun _ hk=>hk.2) (.int .i64 (wrap64 (4096 - (wrap64 ((1365)*(wrap64 (Int.tmod (rd l0 (ji79)) 2)))))))) (fun _ hk=>hk.1)));(case aS=>exact (below_size (zl1_ HB GE8)));(case aL=>have:=LMc82.out;omega);intro v52 w85 ho hb hg hat;rw [←Ny51.out] at ho;have n0_:=am_ (Kd.R_over' (by refine zt_ ?_;exact (Kd.R_mono (Kd.R_far (p:=⟨gb8,4,none⟩) (Kd.R_far (p:=⟨gb8,3,none⟩) (Kd.R_far (p:=⟨gb8,2,none⟩) (Kd.R_types HO_6.out BK8.out (by decide)) (fun _ hk=>hk.2) (.int .i64 4096)) (fun _ hk=>hk.2) (.int .i64 4096)) (fun _ hk=>hk.2) (.int .i64 (wrap64 (4096 - (wrap64 ((1365)*(wrap64 (Int.tmod (rd l0 (ji79)) 2)))))))) (fun _ h_=>h_.1))) (Kd.R_typed (by refine zt_ ?_;exact (Kd.R_mono (Kd.R_far (p:=⟨gb8,4,none⟩) (Kd.R_far (p:=⟨gb8,3,none⟩) (Kd.R_far (p:=⟨gb8,2,none⟩) (Kd.R_mono HO_5.out (fun k_ hk=>(⟨hk,hk⟩:_∧k_≠gb8))) (fun _ hk=>hk.2) (.int .i64 4096)) (fun _ hk=>hk.2) (.int .i64 4096)) (fun _ hk=>hk.2) (.int .i64 (wrap64 (4096 - (wrap64 ((1365)*(wrap64 (Int.tmod (rd l0 (ji79)) 2)))))))) (fun _ h_=>h_.1)))) (by decide) hg);have n1_:=am_ (blk_grown (g:=gb8) (o:= .cells #[.string (strOfNums y5), .string (⟨#[]⟩:ByteArray), .int .i64 4096, .int .i64 4096, .int .i64 (wrap64 (4096 - (wrap64 ((1365)*(wrap64 (Int.tmod (rd l0 (ji79)) 2))))))] 39 (0,0)) (zw_ BK8) hg (Kd.R_away HO_5.out (fun _ hk=>hk)));have n2_:=am_ (hb);have n3_:=am_ (ho);clear HO_6;clear BK8;clear HB;clear HO_5;have HO_6:=n0_;have BK8:=n1_;have HB:=n2_;have HO53:=n3_;clear n0_ n1_ n2_ n3_;clear ho hb hg hat)|((with_reducible refine gate_builtin (b:= .append) (xs:=#[.tmp 106, .tmp 111]) rfl ?_);(try (refine gate_guard (by rfl) ?_;dsimp only));at_builtin;refine Kd.R_append (Kd.int .i64) (w0:=w) w.heap.size rfl (.tmp 106) (.tmp 111) 122 3 (.int .i64 0) 8 rfl Try.underlying122 info3 rfl (by decide) (by omega) u6 x6_1 (2731) [.int .i64 (2731)] (fun _=>True) (fun _=>False) rfl rfl ?aP (fun _ hk=>hk.elim) ?aF ?aO ?aB ?aS ?aL ?_;(case aP=>exact rfl);(case aB=>exact (zl1_ HB GE8));(case aF=>exact (fun _ _=>trivial));(case aO=>exact (zr_ HO_6));(case aS=>exact (below_size (zl1_ HB GE8)));(case aL=>have:=LMc83.out;omega);intro v55 w86 ho hb hg hat;rw [←Ny54.out] at ho;have n0_:=am_ (blk_grown (g:=gb8) (o:= .cells #[.string (strOfNums y5), .string (⟨#[]⟩:ByteArray), .int .i64 4096, .int .i64 4096, .int .i64 (wrap64 (4096 - (wrap64 ((1365)*(wrap64 (Int.tmod (rd l0 (ji79)) 2))))))] 39 (0,0)) (zb_ BK8) hg (Kd.R_ne HO_6.out BK8.out (by decide)));have n1_:=am_ (Kd.R_over' (zr_ HO53) (Kd.R_typed (zr_ HO_6)) (by decide) hg);have n2_:=am_ (hb);have n3_:=am_ (ho);clear BK8;clear HO53;clear HB;clear HO_6;have BK8:=n0_;have HO53:=n1_;have HB:=n2_;have HO56:=n3_;clear n0_ n1_ n2_ n3_;clear ho hb hg hat)))
         go_roundg kj10
         case measure=>have:=HK1.out;have:=HJ4.out;have:=HJ10.out;omega
         case rel=>exact ⟨(y51),(y54),(wrap64 (x7_1+2)),(by first|rfl|(simp;done)|(simp [*];done)),H',⟨by have:=HK1.out;have:=HJ4.out;have:=HJ10.out;omega⟩,⟨by (with_reducible repeat (first|apply Kd.R_alloc|apply Kd.R_drewN|apply Kd.R_drew));exact Kd.R_mono HO53.out (fun _ hk=>trivial)⟩,⟨by (with_reducible repeat (first|apply Kd.R_alloc|apply Kd.R_drewN|apply Kd.R_drew));exact HO56.out⟩,⟨zl1_ HB GE8⟩⟩
        subst c64
        have H1:(if 0≤(wrap64 (x7_1+1)) then (if (wrap64 (x7_1+1))<(l0.length:Int) then (if (Int.tmod (rd l0 (wrap64 (x7_1+1))) 16)=0 then (if x5_1.length<2513169434916 then (if x6_1.length<17592186044416 then (law11_Make.l0 kj10 l0 true (x5_1++ [(⟨(strOfNums y5),(⟨#[]⟩:ByteArray),(⟨wrap64 ((wrap64 (4096*2))+1),wrap64 ((wrap64 (4096*2))+1),wrap64 ((wrap64 ((wrap64 (4096*2))+1)) - (wrap64 ((wrap64 (Int.tdiv (wrap64 ((wrap64 (4096*2))+1)) 3))*(wrap64 (Int.tmod (rd l0 (wrap64 (x7_1+1))) 2)))))⟩:S37)⟩:S39)]) (x6_1++ [wrap64 ((wrap64 ((wrap64 (4096*2))+1)) - (wrap64 (Int.tdiv (wrap64 ((wrap64 (4096*2))+1)) 3)))]) (wrap64 (x7_1+2))) else (none)) else (none)) else (if x5_1.length<2513169434916 then (if x6_1.length<17592186044416 then (law11_Make.l0 kj10 l0 true (x5_1++ [(⟨(strOfNums y5),(⟨#[]⟩:ByteArray),(⟨4096,4096,wrap64 (4096 - (wrap64 ((wrap64 (Int.tdiv 4096 3))*(wrap64 (Int.tmod (rd l0 (wrap64 (x7_1+1))) 2)))))⟩:S37)⟩:S39)]) (x6_1++ [wrap64 (4096 - (wrap64 (Int.tdiv 4096 3)))]) (wrap64 (x7_1+2))) else (none)) else (none))) else (none)) else (none))=some r:=by rw [if_pos rfl] at H;exact H
        clear H
        have H:=H1
        clear H1
        obtain ⟨ji65,hji65⟩: ∃j_:Int,(wrap64 (x7_1+1))=j_:=⟨_,rfl⟩
        replace H:(if 0≤(ji65) then (if (ji65)<(l0.length:Int) then (if (Int.tmod (rd l0 (ji65)) 16)=0 then (if x5_1.length<2513169434916 then (if x6_1.length<17592186044416 then (law11_Make.l0 kj10 l0 true (x5_1++ [(⟨(strOfNums y5),(⟨#[]⟩:ByteArray),(⟨wrap64 ((wrap64 (4096*2))+1),wrap64 ((wrap64 (4096*2))+1),wrap64 ((wrap64 ((wrap64 (4096*2))+1)) - (wrap64 ((wrap64 (Int.tdiv (wrap64 ((wrap64 (4096*2))+1)) 3))*(wrap64 (Int.tmod (rd l0 (ji65)) 2)))))⟩:S37)⟩:S39)]) (x6_1++ [wrap64 ((wrap64 ((wrap64 (4096*2))+1)) - (wrap64 (Int.tdiv (wrap64 ((wrap64 (4096*2))+1)) 3)))]) (wrap64 (x7_1+2))) else (none)) else (none)) else (if x5_1.length<2513169434916 then (if x6_1.length<17592186044416 then (law11_Make.l0 kj10 l0 true (x5_1++ [(⟨(strOfNums y5),(⟨#[]⟩:ByteArray),(⟨4096,4096,wrap64 (4096 - (wrap64 ((wrap64 (Int.tdiv 4096 3))*(wrap64 (Int.tmod (rd l0 (ji65)) 2)))))⟩:S37)⟩:S39)]) (x6_1++ [wrap64 (4096 - (wrap64 (Int.tdiv 4096 3)))]) (wrap64 (x7_1+2))) else (none)) else (none))) else (none)) else (none))=some r:=by first|(rw [hji65] at H;exact H)|(simp only [hji65] at H ⊢;exact H)
        have hji65w:(IntKind.i64.wrap (x7_1+1))=ji65:=(i64_w _).trans hji65
        by_cases c66:0≤(ji65)
        rotate_left
        ·rw [if_neg c66] at H
         exact absurd H (by simp)
        rw [if_pos c66] at H
        have c66b0:decide (0≤(ji65))=true:=decide_eq_true c66
        clear c66
        by_cases c67:(ji65)<(l0.length:Int)
        rotate_left
        ·rw [if_neg c67] at H
         exact absurd H (by simp)
        rw [if_pos c67] at H
        have c67b0:decide ((ji65)<(l0.length:Int))=true:=decide_eq_true c67
        clear c67
        by_cases c68:(Int.tmod (rd l0 (ji65)) 16)=0
        ·rw [if_pos c68] at H
         have c68b0:((Int.tmod (rd l0 (ji65)) 16)==0)=true:=beq_iff_eq.mpr c68
         have c68b1:((Int.tmod (rd l0 (ji65)) 16) !=0)=false:=bne_eq_false_iff_eq.mpr c68
         clear c68
         by_cases c69:x5_1.length<2513169434916
         rotate_left
         ·rw [if_neg c69] at H
          exact absurd H (by simp)
         rw [if_pos c69] at H
         have LMc69:=Aside0.mk c69
         clear c69
         simp only [lm_E1,lm_E2,lm_E3,lm_E4,lm_E5] at H
         obtain ⟨y37,hy37⟩: ∃y_:List (S39),y_=(x5_1++ [(⟨(strOfNums y5),(⟨#[]⟩:ByteArray),(⟨8193,8193,wrap64 ((8193) - (wrap64 ((2731)*(wrap64 (Int.tmod (rd l0 (ji65)) 2)))))⟩:S37)⟩:S39)]):=⟨_,rfl⟩
         replace H:(if x6_1.length<17592186044416 then (law11_Make.l0 kj10 l0 true y37 (x6_1++ [5462]) (wrap64 (x7_1+2))) else (none))=some r:=by first|(rw [hy37];with_reducible exact H)|(have H2_:=(Option.bind_some _ _).symm.trans H;rw [hy37];with_reducible exact H2_)|(have H2_:=(Option.bind_some _ _).symm.trans H;with_reducible exact H2_)|with_reducible exact H|(rw [hy37];exact H)|exact H
         have Ny37:=Aside0.mk hy37
         clear hy37
         by_cases c70:x6_1.length<17592186044416
         rotate_left
         ·rw [if_neg c70] at H
          exact absurd H (by simp)
         rw [if_pos c70] at H
         have LMc70:=Aside0.mk c70
         clear c70
         obtain ⟨y40,hy40⟩: ∃y_:List Int,y_=(x6_1++ [5462]):=⟨_,rfl⟩
         replace H:(law11_Make.l0 kj10 l0 true y37 y40 (wrap64 (x7_1+2)))=some r:=by first|(rw [hy40];with_reducible exact H)|(have H2_:=(Option.bind_some _ _).symm.trans H;rw [hy40];with_reducible exact H2_)|(have H2_:=(Option.bind_some _ _).symm.trans H;with_reducible exact H2_)|with_reducible exact H|(rw [hy40];exact H)|exact H
         have Ny40:=Aside0.mk hy40
         clear hy40
         have H':=Aside0.mk H
         clear H
         have p35:0≤((ji65):Int):=of_decide_eq_true zq_
         have q35:(ji65)<(l0.length:Int):=of_decide_eq_true zq_
         obtain ⟨ad35,e35,hx35_0⟩:=Kd.at_int HR0.out (ji65) p35 q35
         obtain rfl:ad4=ad35:=(by injection e35)
         replace hx35_0:=zx_ HB hx35_0
         replace p35:=eq_true p35
         replace q35:=eq_true q35
         have p36:0≤((ji65):Int):=of_decide_eq_true zq_
         have q36:(ji65)<(l0.length:Int):=of_decide_eq_true zq_
         obtain ⟨ad36,e36,hx36_0⟩:=Kd.at_int HR0.out (ji65) p36 q36
         obtain rfl:ad4=ad36:=(by injection e36)
         replace hx36_0:=zx_ HB hx36_0
         replace p36:=eq_true p36
         replace q36:=eq_true q36
         obtain ⟨hcz71_0,hcz71_1,hcz71_2,hcz71_3,hcz71_4,hfz71_0,hfz71_1,hfz71_2,hfz71_3,hfz71_4⟩:=y5_ BK8
         go_wp2_with (first|((with_reducible refine gate_builtin (b:= .append) (xs:=#[.tmp 102, .tmp 104]) rfl ?_);(try (refine gate_guard (by rfl) ?_;dsimp only));at_builtin;refine Kd.R_append k39 (w0:=w) w.heap.size rfl (.tmp 102) (.tmp 104) 22 39 (.agg #[(.string ⟨#[]⟩),(.string ⟨#[]⟩),(.int .i64 0),(.int .i64 0),(.int .i64 0)]) 56 rfl Try.underlying22 info39 rfl (by decide) (by omega) (.slice Ao12 x5_1.length co12) x5_1 (⟨(strOfNums y5),(⟨#[]⟩:ByteArray),(⟨8193,8193,wrap64 ((8193) - (wrap64 ((2731)*(wrap64 (Int.tmod (rd l0 (ji65)) 2)))))⟩:S37)⟩:S39) [.string (strOfNums y5), .string (⟨#[]⟩:ByteArray), .int .i64 (8193), .int .i64 (8193), .int .i64 (wrap64 ((8193) - (wrap64 ((2731)*(wrap64 (Int.tmod (rd l0 (ji65)) 2))))))] (fun k_=>k_≠gb8) (fun _=>False) rfl (by first|(go_simp;done)|(go_simp;rfl)) ?aP (fun _ hk=>hk.elim) ?aF ?aO ?aB ?aS ?aL ?_;(case aP=>exact k39_mkM _ _ _ (⟨(strOfNums y5),(⟨#[]⟩:ByteArray),(⟨8193,8193,wrap64 ((8193) - (wrap64 ((2731)*(wrap64 (Int.tmod (rd l0 (ji65)) 2)))))⟩:S37)⟩:S39));(case aB=>exact (zl1_ HB GE8));(case aF=>exact (fun k_ hk=>Kd.freshB (g:=gb8) (o:= .cells #[.string (strOfNums y5), .string (⟨#[]⟩:ByteArray), .int .i64 (8193), .int .i64 (8193), .int .i64 (wrap64 ((8193) - (wrap64 ((2731)*(wrap64 (Int.tmod (rd l0 (ji65)) 2))))))] 39 (0,0)) (zw_ BK8) k_ hk));(case aO=>exact (by refine zt_ ?_;exact Kd.R_mono (Kd.R_far (p:=⟨gb8,4,none⟩) (Kd.R_far (p:=⟨gb8,3,none⟩) (Kd.R_far (p:=⟨gb8,2,none⟩) (Kd.R_mono HO_5.out (fun k_ hk=>(⟨hk,hk⟩:_∧k_≠gb8))) (fun _ hk=>hk.2) (.int .i64 (8193))) (fun _ hk=>hk.2) (.int .i64 (8193))) (fun _ hk=>hk.2) (.int .i64 (wrap64 ((8193) - (wrap64 ((2731)*(wrap64 (Int.tmod (rd l0 (ji65)) 2)))))))) (fun _ hk=>hk.1)));(case aS=>exact (below_size (zl1_ HB GE8)));(case aL=>have:=LMc69.out;omega);intro v38 w72 ho hb hg hat;rw [←Ny37.out] at ho;have n0_:=am_ (Kd.R_over' (by refine zt_ ?_;exact (Kd.R_mono (Kd.R_far (p:=⟨gb8,4,none⟩) (Kd.R_far (p:=⟨gb8,3,none⟩) (Kd.R_far (p:=⟨gb8,2,none⟩) (Kd.R_types HO_6.out BK8.out (by decide)) (fun _ hk=>hk.2) (.int .i64 (8193))) (fun _ hk=>hk.2) (.int .i64 (8193))) (fun _ hk=>hk.2) (.int .i64 (wrap64 ((8193) - (wrap64 ((2731)*(wrap64 (Int.tmod (rd l0 (ji65)) 2)))))))) (fun _ h_=>h_.1))) (Kd.R_typed (by refine zt_ ?_;exact (Kd.R_mono (Kd.R_far (p:=⟨gb8,4,none⟩) (Kd.R_far (p:=⟨gb8,3,none⟩) (Kd.R_far (p:=⟨gb8,2,none⟩) (Kd.R_mono HO_5.out (fun k_ hk=>(⟨hk,hk⟩:_∧k_≠gb8))) (fun _ hk=>hk.2) (.int .i64 (8193))) (fun _ hk=>hk.2) (.int .i64 (8193))) (fun _ hk=>hk.2) (.int .i64 (wrap64 ((8193) - (wrap64 ((2731)*(wrap64 (Int.tmod (rd l0 (ji65)) 2)))))))) (fun _ h_=>h_.1)))) (by decide) hg);have n1_:=am_ (blk_grown (g:=gb8) (o:= .cells #[.string (strOfNums y5), .string (⟨#[]⟩:ByteArray), .int .i64 (8193), .int .i64 (8193), .int .i64 (wrap64 ((8193) - (wrap64 ((2731)*(wrap64 (Int.tmod (rd l0 (ji65)) 2))))))] 39 (0,0)) (zw_ BK8) hg (Kd.R_away HO_5.out (fun _ hk=>hk)));have n2_:=am_ (hb);have n3_:=am_ (ho);clear HO_6;clear BK8;clear HB;clear HO_5;have HO_6:=n0_;have BK8:=n1_;have HB:=n2_;have HO39:=n3_;clear n0_ n1_ n2_ n3_;clear ho hb hg hat)|((with_reducible refine gate_builtin (b:= .append) (xs:=#[.tmp 106, .tmp 111]) rfl ?_);(try (refine gate_guard (by rfl) ?_;dsimp only));at_builtin;refine Kd.R_append (Kd.int .i64) (w0:=w) w.heap.size rfl (.tmp 106) (.tmp 111) 122 3 (.int .i64 0) 8 rfl Try.underlying122 info3 rfl (by decide) (by omega) u6 x6_1 (5462) [.int .i64 (5462)] (fun _=>True) (fun _=>False) rfl rfl ?aP (fun _ hk=>hk.elim) ?aF ?aO ?aB ?aS ?aL ?_;(case aP=>exact rfl);(case aB=>exact (zl1_ HB GE8));(case aF=>exact (fun _ _=>trivial));(case aO=>exact (zr_ HO_6));(case aS=>exact (below_size (zl1_ HB GE8)));(case aL=>have:=LMc70.out;omega);intro v41 w73 ho hb hg hat;rw [←Ny40.out] at ho;have n0_:=am_ (blk_grown (g:=gb8) (o:= .cells #[.string (strOfNums y5), .string (⟨#[]⟩:ByteArray), .int .i64 (8193), .int .i64 (8193), .int .i64 (wrap64 ((8193) - (wrap64 ((2731)*(wrap64 (Int.tmod (rd l0 (ji65)) 2))))))] 39 (0,0)) (zb_ BK8) hg (Kd.R_ne HO_6.out BK8.out (by decide)));have n1_:=am_ (Kd.R_over' (zr_ HO39) (Kd.R_typed (zr_ HO_6)) (by decide) hg);have n2_:=am_ (hb);have n3_:=am_ (ho);clear BK8;clear HO39;clear HB;clear HO_6;have BK8:=n0_;have HO39:=n1_;have HB:=n2_;have HO42:=n3_;clear n0_ n1_ n2_ n3_;clear ho hb hg hat))
         repeat (go_quiet (first|((with_reducible refine gate_builtin (b:= .append) (xs:=#[.tmp 102, .tmp 104]) rfl ?_);(try (refine gate_guard (by rfl) ?_;dsimp only));at_builtin;refine Kd.R_append k39 (w0:=w) w.heap.size rfl (.tmp 102) (.tmp 104) 22 39 (.agg #[(.string ⟨#[]⟩),(.string ⟨#[]⟩),(.int .i64 0),(.int .i64 0),(.int .i64 0)]) 56 rfl Try.underlying22 info39 rfl (by decide) (by omega) (.slice Ao12 x5_1.length co12) x5_1 (⟨(strOfNums y5),(⟨#[]⟩:ByteArray),(⟨8193,8193,wrap64 ((8193) - (wrap64 ((2731)*(wrap64 (Int.tmod (rd l0 (ji65)) 2)))))⟩:S37)⟩:S39) [.string (strOfNums y5), .string (⟨#[]⟩:ByteArray), .int .i64 (8193), .int .i64 (8193), .int .i64 (wrap64 ((8193) - (wrap64 ((2731)*(wrap64 (Int.tmod (rd l0 (ji65)) 2))))))] (fun k_=>k_≠gb8) (fun _=>False) rfl (by first|(go_simp;done)|(go_simp;rfl)) ?aP (fun _ hk=>hk.elim) ?aF ?aO ?aB ?aS ?aL ?_;(case aP=>exact k39_mkM _ _ _ (⟨(strOfNums y5),(⟨#[]⟩:ByteArray),(⟨8193,8193,wrap64 ((8193) - (wrap64 ((2731)*(wrap64 (Int.tmod (rd l0 (ji65)) 2)))))⟩:S37)⟩:S39));(case aB=>exact (zl1_ HB GE8));(case aF=>exact (fun k_ hk=>Kd.freshB (g:=gb8) (o:= .cells #[.string (strOfNums y5), .string (⟨#[]⟩:ByteArray), .int .i64 (8193), .int .i64 (8193), .int .i64 (wrap64 ((8193) - (wrap64 ((2731)*(wrap64 (Int.tmod (rd l0 (ji65)) 2))))))] 39 (0,0)) (zw_ BK8) k_ hk));(case aO=>exact (by refine zt_ ?_;exact Kd.R_mono (Kd.R_far (p:=⟨gb8,4,none⟩) (Kd.R_far (p:=⟨gb8,3,none⟩) (Kd.R_far (p:=⟨gb8,2,none⟩) (Kd.R_mono HO_5.out (fun k_ hk=>(⟨hk,hk⟩:_∧k_≠gb8))) (fun _ hk=>hk.2) (.int .i64 (8193))) (fun _ hk=>hk.2) (.int .i64 (8193))) (fun _ hk=>hk.2) (.int .i64 (wrap64 ((8193) - (wrap64 ((2731)*(wrap64 (Int.tmod (rd l0 (ji65)) 2)))))))) (fun _ hk=>hk.1)));(case aS=>exact (below_size (zl1_ HB GE8)));(case aL=>have:=LMc69.out;omega);intro v38 w72 ho hb hg hat;rw [←Ny37.out] at ho;have n0_:=am_ (Kd.R_over' (by refine zt_ ?_;exact (Kd.R_mono (Kd.R_far (p:=⟨gb8,4,none⟩) (Kd.R_far (p:=⟨gb8,3,none⟩) (Kd.R_far (p:=⟨gb8,2,none⟩) (Kd.R_types HO_6.out BK8.out (by decide)) (fun _ hk=>hk.2) (.int .i64 (8193))) (fun _ hk=>hk.2) (.int .i64 (8193))) (fun _ hk=>hk.2) (.int .i64 (wrap64 ((8193) - (wrap64 ((2731)*(wrap64 (Int.tmod (rd l0 (ji65)) 2)))))))) (fun _ h_=>h_.1))) (Kd.R_typed (by refine zt_ ?_;exact (Kd.R_mono (Kd.R_far (p:=⟨gb8,4,none⟩) (Kd.R_far (p:=⟨gb8,3,none⟩) (Kd.R_far (p:=⟨gb8,2,none⟩) (Kd.R_mono HO_5.out (fun k_ hk=>(⟨hk,hk⟩:_∧k_≠gb8))) (fun _ hk=>hk.2) (.int .i64 (8193))) (fun _ hk=>hk.2) (.int .i64 (8193))) (fun _ hk=>hk.2) (.int .i64 (wrap64 ((8193) - (wrap64 ((2731)*(wrap64 (Int.tmod (rd l0 (ji65)) 2)))))))) (fun _ h_=>h_.1)))) (by decide) hg);have n1_:=am_ (blk_grown (g:=gb8) (o:= .cells #[.string (strOfNums y5), .string (⟨#[]⟩:ByteArray), .int .i64 (8193), .int .i64 (8193), .int .i64 (wrap64 ((8193) - (wrap64 ((2731)*(wrap64 (Int.tmod (rd l0 (ji65)) 2))))))] 39 (0,0)) (zw_ BK8) hg (Kd.R_away HO_5.out (fun _ hk=>hk)));have n2_:=am_ (hb);have n3_:=am_ (ho);clear HO_6;clear BK8;clear HB;clear HO_5;have HO_6:=n0_;have BK8:=n1_;have HB:=n2_;have HO39:=n3_;clear n0_ n1_ n2_ n3_;clear ho hb hg hat)|((with_reducible refine gate_builtin (b:= .append) (xs:=#[.tmp 106, .tmp 111]) rfl ?_);(try (refine gate_guard (by rfl) ?_;dsimp only));at_builtin;refine Kd.R_append (Kd.int .i64) (w0:=w) w.heap.size rfl (.tmp 106) (.tmp 111) 122 3 (.int .i64 0) 8 rfl Try.underlying122 info3 rfl (by decide) (by omega) u6 x6_1 (5462) [.int .i64 (5462)] (fun _=>True) (fun _=>False) rfl rfl ?aP (fun _ hk=>hk.elim) ?aF ?aO ?aB ?aS ?aL ?_;(case aP=>exact rfl);(case aB=>exact (zl1_ HB GE8));(case aF=>exact (fun _ _=>trivial));(case aO=>exact (zr_ HO_6));(case aS=>exact (below_size (zl1_ HB GE8)));(case aL=>have:=LMc70.out;omega);intro v41 w73 ho hb hg hat;rw [←Ny40.out] at ho;have n0_:=am_ (blk_grown (g:=gb8) (o:= .cells #[.string (strOfNums y5), .string (⟨#[]⟩:ByteArray), .int .i64 (8193), .int .i64 (8193), .int .i64 (wrap64 ((8193) - (wrap64 ((2731)*(wrap64 (Int.tmod (rd l0 (ji65)) 2))))))] 39 (0,0)) (zb_ BK8) hg (Kd.R_ne HO_6.out BK8.out (by decide)));have n1_:=am_ (Kd.R_over' (zr_ HO39) (Kd.R_typed (zr_ HO_6)) (by decide) hg);have n2_:=am_ (hb);have n3_:=am_ (ho);clear BK8;clear HO39;clear HB;clear HO_6;have BK8:=n0_;have HO39:=n1_;have HB:=n2_;have HO42:=n3_;clear n0_ n1_ n2_ n3_;clear ho hb hg hat));try go_wp2_with (first|((with_reducible refine gate_builtin (b:= .append) (xs:=#[.tmp 102, .tmp 104]) rfl ?_);(try (refine gate_guard (by rfl) ?_;dsimp only));at_builtin;refine Kd.R_append k39 (w0:=w) w.heap.size rfl (.tmp 102) (.tmp 104) 22 39 (.agg #[(.string ⟨#[]⟩),(.string ⟨#[]⟩),(.int .i64 0),(.int .i64 0),(.int .i64 0)]) 56 rfl Try.underlying22 info39 rfl (by decide) (by omega) (.slice Ao12 x5_1.length co12) x5_1 (⟨(strOfNums y5),(⟨#[]⟩:ByteArray),(⟨8193,8193,wrap64 ((8193) - (wrap64 ((2731)*(wrap64 (Int.tmod (rd l0 (ji65)) 2)))))⟩:S37)⟩:S39) [.string (strOfNums y5), .string (⟨#[]⟩:ByteArray), .int .i64 (8193), .int .i64 (8193), .int .i64 (wrap64 ((8193) - (wrap64 ((2731)*(wrap64 (Int.tmod (rd l0 (ji65)) 2))))))] (fun k_=>k_≠gb8) (fun _=>False) rfl (by first|(go_simp;done)|(go_simp;rfl)) ?aP (fun _ hk=>hk.elim) ?aF ?aO ?aB ?aS ?aL ?_;(case aP=>exact k39_mkM _ _ _ (⟨(strOfNums y5),(⟨#[]⟩:ByteArray),(⟨8193,8193,wrap64 ((8193) - (wrap64 ((2731)*(wrap64 (Int.tmod (rd l0 (ji65)) 2)))))⟩:S37)⟩:S39));(case aB=>exact (zl1_ HB GE8));(case aF=>exact (fun k_ hk=>Kd.freshB (g:=gb8) (o:= .cells #[.string (strOfNums y5), .string (⟨#[]⟩:ByteArray), .int .i64 (8193), .int .i64 (8193), .int .i64 (wrap64 ((8193) - (wrap64 ((2731)*(wrap64 (Int.tmod (rd l0 (ji65)) 2))))))] 39 (0,0)) (zw_ BK8) k_ hk));(case aO=>exact (by refine zt_ ?_;exact Kd.R_mono (Kd.R_far (p:=⟨gb8,4,none⟩) (Kd.R_far (p:=⟨gb8,3,none⟩) (Kd.R_far (p:=⟨gb8,2,none⟩) (Kd.R_mono HO_5.out (fun k_ hk=>(⟨hk,hk⟩:_∧k_≠gb8))) (fun _ hk=>hk.2) (.int .i64 (8193))) (fun _ hk=>hk.2) (.int .i64 (8193))) (fun _ hk=>hk.2) (.int .i64 (wrap64 ((8193) - (wrap64 ((2731)*(wrap64 (Int.tmod (rd l0 (ji65)) 2)))))))) (fun _ hk=>hk.1)));(case aS=>exact (below_size (zl1_ HB GE8)));(case aL=>have:=LMc69.out;omega);intro v38 w72 ho hb hg hat;rw [←Ny37.out] at ho;have n0_:=am_ (Kd.R_over' (by refine zt_ ?_;exact (Kd.R_mono (Kd.R_far (p:=⟨gb8,4,none⟩) (Kd.R_far (p:=⟨gb8,3,none⟩) (Kd.R_far (p:=⟨gb8,2,none⟩) (Kd.R_types HO_6.out BK8.out (by decide)) (fun _ hk=>hk.2) (.int .i64 (8193))) (fun _ hk=>hk.2) (.int .i64 (8193))) (fun _ hk=>hk.2) (.int .i64 (wrap64 ((8193) - (wrap64 ((2731)*(wrap64 (Int.tmod (rd l0 (ji65)) 2)))))))) (fun _ h_=>h_.1))) (Kd.R_typed (by refine zt_ ?_;exact (Kd.R_mono (Kd.R_far (p:=⟨gb8,4,none⟩) (Kd.R_far (p:=⟨gb8,3,none⟩) (Kd.R_far (p:=⟨gb8,2,none⟩) (Kd.R_mono HO_5.out (fun k_ hk=>(⟨hk,hk⟩:_∧k_≠gb8))) (fun _ hk=>hk.2) (.int .i64 (8193))) (fun _ hk=>hk.2) (.int .i64 (8193))) (fun _ hk=>hk.2) (.int .i64 (wrap64 ((8193) - (wrap64 ((2731)*(wrap64 (Int.tmod (rd l0 (ji65)) 2)))))))) (fun _ h_=>h_.1)))) (by decide) hg);have n1_:=am_ (blk_grown (g:=gb8) (o:= .cells #[.string (strOfNums y5), .string (⟨#[]⟩:ByteArray), .int .i64 (8193), .int .i64 (8193), .int .i64 (wrap64 ((8193) - (wrap64 ((2731)*(wrap64 (Int.tmod (rd l0 (ji65)) 2))))))] 39 (0,0)) (zw_ BK8) hg (Kd.R_away HO_5.out (fun _ hk=>hk)));have n2_:=am_ (hb);have n3_:=am_ (ho);clear HO_6;clear BK8;clear HB;clear HO_5;have HO_6:=n0_;have BK8:=n1_;have HB:=n2_;have HO39:=n3_;clear n0_ n1_ n2_ n3_;clear ho hb hg hat)|((with_reducible refine gate_builtin (b:= .append) (xs:=#[.tmp 106, .tmp 111]) rfl ?_);(try (refine gate_guard (by rfl) ?_;dsimp only));at_builtin;refine Kd.R_append (Kd.int .i64) (w0:=w) w.heap.size rfl (.tmp 106) (.tmp 111) 122 3 (.int .i64 0) 8 rfl Try.underlying122 info3 rfl (by decide) (by omega) u6 x6_1 (5462) [.int .i64 (5462)] (fun _=>True) (fun _=>False) rfl rfl ?aP (fun _ hk=>hk.elim) ?aF ?aO ?aB ?aS ?aL ?_;(case aP=>exact rfl);(case aB=>exact (zl1_ HB GE8));(case aF=>exact (fun _ _=>trivial));(case aO=>exact (zr_ HO_6));(case aS=>exact (below_size (zl1_ HB GE8)));(case aL=>have:=LMc70.out;omega);intro v41 w73 ho hb hg hat;rw [←Ny40.out] at ho;have n0_:=am_ (blk_grown (g:=gb8) (o:= .cells #[.string (strOfNums y5), .string (⟨#[]⟩:ByteArray), .int .i64 (8193), .int .i64 (8193), .int .i64 (wrap64 ((8193) - (wrap64 ((2731)*(wrap64 (Int.tmod (rd l0 (ji65)) 2))))))] 39 (0,0)) (zb_ BK8) hg (Kd.R_ne HO_6.out BK8.out (by decide)));have n1_:=am_ (Kd.R_over' (zr_ HO39) (Kd.R_typed (zr_ HO_6)) (by decide) hg);have n2_:=am_ (hb);have n3_:=am_ (ho);clear BK8;clear HO39;clear HB;clear HO_6;have BK8:=n0_;have HO39:=n1_;have HB:=n2_;have HO42:=n3_;clear n0_ n1_ n2_ n3_;clear ho hb hg hat)))
         go_roundg kj10
         case measure=>have:=HK1.out;have:=HJ4.out;have:=HJ10.out;omega
         case rel=>exact ⟨(y37),(y40),(wrap64 (x7_1+2)),(by first|rfl|(simp;done)|(simp [*];done)),H',⟨by have:=HK1.out;have:=HJ4.out;have:=HJ10.out;omega⟩,⟨by (with_reducible repeat (first|apply Kd.R_alloc|apply Kd.R_drewN|apply Kd.R_drew));exact Kd.R_mono HO39.out (fun _ hk=>trivial)⟩,⟨by (with_reducible repeat (first|apply Kd.R_alloc|apply Kd.R_drewN|apply Kd.R_drew));exact HO42.out⟩,⟨zl1_ HB GE8⟩⟩
        rw [if_neg c68] at H
        have c68b0:((Int.tmod (rd l0 (ji65)) 16)==0)=false:=beq_eq_false_iff_ne.mpr c68
        have c68b1:((Int.tmod (rd l0 (ji65)) 16) !=0)=true:=bne_iff_ne.mpr c68
        by_cases c74:x5_1.length<2513169434916
        rotate_left
        ·rw [if_neg c74] at H
         exact absurd H (by simp)
        rw [if_pos c74] at H
        have LMc74:=Aside0.mk c74
        clear c74
        simp only [lm_E1,lm_E2,lm_E3,lm_E4,lm_E5] at H
        obtain ⟨y44,hy44⟩: ∃y_:List (S39),y_=(x5_1++ [(⟨(strOfNums y5),(⟨#[]⟩:ByteArray),(⟨4096,4096,wrap64 (4096 - (wrap64 ((1365)*(wrap64 (Int.tmod (rd l0 (ji65)) 2)))))⟩:S37)⟩:S39)]):=⟨_,rfl⟩
        replace H:(if x6_1.length<17592186044416 then (law11_Make.l0 kj10 l0 true y44 (x6_1++ [2731]) (wrap64 (x7_1+2))) else (none))=some r:=by first|(rw [hy44];with_reducible exact H)|(have H2_:=(Option.bind_some _ _).symm.trans H;rw [hy44];with_reducible exact H2_)|(have H2_:=(Option.bind_some _ _).symm.trans H;with_reducible exact H2_)|with_reducible exact H|(rw [hy44];exact H)|exact H
        have Ny44:=Aside0.mk hy44
        clear hy44
        by_cases c75:x6_1.length<17592186044416
        rotate_left
        ·rw [if_neg c75] at H
         exact absurd H (by simp)
        rw [if_pos c75] at H
        have LMc75:=Aside0.mk c75
        clear c75
        obtain ⟨y47,hy47⟩: ∃y_:List Int,y_=(x6_1++ [2731]):=⟨_,rfl⟩
        replace H:(law11_Make.l0 kj10 l0 true y44 y47 (wrap64 (x7_1+2)))=some r:=by first|(rw [hy47];with_reducible exact H)|(have H2_:=(Option.bind_some _ _).symm.trans H;rw [hy47];with_reducible exact H2_)|(have H2_:=(Option.bind_some _ _).symm.trans H;with_reducible exact H2_)|with_reducible exact H|(rw [hy47];exact H)|exact H
        have Ny47:=Aside0.mk hy47
        clear hy47
        have H':=Aside0.mk H
        clear H
        have p35:0≤((ji65):Int):=of_decide_eq_true zq_
        have q35:(ji65)<(l0.length:Int):=of_decide_eq_true zq_
        obtain ⟨ad35,e35,hx35_0⟩:=Kd.at_int HR0.out (ji65) p35 q35
        obtain rfl:ad4=ad35:=(by injection e35)
        replace hx35_0:=zx_ HB hx35_0
        replace p35:=eq_true p35
        replace q35:=eq_true q35
        have p43:0≤((ji65):Int):=of_decide_eq_true zq_
        have q43:(ji65)<(l0.length:Int):=of_decide_eq_true zq_
        obtain ⟨ad43,e43,hx43_0⟩:=Kd.at_int HR0.out (ji65) p43 q43
        obtain rfl:ad4=ad43:=(by injection e43)
        replace hx43_0:=zx_ HB hx43_0
        replace p43:=eq_true p43
        replace q43:=eq_true q43
        obtain ⟨hcz76_0,hcz76_1,hcz76_2,hcz76_3,hcz76_4,hfz76_0,hfz76_1,hfz76_2,hfz76_3,hfz76_4⟩:=y5_ BK8
        go_wp2_with (first|((with_reducible refine gate_builtin (b:= .append) (xs:=#[.tmp 102, .tmp 104]) rfl ?_);(try (refine gate_guard (by rfl) ?_;dsimp only));at_builtin;refine Kd.R_append k39 (w0:=w) w.heap.size rfl (.tmp 102) (.tmp 104) 22 39 (.agg #[(.string ⟨#[]⟩),(.string ⟨#[]⟩),(.int .i64 0),(.int .i64 0),(.int .i64 0)]) 56 rfl Try.underlying22 info39 rfl (by decide) (by omega) (.slice Ao12 x5_1.length co12) x5_1 (⟨(strOfNums y5),(⟨#[]⟩:ByteArray),(⟨4096,4096,wrap64 (4096 - (wrap64 ((1365)*(wrap64 (Int.tmod (rd l0 (ji65)) 2)))))⟩:S37)⟩:S39) [.string (strOfNums y5), .string (⟨#[]⟩:ByteArray), .int .i64 4096, .int .i64 4096, .int .i64 (wrap64 (4096 - (wrap64 ((1365)*(wrap64 (Int.tmod (rd l0 (ji65)) 2))))))] (fun k_=>k_≠gb8) (fun _=>False) rfl (by first|(go_simp;done)|(go_simp;rfl)) ?aP (fun _ hk=>hk.elim) ?aF ?aO ?aB ?aS ?aL ?_;(case aP=>exact k39_mkM _ _ _ (⟨(strOfNums y5),(⟨#[]⟩:ByteArray),(⟨4096,4096,wrap64 (4096 - (wrap64 ((1365)*(wrap64 (Int.tmod (rd l0 (ji65)) 2)))))⟩:S37)⟩:S39));(case aB=>exact (zl1_ HB GE8));(case aF=>exact (fun k_ hk=>Kd.freshB (g:=gb8) (o:= .cells #[.string (strOfNums y5), .string (⟨#[]⟩:ByteArray), .int .i64 4096, .int .i64 4096, .int .i64 (wrap64 (4096 - (wrap64 ((1365)*(wrap64 (Int.tmod (rd l0 (ji65)) 2))))))] 39 (0,0)) (zw_ BK8) k_ hk));(case aO=>exact (by refine zt_ ?_;exact Kd.R_mono (Kd.R_far (p:=⟨gb8,4,none⟩) (Kd.R_far (p:=⟨gb8,3,none⟩) (Kd.R_far (p:=⟨gb8,2,none⟩) (Kd.R_mono HO_5.out (fun k_ hk=>(⟨hk,hk⟩:_∧k_≠gb8))) (fun _ hk=>hk.2) (.int .i64 4096)) (fun _ hk=>hk.2) (.int .i64 4096)) (fun _ hk=>hk.2) (.int .i64 (wrap64 (4096 - (wrap64 ((1365)*(wrap64 (Int.tmod (rd l0 (ji65)) 2)))))))) (fun _ hk=>hk.1)));(case aS=>exact (below_size (zl1_ HB GE8)));(case aL=>have:=LMc74.out;omega);intro v45 w77 ho hb hg hat;rw [←Ny44.out] at ho;have n0_:=am_ (Kd.R_over' (by refine zt_ ?_;exact (Kd.R_mono (Kd.R_far (p:=⟨gb8,4,none⟩) (Kd.R_far (p:=⟨gb8,3,none⟩) (Kd.R_far (p:=⟨gb8,2,none⟩) (Kd.R_types HO_6.out BK8.out (by decide)) (fun _ hk=>hk.2) (.int .i64 4096)) (fun _ hk=>hk.2) (.int .i64 4096)) (fun _ hk=>hk.2) (.int .i64 (wrap64 (4096 - (wrap64 ((1365)*(wrap64 (Int.tmod (rd l0 (ji65)) 2)))))))) (fun _ h_=>h_.1))) (Kd.R_typed (by refine zt_ ?_;exact (Kd.R_mono (Kd.R_far (p:=⟨gb8,4,none⟩) (Kd.R_far (p:=⟨gb8,3,none⟩) (Kd.R_far (p:=⟨gb8,2,none⟩) (Kd.R_mono HO_5.out (fun k_ hk=>(⟨hk,hk⟩:_∧k_≠gb8))) (fun _ hk=>hk.2) (.int .i64 4096)) (fun _ hk=>hk.2) (.int .i64 4096)) (fun _ hk=>hk.2) (.int .i64 (wrap64 (4096 - (wrap64 ((1365)*(wrap64 (Int.tmod (rd l0 (ji65)) 2)))))))) (fun _ h_=>h_.1)))) (by decide) hg);have n1_:=am_ (blk_grown (g:=gb8) (o:= .cells #[.string (strOfNums y5), .string (⟨#[]⟩:ByteArray), .int .i64 4096, .int .i64 4096, .int .i64 (wrap64 (4096 - (wrap64 ((1365)*(wrap64 (Int.tmod (rd l0 (ji65)) 2))))))] 39 (0,0)) (zw_ BK8) hg (Kd.R_away HO_5.out (fun _ hk=>hk)));have n2_:=am_ (hb);have n3_:=am_ (ho);clear HO_6;clear BK8;clear HB;clear HO_5;have HO_6:=n0_;have BK8:=n1_;have HB:=n2_;have HO46:=n3_;clear n0_ n1_ n2_ n3_;clear ho hb hg hat)|((with_reducible refine gate_builtin (b:= .append) (xs:=#[.tmp 106, .tmp 111]) rfl ?_);(try (refine gate_guard (by rfl) ?_;dsimp only));at_builtin;refine Kd.R_append (Kd.int .i64) (w0:=w) w.heap.size rfl (.tmp 106) (.tmp 111) 122 3 (.int .i64 0) 8 rfl Try.underlying122 info3 rfl (by decide) (by omega) u6 x6_1 (2731) [.int .i64 (2731)] (fun _=>True) (fun _=>False) rfl rfl ?aP (fun _ hk=>hk.elim) ?aF ?aO ?aB ?aS ?aL ?_;(case aP=>exact rfl);(case aB=>exact (zl1_ HB GE8));(case aF=>exact (fun _ _=>trivial));(case aO=>exact (zr_ HO_6));(case aS=>exact (below_size (zl1_ HB GE8)));(case aL=>have:=LMc75.out;omega);intro v48 w78 ho hb hg hat;rw [←Ny47.out] at ho;have n0_:=am_ (blk_grown (g:=gb8) (o:= .cells #[.string (strOfNums y5), .string (⟨#[]⟩:ByteArray), .int .i64 4096, .int .i64 4096, .int .i64 (wrap64 (4096 - (wrap64 ((1365)*(wrap64 (Int.tmod (rd l0 (ji65)) 2))))))] 39 (0,0)) (zb_ BK8) hg (Kd.R_ne HO_6.out BK8.out (by decide)));have n1_:=am_ (Kd.R_over' (zr_ HO46) (Kd.R_typed (zr_ HO_6)) (by decide) hg);have n2_:=am_ (hb);have n3_:=am_ (ho);clear BK8;clear HO46;clear HB;clear HO_6;have BK8:=n0_;have HO46:=n1_;have HB:=n2_;have HO49:=n3_;clear n0_ n1_ n2_ n3_;clear ho hb hg hat))
        repeat (go_quiet (first|((with_reducible refine gate_builtin (b:= .append) (xs:=#[.tmp 102, .tmp 104]) rfl ?_);(try (refine gate_guard (by rfl) ?_;dsimp only));at_builtin;refine Kd.R_append k39 (w0:=w) w.heap.size rfl (.tmp 102) (.tmp 104) 22 39 (.agg #[(.string ⟨#[]⟩),(.string ⟨#[]⟩),(.int .i64 0),(.int .i64 0),(.int .i64 0)]) 56 rfl Try.underlying22 info39 rfl (by decide) (by omega) (.slice Ao12 x5_1.length co12) x5_1 (⟨(strOfNums y5),(⟨#[]⟩:ByteArray),(⟨4096,4096,wrap64 (4096 - (wrap64 ((1365)*(wrap64 (Int.tmod (rd l0 (ji65)) 2)))))⟩:S37)⟩:S39) [.string (strOfNums y5), .string (⟨#[]⟩:ByteArray), .int .i64 4096, .int .i64 4096, .int .i64 (wrap64 (4096 - (wrap64 ((1365)*(wrap64 (Int.tmod (rd l0 (ji65)) 2))))))] (fun k_=>k_≠gb8) (fun _=>False) rfl (by first|(go_simp;done)|(go_simp;rfl)) ?aP (fun _ hk=>hk.elim) ?aF ?aO ?aB ?aS ?aL ?_;(case aP=>exact k39_mkM _ _ _ (⟨(strOfNums y5),(⟨#[]⟩:ByteArray),(⟨4096,4096,wrap64 (4096 - (wrap64 ((1365)*(wrap64 (Int.tmod (rd l0 (ji65)) 2)))))⟩:S37)⟩:S39));(case aB=>exact (zl1_ HB GE8));(case aF=>exact (fun k_ hk=>Kd.freshB (g:=gb8) (o:= .cells #[.string (strOfNums y5), .string (⟨#[]⟩:ByteArray), .int .i64 4096, .int .i64 4096, .int .i64 (wrap64 (4096 - (wrap64 ((1365)*(wrap64 (Int.tmod (rd l0 (ji65)) 2))))))] 39 (0,0)) (zw_ BK8) k_ hk));(case aO=>exact (by refine zt_ ?_;exact Kd.R_mono (Kd.R_far (p:=⟨gb8,4,none⟩) (Kd.R_far (p:=⟨gb8,3,none⟩) (Kd.R_far (p:=⟨gb8,2,none⟩) (Kd.R_mono HO_5.out (fun k_ hk=>(⟨hk,hk⟩:_∧k_≠gb8))) (fun _ hk=>hk.2) (.int .i64 4096)) (fun _ hk=>hk.2) (.int .i64 4096)) (fun _ hk=>hk.2) (.int .i64 (wrap64 (4096 - (wrap64 ((1365)*(wrap64 (Int.tmod (rd l0 (ji65)) 2)))))))) (fun _ hk=>hk.1)));(case aS=>exact (below_size (zl1_ HB GE8)));(case aL=>have:=LMc74.out;omega);intro v45 w77 ho hb hg hat;rw [←Ny44.out] at ho;have n0_:=am_ (Kd.R_over' (by refine zt_ ?_;exact (Kd.R_mono (Kd.R_far (p:=⟨gb8,4,none⟩) (Kd.R_far (p:=⟨gb8,3,none⟩) (Kd.R_far (p:=⟨gb8,2,none⟩) (Kd.R_types HO_6.out BK8.out (by decide)) (fun _ hk=>hk.2) (.int .i64 4096)) (fun _ hk=>hk.2) (.int .i64 4096)) (fun _ hk=>hk.2) (.int .i64 (wrap64 (4096 - (wrap64 ((1365)*(wrap64 (Int.tmod (rd l0 (ji65)) 2)))))))) (fun _ h_=>h_.1))) (Kd.R_typed (by refine zt_ ?_;exact (Kd.R_mono (Kd.R_far (p:=⟨gb8,4,none⟩) (Kd.R_far (p:=⟨gb8,3,none⟩) (Kd.R_far (p:=⟨gb8,2,none⟩) (Kd.R_mono HO_5.out (fun k_ hk=>(⟨hk,hk⟩:_∧k_≠gb8))) (fun _ hk=>hk.2) (.int .i64 4096)) (fun _ hk=>hk.2) (.int .i64 4096)) (fun _ hk=>hk.2) (.int .i64 (wrap64 (4096 - (wrap64 ((1365)*(wrap64 (Int.tmod (rd l0 (ji65)) 2)))))))) (fun _ h_=>h_.1)))) (by decide) hg);have n1_:=am_ (blk_grown (g:=gb8) (o:= .cells #[.string (strOfNums y5), .string (⟨#[]⟩:ByteArray), .int .i64 4096, .int .i64 4096, .int .i64 (wrap64 (4096 - (wrap64 ((1365)*(wrap64 (Int.tmod (rd l0 (ji65)) 2))))))] 39 (0,0)) (zw_ BK8) hg (Kd.R_away HO_5.out (fun _ hk=>hk)));have n2_:=am_ (hb);have n3_:=am_ (ho);clear HO_6;clear BK8;clear HB;clear HO_5;have HO_6:=n0_;have BK8:=n1_;have HB:=n2_;have HO46:=n3_;clear n0_ n1_ n2_ n3_;clear ho hb hg hat)|((with_reducible refine gate_builtin (b:= .append) (xs:=#[.tmp 106, .tmp 111]) rfl ?_);(try (refine gate_guard (by rfl) ?_;dsimp only));at_builtin;refine Kd.R_append (Kd.int .i64) (w0:=w) w.heap.size rfl (.tmp 106) (.tmp 111) 122 3 (.int .i64 0) 8 rfl Try.underlying122 info3 rfl (by decide) (by omega) u6 x6_1 (2731) [.int .i64 (2731)] (fun _=>True) (fun _=>False) rfl rfl ?aP (fun _ hk=>hk.elim) ?aF ?aO ?aB ?aS ?aL ?_;(case aP=>exact rfl);(case aB=>exact (zl1_ HB GE8));(case aF=>exact (fun _ _=>trivial));(case aO=>exact (zr_ HO_6));(case aS=>exact (below_size (zl1_ HB GE8)));(case aL=>have:=LMc75.out;omega);intro v48 w78 ho hb hg hat;rw [←Ny47.out] at ho;have n0_:=am_ (blk_grown (g:=gb8) (o:= .cells #[.string (strOfNums y5), .string (⟨#[]⟩:ByteArray), .int .i64 4096, .int .i64 4096, .int .i64 (wrap64 (4096 - (wrap64 ((1365)*(wrap64 (Int.tmod (rd l0 (ji65)) 2))))))] 39 (0,0)) (zb_ BK8) hg (Kd.R_ne HO_6.out BK8.out (by decide)));have n1_:=am_ (Kd.R_over' (zr_ HO46) (Kd.R_typed (zr_ HO_6)) (by decide) hg);have n2_:=am_ (hb);have n3_:=am_ (ho);clear BK8;clear HO46;clear HB;clear HO_6;have BK8:=n0_;have HO46:=n1_;have HB:=n2_;have HO49:=n3_;clear n0_ n1_ n2_ n3_;clear ho hb hg hat));try go_wp2_with (first|((with_reducible refine gate_builtin (b:= .append) (xs:=#[.tmp 102, .tmp 104]) rfl ?_);(try (refine gate_guard (by rfl) ?_;dsimp only));at_builtin;refine Kd.R_append k39 (w0:=w) w.heap.size rfl (.tmp 102) (.tmp 104) 22 39 (.agg #[(.string ⟨#[]⟩),(.string ⟨#[]⟩),(.int .i64 0),(.int .i64 0),(.int .i64 0)]) 56 rfl Try.underlying22 info39 rfl (by decide) (by omega) (.slice Ao12 x5_1.length co12) x5_1 (⟨(strOfNums y5),(⟨#[]⟩:ByteArray),(⟨4096,4096,wrap64 (4096 - (wrap64 ((1365)*(wrap64 (Int.tmod (rd l0 (ji65)) 2)))))⟩:S37)⟩:S39) [.string (strOfNums y5), .string (⟨#[]⟩:ByteArray), .int .i64 4096, .int .i64 4096, .int .i64 (wrap64 (4096 - (wrap64 ((1365)*(wrap64 (Int.tmod (rd l0 (ji65)) 2))))))] (fun k_=>k_≠gb8) (fun _=>False) rfl (by first|(go_simp;done)|(go_simp;rfl)) ?aP (fun _ hk=>hk.elim) ?aF ?aO ?aB ?aS ?aL ?_;(case aP=>exact k39_mkM _ _ _ (⟨(strOfNums y5),(⟨#[]⟩:ByteArray),(⟨4096,4096,wrap64 (4096 - (wrap64 ((1365)*(wrap64 (Int.tmod (rd l0 (ji65)) 2)))))⟩:S37)⟩:S39));(case aB=>exact (zl1_ HB GE8));(case aF=>exact (fun k_ hk=>Kd.freshB (g:=gb8) (o:= .cells #[.string (strOfNums y5), .string (⟨#[]⟩:ByteArray), .int .i64 4096, .int .i64 4096, .int .i64 (wrap64 (4096 - (wrap64 ((1365)*(wrap64 (Int.tmod (rd l0 (ji65)) 2))))))] 39 (0,0)) (zw_ BK8) k_ hk));(case aO=>exact (by refine zt_ ?_;exact Kd.R_mono (Kd.R_far (p:=⟨gb8,4,none⟩) (Kd.R_far (p:=⟨gb8,3,none⟩) (Kd.R_far (p:=⟨gb8,2,none⟩) (Kd.R_mono HO_5.out (fun k_ hk=>(⟨hk,hk⟩:_∧k_≠gb8))) (fun _ hk=>hk.2) (.int .i64 4096)) (fun _ hk=>hk.2) (.int .i64 4096)) (fun _ hk=>hk.2) (.int .i64 (wrap64 (4096 - (wrap64 ((1365)*(wrap64 (Int.tmod (rd l0 (ji65)) 2)))))))) (fun _ hk=>hk.1)));(case aS=>exact (below_size (zl1_ HB GE8)));(case aL=>have:=LMc74.out;omega);intro v45 w77 ho hb hg hat;rw [←Ny44.out] at ho;have n0_:=am_ (Kd.R_over' (by refine zt_ ?_;exact (Kd.R_mono (Kd.R_far (p:=⟨gb8,4,none⟩) (Kd.R_far (p:=⟨gb8,3,none⟩) (Kd.R_far (p:=⟨gb8,2,none⟩) (Kd.R_types HO_6.out BK8.out (by decide)) (fun _ hk=>hk.2) (.int .i64 4096)) (fun _ hk=>hk.2) (.int .i64 4096)) (fun _ hk=>hk.2) (.int .i64 (wrap64 (4096 - (wrap64 ((1365)*(wrap64 (Int.tmod (rd l0 (ji65)) 2)))))))) (fun _ h_=>h_.1))) (Kd.R_typed (by refine zt_ ?_;exact (Kd.R_mono (Kd.R_far (p:=⟨gb8,4,none⟩) (Kd.R_far (p:=⟨gb8,3,none⟩) (Kd.R_far (p:=⟨gb8,2,none⟩) (Kd.R_mono HO_5.out (fun k_ hk=>(⟨hk,hk⟩:_∧k_≠gb8))) (fun _ hk=>hk.2) (.int .i64 4096)) (fun _ hk=>hk.2) (.int .i64 4096)) (fun _ hk=>hk.2) (.int .i64 (wrap64 (4096 - (wrap64 ((1365)*(wrap64 (Int.tmod (rd l0 (ji65)) 2)))))))) (fun _ h_=>h_.1)))) (by decide) hg);have n1_:=am_ (blk_grown (g:=gb8) (o:= .cells #[.string (strOfNums y5), .string (⟨#[]⟩:ByteArray), .int .i64 4096, .int .i64 4096, .int .i64 (wrap64 (4096 - (wrap64 ((1365)*(wrap64 (Int.tmod (rd l0 (ji65)) 2))))))] 39 (0,0)) (zw_ BK8) hg (Kd.R_away HO_5.out (fun _ hk=>hk)));have n2_:=am_ (hb);have n3_:=am_ (ho);clear HO_6;clear BK8;clear HB;clear HO_5;have HO_6:=n0_;have BK8:=n1_;have HB:=n2_;have HO46:=n3_;clear n0_ n1_ n2_ n3_;clear ho hb hg hat)|((with_reducible refine gate_builtin (b:= .append) (xs:=#[.tmp 106, .tmp 111]) rfl ?_);(try (refine gate_guard (by rfl) ?_;dsimp only));at_builtin;refine Kd.R_append (Kd.int .i64) (w0:=w) w.heap.size rfl (.tmp 106) (.tmp 111) 122 3 (.int .i64 0) 8 rfl Try.underlying122 info3 rfl (by decide) (by omega) u6 x6_1 (2731) [.int .i64 (2731)] (fun _=>True) (fun _=>False) rfl rfl ?aP (fun _ hk=>hk.elim) ?aF ?aO ?aB ?aS ?aL ?_;(case aP=>exact rfl);(case aB=>exact (zl1_ HB GE8));(case aF=>exact (fun _ _=>trivial));(case aO=>exact (zr_ HO_6));(case aS=>exact (below_size (zl1_ HB GE8)));(case aL=>have:=LMc75.out;omega);intro v48 w78 ho hb hg hat;rw [←Ny47.out] at ho;have n0_:=am_ (blk_grown (g:=gb8) (o:= .cells #[.string (strOfNums y5), .string (⟨#[]⟩:ByteArray), .int .i64 4096, .int .i64 4096, .int .i64 (wrap64 (4096 - (wrap64 ((1365)*(wrap64 (Int.tmod (rd l0 (ji65)) 2))))))] 39 (0,0)) (zb_ BK8) hg (Kd.R_ne HO_6.out BK8.out (by decide)));have n1_:=am_ (Kd.R_over' (zr_ HO46) (Kd.R_typed (zr_ HO_6)) (by decide) hg);have n2_:=am_ (hb);have n3_:=am_ (ho);clear BK8;clear HO46;clear HB;clear HO_6;have BK8:=n0_;have HO46:=n1_;have HB:=n2_;have HO49:=n3_;clear n0_ n1_ n2_ n3_;clear ho hb hg hat)))
        go_roundg kj10
        case measure=>have:=HK1.out;have:=HJ4.out;have:=HJ10.out;omega
        case rel=>exact ⟨(y44),(y47),(wrap64 (x7_1+2)),(by first|rfl|(simp;done)|(simp [*];done)),H',⟨by have:=HK1.out;have:=HJ4.out;have:=HJ10.out;omega⟩,⟨by (with_reducible repeat (first|apply Kd.R_alloc|apply Kd.R_drewN|apply Kd.R_drew));exact Kd.R_mono HO46.out (fun _ hk=>trivial)⟩,⟨by (with_reducible repeat (first|apply Kd.R_alloc|apply Kd.R_drewN|apply Kd.R_drew));exact HO49.out⟩,⟨zl1_ HB GE8⟩⟩
       subst c19
       have H1:(if (x5_1.length:Int)=0 then (none) else (if 0≤(Int.tmod (wrap64 (Int.tdiv (wrap64 (rd l0 x7_1)) 3)) (x5_1.length:Int)) then (if (Int.tmod (wrap64 (Int.tdiv (wrap64 (rd l0 x7_1)) 3)) (x5_1.length:Int))<(x5_1.length:Int) then (if (Int.tmod (wrap64 (Int.tdiv (wrap64 (rd l0 x7_1)) 3)) (x5_1.length:Int))<(x6_1.length:Int) then ((some (x6_1.set ((Int.tmod (wrap64 (Int.tdiv (wrap64 (rd l0 x7_1)) 3)) (x5_1.length:Int)):Int).toNat (wrap64 ((rd x6_1 (Int.tmod (wrap64 (Int.tdiv (wrap64 (rd l0 x7_1)) 3)) (x5_1.length:Int))) - (wrap64 (Int.tdiv (rd x6_1 (Int.tmod (wrap64 (Int.tdiv (wrap64 (rd l0 x7_1)) 3)) (x5_1.length:Int))) 2)))):List Int)).bind fun y12=>(if a1=true then (if 0≤(wrap64 (x7_1+1)) then (if (wrap64 (x7_1+1))<(l0.length:Int) then (if (Int.tmod (rd l0 (wrap64 (x7_1+1))) 16)=0 then (if x5_1.length<2513169434916 then (if y12.length<17592186044416 then (law11_Make.l0 kj10 l0 a1 (x5_1++ [(⟨(strOfNums y5),(rd_T39 x5_1 (Int.tmod (wrap64 (Int.tdiv (wrap64 (rd l0 x7_1)) 3)) (x5_1.length:Int))).f0,(⟨wrap64 ((wrap64 ((wrap64 (Int.tdiv (rd x6_1 (Int.tmod (wrap64 (Int.tdiv (wrap64 (rd l0 x7_1)) 3)) (x5_1.length:Int))) 2))*2))+1),wrap64 ((wrap64 ((wrap64 (Int.tdiv (rd x6_1 (Int.tmod (wrap64 (Int.tdiv (wrap64 (rd l0 x7_1)) 3)) (x5_1.length:Int))) 2))*2))+1),wrap64 ((wrap64 ((wrap64 ((wrap64 (Int.tdiv (rd x6_1 (Int.tmod (wrap64 (Int.tdiv (wrap64 (rd l0 x7_1)) 3)) (x5_1.length:Int))) 2))*2))+1)) - (wrap64 ((wrap64 (Int.tdiv (wrap64 ((wrap64 ((wrap64 (Int.tdiv (rd x6_1 (Int.tmod (wrap64 (Int.tdiv (wrap64 (rd l0 x7_1)) 3)) (x5_1.length:Int))) 2))*2))+1)) 3))*(wrap64 (Int.tmod (rd l0 (wrap64 (x7_1+1))) 2)))))⟩:S37)⟩:S39)]) (y12++ [wrap64 ((wrap64 ((wrap64 ((wrap64 (Int.tdiv (rd x6_1 (Int.tmod (wrap64 (Int.tdiv (wrap64 (rd l0 x7_1)) 3)) (x5_1.length:Int))) 2))*2))+1)) - (wrap64 (Int.tdiv (wrap64 ((wrap64 ((wrap64 (Int.tdiv (rd x6_1 (Int.tmod (wrap64 (Int.tdiv (wrap64 (rd l0 x7_1)) 3)) (x5_1.length:Int))) 2))*2))+1)) 3)))]) (wrap64 (x7_1+2))) else (none)) else (none)) else (if x5_1.length<2513169434916 then (if y12.length<17592186044416 then (law11_Make.l0 kj10 l0 a1 (x5_1++ [(⟨(strOfNums y5),(rd_T39 x5_1 (Int.tmod (wrap64 (Int.tdiv (wrap64 (rd l0 x7_1)) 3)) (x5_1.length:Int))).f0,(⟨wrap64 (Int.tdiv (rd x6_1 (Int.tmod (wrap64 (Int.tdiv (wrap64 (rd l0 x7_1)) 3)) (x5_1.length:Int))) 2),wrap64 (Int.tdiv (rd x6_1 (Int.tmod (wrap64 (Int.tdiv (wrap64 (rd l0 x7_1)) 3)) (x5_1.length:Int))) 2),wrap64 ((wrap64 (Int.tdiv (rd x6_1 (Int.tmod (wrap64 (Int.tdiv (wrap64 (rd l0 x7_1)) 3)) (x5_1.length:Int))) 2)) - (wrap64 ((wrap64 (Int.tdiv (wrap64 (Int.tdiv (rd x6_1 (Int.tmod (wrap64 (Int.tdiv (wrap64 (rd l0 x7_1)) 3)) (x5_1.length:Int))) 2)) 3))*(wrap64 (Int.tmod (rd l0 (wrap64 (x7_1+1))) 2)))))⟩:S37)⟩:S39)]) (y12++ [wrap64 ((wrap64 (Int.tdiv (rd x6_1 (Int.tmod (wrap64 (Int.tdiv (wrap64 (rd l0 x7_1)) 3)) (x5_1.length:Int))) 2)) - (wrap64 (Int.tdiv (wrap64 (Int.tdiv (rd x6_1 (Int.tmod (wrap64 (Int.tdiv (wrap64 (rd l0 x7_1)) 3)) (x5_1.length:Int))) 2)) 3)))]) (wrap64 (x7_1+2))) else (none)) else (none))) else (none)) else (none)) else (if 0≤(wrap64 (x7_1+1)) then (if (wrap64 (x7_1+1))<(l0.length:Int) then (if x5_1.length<2513169434916 then (if y12.length<17592186044416 then (law11_Make.l0 kj10 l0 a1 (x5_1++ [(⟨(strOfNums y5),(rd_T39 x5_1 (Int.tmod (wrap64 (Int.tdiv (wrap64 (rd l0 x7_1)) 3)) (x5_1.length:Int))).f0,(⟨wrap64 (Int.tdiv (rd x6_1 (Int.tmod (wrap64 (Int.tdiv (wrap64 (rd l0 x7_1)) 3)) (x5_1.length:Int))) 2),wrap64 (Int.tdiv (rd x6_1 (Int.tmod (wrap64 (Int.tdiv (wrap64 (rd l0 x7_1)) 3)) (x5_1.length:Int))) 2),wrap64 ((wrap64 (Int.tdiv (rd x6_1 (Int.tmod (wrap64 (Int.tdiv (wrap64 (rd l0 x7_1)) 3)) (x5_1.length:Int))) 2)) - (wrap64 ((wrap64 (Int.tdiv (wrap64 (Int.tdiv (rd x6_1 (Int.tmod (wrap64 (Int.tdiv (wrap64 (rd l0 x7_1)) 3)) (x5_1.length:Int))) 2)) 3))*(wrap64 (Int.tmod (rd l0 (wrap64 (x7_1+1))) 2)))))⟩:S37)⟩:S39)]) (y12++ [wrap64 ((wrap64 (Int.tdiv (rd x6_1 (Int.tmod (wrap64 (Int.tdiv (wrap64 (rd l0 x7_1)) 3)) (x5_1.length:Int))) 2)) - (wrap64 (Int.tdiv (wrap64 (Int.tdiv (rd x6_1 (Int.tmod (wrap64 (Int.tdiv (wrap64 (rd l0 x7_1)) 3)) (x5_1.length:Int))) 2)) 3)))]) (wrap64 (x7_1+2))) else (none)) else (none)) else (none)) else (none)))) else (none)) else (none)) else (none)))=some r:=by rw [if_pos rfl] at H;exact H
       clear H
       have H:=H1
       clear H1
       by_cases c20:(x5_1.length:Int)=0
       ·rw [if_pos c20] at H
        exact absurd H (by simp)
       rw [if_neg c20] at H
       have c20b0:((x5_1.length:Int)==0)=false:=beq_eq_false_iff_ne.mpr c20
       have c20b1:((x5_1.length:Int) !=0)=true:=bne_iff_ne.mpr c20
       have c20b2: ¬(x5_1=[]):=fun h_=>c20 (by rw [h_];rfl)
       obtain ⟨ji21,hji21⟩: ∃j_:Int,(Int.tmod (wrap64 (Int.tdiv (wrap64 (rd l0 x7_1)) 3)) (x5_1.length:Int))=j_:=⟨_,rfl⟩
       replace H:(if 0≤(ji21) then (if (ji21)<(x5_1.length:Int) then (if (ji21)<(x6_1.length:Int) then ((some (x6_1.set ((ji21):Int).toNat (wrap64 ((rd x6_1 (ji21)) - (wrap64 (Int.tdiv (rd x6_1 (ji21)) 2)))):List Int)).bind fun y12=>(if a1=true then (if 0≤(wrap64 (x7_1+1)) then (if (wrap64 (x7_1+1))<(l0.length:Int) then (if (Int.tmod (rd l0 (wrap64 (x7_1+1))) 16)=0 then (if x5_1.length<2513169434916 then (if y12.length<17592186044416 then (law11_Make.l0 kj10 l0 a1 (x5_1++ [(⟨(strOfNums y5),(rd_T39 x5_1 (ji21)).f0,(⟨wrap64 ((wrap64 ((wrap64 (Int.tdiv (rd x6_1 (ji21)) 2))*2))+1),wrap64 ((wrap64 ((wrap64 (Int.tdiv (rd x6_1 (ji21)) 2))*2))+1),wrap64 ((wrap64 ((wrap64 ((wrap64 (Int.tdiv (rd x6_1 (ji21)) 2))*2))+1)) - (wrap64 ((wrap64 (Int.tdiv (wrap64 ((wrap64 ((wrap64 (Int.tdiv (rd x6_1 (ji21)) 2))*2))+1)) 3))*(wrap64 (Int.tmod (rd l0 (wrap64 (x7_1+1))) 2)))))⟩:S37)⟩:S39)]) (y12++ [wrap64 ((wrap64 ((wrap64 ((wrap64 (Int.tdiv (rd x6_1 (ji21)) 2))*2))+1)) - (wrap64 (Int.tdiv (wrap64 ((wrap64 ((wrap64 (Int.tdiv (rd x6_1 (ji21)) 2))*2))+1)) 3)))]) (wrap64 (x7_1+2))) else (none)) else (none)) else (if x5_1.length<2513169434916 then (if y12.length<17592186044416 then (law11_Make.l0 kj10 l0 a1 (x5_1++ [(⟨(strOfNums y5),(rd_T39 x5_1 (ji21)).f0,(⟨wrap64 (Int.tdiv (rd x6_1 (ji21)) 2),wrap64 (Int.tdiv (rd x6_1 (ji21)) 2),wrap64 ((wrap64 (Int.tdiv (rd x6_1 (ji21)) 2)) - (wrap64 ((wrap64 (Int.tdiv (wrap64 (Int.tdiv (rd x6_1 (ji21)) 2)) 3))*(wrap64 (Int.tmod (rd l0 (wrap64 (x7_1+1))) 2)))))⟩:S37)⟩:S39)]) (y12++ [wrap64 ((wrap64 (Int.tdiv (rd x6_1 (ji21)) 2)) - (wrap64 (Int.tdiv (wrap64 (Int.tdiv (rd x6_1 (ji21)) 2)) 3)))]) (wrap64 (x7_1+2))) else (none)) else (none))) else (none)) else (none)) else (if 0≤(wrap64 (x7_1+1)) then (if (wrap64 (x7_1+1))<(l0.length:Int) then (if x5_1.length<2513169434916 then (if y12.length<17592186044416 then (law11_Make.l0 kj10 l0 a1 (x5_1++ [(⟨(strOfNums y5),(rd_T39 x5_1 (ji21)).f0,(⟨wrap64 (Int.tdiv (rd x6_1 (ji21)) 2),wrap64 (Int.tdiv (rd x6_1 (ji21)) 2),wrap64 ((wrap64 (Int.tdiv (rd x6_1 (ji21)) 2)) - (wrap64 ((wrap64 (Int.tdiv (wrap64 (Int.tdiv (rd x6_1 (ji21)) 2)) 3))*(wrap64 (Int.tmod (rd l0 (wrap64 (x7_1+1))) 2)))))⟩:S37)⟩:S39)]) (y12++ [wrap64 ((wrap64 (Int.tdiv (rd x6_1 (ji21)) 2)) - (wrap64 (Int.tdiv (wrap64 (Int.tdiv (rd x6_1 (ji21)) 2)) 3)))]) (wrap64 (x7_1+2))) else (none)) else (none)) else (none)) else (none)))) else (none)) else (none)) else (none))=some r:=by first|(rw [hji21] at H;exact H)|(simp only [hji21] at H ⊢;exact H)
       by_cases c22:0≤(ji21)
       rotate_left
       ·rw [if_neg c22] at H
        exact absurd H (by simp)
       rw [if_pos c22] at H
       have c22b0:decide (0≤(ji21))=true:=decide_eq_true c22
       clear c22
       by_cases c23:(ji21)<(x5_1.length:Int)
       rotate_left
       ·rw [if_neg c23] at H
        exact absurd H (by simp)
       rw [if_pos c23] at H
       have c23b0:decide ((ji21)<(x5_1.length:Int))=true:=decide_eq_true c23
       clear c23
       by_cases c24:(ji21)<(x6_1.length:Int)
       rotate_left
       ·rw [if_neg c24] at H
        exact absurd H (by simp)
       rw [if_pos c24] at H
       have c24b0:decide ((ji21)<(x6_1.length:Int))=true:=decide_eq_true c24
       clear c24
       obtain ⟨y12,hy12⟩: ∃y_:List Int,y_=(x6_1.set ((ji21):Int).toNat (wrap64 ((rd x6_1 (ji21)) - (wrap64 (Int.tdiv (rd x6_1 (ji21)) 2))))):=⟨_,rfl⟩
       replace H:(if a1=true then (if 0≤(wrap64 (x7_1+1)) then (if (wrap64 (x7_1+1))<(l0.length:Int) then (if (Int.tmod (rd l0 (wrap64 (x7_1+1))) 16)=0 then (if x5_1.length<2513169434916 then (if y12.length<17592186044416 then (law11_Make.l0 kj10 l0 a1 (x5_1++ [(⟨(strOfNums y5),(rd_T39 x5_1 (ji21)).f0,(⟨wrap64 ((wrap64 ((wrap64 (Int.tdiv (rd x6_1 (ji21)) 2))*2))+1),wrap64 ((wrap64 ((wrap64 (Int.tdiv (rd x6_1 (ji21)) 2))*2))+1),wrap64 ((wrap64 ((wrap64 ((wrap64 (Int.tdiv (rd x6_1 (ji21)) 2))*2))+1)) - (wrap64 ((wrap64 (Int.tdiv (wrap64 ((wrap64 ((wrap64 (Int.tdiv (rd x6_1 (ji21)) 2))*2))+1)) 3))*(wrap64 (Int.tmod (rd l0 (wrap64 (x7_1+1))) 2)))))⟩:S37)⟩:S39)]) (y12++ [wrap64 ((wrap64 ((wrap64 ((wrap64 (Int.tdiv (rd x6_1 (ji21)) 2))*2))+1)) - (wrap64 (Int.tdiv (wrap64 ((wrap64 ((wrap64 (Int.tdiv (rd x6_1 (ji21)) 2))*2))+1)) 3)))]) (wrap64 (x7_1+2))) else (none)) else (none)) else (if x5_1.length<2513169434916 then (if y12.length<17592186044416 then (law11_Make.l0 kj10 l0 a1 (x5_1++ [(⟨(strOfNums y5),(rd_T39 x5_1 (ji21)).f0,(⟨wrap64 (Int.tdiv (rd x6_1 (ji21)) 2),wrap64 (Int.tdiv (rd x6_1 (ji21)) 2),wrap64 ((wrap64 (Int.tdiv (rd x6_1 (ji21)) 2)) - (wrap64 ((wrap64 (Int.tdiv (wrap64 (Int.tdiv (rd x6_1 (ji21)) 2)) 3))*(wrap64 (Int.tmod (rd l0 (wrap64 (x7_1+1))) 2)))))⟩:S37)⟩:S39)]) (y12++ [wrap64 ((wrap64 (Int.tdiv (rd x6_1 (ji21)) 2)) - (wrap64 (Int.tdiv (wrap64 (Int.tdiv (rd x6_1 (ji21)) 2)) 3)))]) (wrap64 (x7_1+2))) else (none)) else (none))) else (none)) else (none)) else (if 0≤(wrap64 (x7_1+1)) then (if (wrap64 (x7_1+1))<(l0.length:Int) then (if x5_1.length<2513169434916 then (if y12.length<17592186044416 then (law11_Make.l0 kj10 l0 a1 (x5_1++ [(⟨(strOfNums y5),(rd_T39 x5_1 (ji21)).f0,(⟨wrap64 (Int.tdiv (rd x6_1 (ji21)) 2),wrap64 (Int.tdiv (rd x6_1 (ji21)) 2),wrap64 ((wrap64 (Int.tdiv (rd x6_1 (ji21)) 2)) - (wrap64 ((wrap64 (Int.tdiv (wrap64 (Int.tdiv (rd x6_1 (ji21)) 2)) 3))*(wrap64 (Int.tmod (rd l0 (wrap64 (x7_1+1))) 2)))))⟩:S37)⟩:S39)]) (y12++ [wrap64 ((wrap64 (Int.tdiv (rd x6_1 (ji21)) 2)) - (wrap64 (Int.tdiv (wrap64 (Int.tdiv (rd x6_1 (ji21)) 2)) 3)))]) (wrap64 (x7_1+2))) else (none)) else (none)) else (none)) else (none)))=some r:=by first|(rw [hy12];with_reducible exact H)|(have H2_:=(Option.bind_some _ _).symm.trans H;rw [hy12];with_reducible exact H2_)|(have H2_:=(Option.bind_some _ _).symm.trans H;with_reducible exact H2_)|with_reducible exact H|(rw [hy12];exact H)|exact H
       have Ny12:=Aside0.mk hy12
       clear hy12
       by_cases c26:a1=true
       rotate_left
       ·replace c26:=Bool.eq_false_iff.mpr c26
        subst c26
        have H1:(if 0≤(wrap64 (x7_1+1)) then (if (wrap64 (x7_1+1))<(l0.length:Int) then (if x5_1.length<2513169434916 then (if y12.length<17592186044416 then (law11_Make.l0 kj10 l0 false (x5_1++ [(⟨(strOfNums y5),(rd_T39 x5_1 (ji21)).f0,(⟨wrap64 (Int.tdiv (rd x6_1 (ji21)) 2),wrap64 (Int.tdiv (rd x6_1 (ji21)) 2),wrap64 ((wrap64 (Int.tdiv (rd x6_1 (ji21)) 2)) - (wrap64 ((wrap64 (Int.tdiv (wrap64 (Int.tdiv (rd x6_1 (ji21)) 2)) 3))*(wrap64 (Int.tmod (rd l0 (wrap64 (x7_1+1))) 2)))))⟩:S37)⟩:S39)]) (y12++ [wrap64 ((wrap64 (Int.tdiv (rd x6_1 (ji21)) 2)) - (wrap64 (Int.tdiv (wrap64 (Int.tdiv (rd x6_1 (ji21)) 2)) 3)))]) (wrap64 (x7_1+2))) else (none)) else (none)) else (none)) else (none))=some r:=by rw [if_neg (show¬(false=true) by decide)] at H;exact H
        clear H
        have H:=H1
        clear H1
        obtain ⟨ji51,hji51⟩: ∃j_:Int,(wrap64 (x7_1+1))=j_:=⟨_,rfl⟩
        replace H:(if 0≤(ji51) then (if (ji51)<(l0.length:Int) then (if x5_1.length<2513169434916 then (if y12.length<17592186044416 then (law11_Make.l0 kj10 l0 false (x5_1++ [(⟨(strOfNums y5),(rd_T39 x5_1 (ji21)).f0,(⟨wrap64 (Int.tdiv (rd x6_1 (ji21)) 2),wrap64 (Int.tdiv (rd x6_1 (ji21)) 2),wrap64 ((wrap64 (Int.tdiv (rd x6_1 (ji21)) 2)) - (wrap64 ((wrap64 (Int.tdiv (wrap64 (Int.tdiv (rd x6_1 (ji21)) 2)) 3))*(wrap64 (Int.tmod (rd l0 (ji51)) 2)))))⟩:S37)⟩:S39)]) (y12++ [wrap64 ((wrap64 (Int.tdiv (rd x6_1 (ji21)) 2)) - (wrap64 (Int.tdiv (wrap64 (Int.tdiv (rd x6_1 (ji21)) 2)) 3)))]) (wrap64 (x7_1+2))) else (none)) else (none)) else (none)) else (none))=some r:=by first|(rw [hji51] at H;exact H)|(simp only [hji51] at H ⊢;exact H)
        have hji51w:(IntKind.i64.wrap (x7_1+1))=ji51:=(i64_w _).trans hji51
        by_cases c52:0≤(ji51)
        rotate_left
        ·rw [if_neg c52] at H
         exact absurd H (by simp)
        rw [if_pos c52] at H
        have c52b0:decide (0≤(ji51))=true:=decide_eq_true c52
        clear c52
        by_cases c53:(ji51)<(l0.length:Int)
        rotate_left
        ·rw [if_neg c53] at H
         exact absurd H (by simp)
        rw [if_pos c53] at H
        have c53b0:decide ((ji51)<(l0.length:Int))=true:=decide_eq_true c53
        clear c53
        by_cases c54:x5_1.length<2513169434916
        rotate_left
        ·rw [if_neg c54] at H
         exact absurd H (by simp)
        rw [if_pos c54] at H
        have LMc54:=Aside0.mk c54
        clear c54
        obtain ⟨y29,hy29⟩: ∃y_:List (S39),y_=(x5_1++ [(⟨(strOfNums y5),(rd_T39 x5_1 (ji21)).f0,(⟨wrap64 (Int.tdiv (rd x6_1 (ji21)) 2),wrap64 (Int.tdiv (rd x6_1 (ji21)) 2),wrap64 ((wrap64 (Int.tdiv (rd x6_1 (ji21)) 2)) - (wrap64 ((wrap64 (Int.tdiv (wrap64 (Int.tdiv (rd x6_1 (ji21)) 2)) 3))*(wrap64 (Int.tmod (rd l0 (ji51)) 2)))))⟩:S37)⟩:S39)]):=⟨_,rfl⟩
        replace H:(if y12.length<17592186044416 then (law11_Make.l0 kj10 l0 false y29 (y12++ [wrap64 ((wrap64 (Int.tdiv (rd x6_1 (ji21)) 2)) - (wrap64 (Int.tdiv (wrap64 (Int.tdiv (rd x6_1 (ji21)) 2)) 3)))]) (wrap64 (x7_1+2))) else (none))=some r:=by first|(rw [hy29];with_reducible exact H)|(have H2_:=(Option.bind_some _ _).symm.trans H;rw [hy29];with_reducible exact H2_)|(have H2_:=(Option.bind_some _ _).symm.trans H;with_reducible exact H2_)|with_reducible exact H|(rw [hy29];exact H)|exact H
        have Ny29:=Aside0.mk hy29
        clear hy29
        by_cases c55:y12.length<17592186044416
        rotate_left
        ·rw [if_neg c55] at H
         exact absurd H (by simp)
        rw [if_pos c55] at H
        have LMc55:=Aside0.mk c55
        clear c55
        obtain ⟨y32,hy32⟩: ∃y_:List Int,y_=(y12++ [wrap64 ((wrap64 (Int.tdiv (rd x6_1 (ji21)) 2)) - (wrap64 (Int.tdiv (wrap64 (Int.tdiv (rd x6_1 (ji21)) 2)) 3)))]):=⟨_,rfl⟩
        replace H:(law11_Make.l0 kj10 l0 false y29 y32 (wrap64 (x7_1+2)))=some r:=by first|(rw [hy32];with_reducible exact H)|(have H2_:=(Option.bind_some _ _).symm.trans H;rw [hy32];with_reducible exact H2_)|(have H2_:=(Option.bind_some _ _).symm.trans H;with_reducible exact H2_)|with_reducible exact H|(rw [hy32];exact H)|exact H
        have Ny32:=Aside0.mk hy32
        clear hy32
        have H':=Aside0.mk H
        clear H
        have p9:0≤((ji21):Int):=of_decide_eq_true zq_
        have q9:(ji21)<(x5_1.length:Int):=of_decide_eq_true zq_
        obtain ⟨ad9,e9,hx9_0,hx9_1,hx9_2,hx9_3,hx9_4⟩:=at_T39 (Kd.R_reads' HO_5.out).2.2 (ji21) p9 q9
        cases e9
        replace p9:=eq_true p9
        replace q9:=eq_true q9
        obtain ⟨hcz56_0,hcz56_1,hcz56_2,hcz56_3,hcz56_4,hfz56_0,hfz56_1,hfz56_2,hfz56_3,hfz56_4⟩:=y5_ BK8
        go_wp2_with (first|((with_reducible refine gate_store (t:=9) (p:=58) rfl ?_);(try (rw [drewN_self wc];generalize hq_:World.drewN wc _=wc;have n0_:=am_ (Kd.R_at hq_ HO_5.out);have n1_:=am_ (Kd.R_at hq_ HO_6.out);have n2_:=am_ (blk_at hq_ BK8.out);have n3_:=am_ (below_at hq_ HB.out);clear hq_ HO_5 HO_6 BK8 HB;have HO_5:=n0_;have HO_6:=n1_;have BK8:=n2_;have HB:=n3_;clear n0_ n1_ n2_ n3_));refine store_event (t:=9) (p:=58) (v:= ?vo_w57) (w1:=(wc.setCell ⟨gb8,1,none⟩ (.string ((rd_T39 x5_1 (ji21)).f0)))) ?hg ?ho ?hn ?hr ?_;(case ho=>rfl);(case hg=>rfl);(case hn=>rfl);(case hr=>first|(go_simp;done)|(go_simp;rfl));intro w57 hw;have n0_:Aside0 (Kd.R k39 39 w57 w.heap.size (fun k_=>k_≠gb8) (.slice (some ad9) x5_1.length co12) x5_1):=⟨(by rw [hw];exact (by refine zt_ ?_;exact Kd.R_mono (Kd.R_far (p:=⟨gb8,1,none⟩) (Kd.R_mono HO_5.out (fun k_ hk=>(⟨hk,hk⟩:_∧k_≠gb8))) (fun _ hk=>hk.2) (.string ((rd_T39 x5_1 (ji21)).f0))) (fun _ hk=>hk.1)))⟩;have n1_:Aside0 (Kd.R (Kd.int .i64) 3 w57 w.heap.size (fun _=>True) u6 x6_1):=⟨(by rw [hw];exact (by refine zt_ ?_;exact Kd.R_mono (Kd.R_far (p:=⟨gb8,1,none⟩) (Kd.R_types HO_6.out BK8.out (by decide)) (fun _ hk=>hk.2) (.string ((rd_T39 x5_1 (ji21)).f0))) (fun _ hk=>trivial)))⟩;have n2_:Aside0 (w57.heap[gb8]?=some (.cells #[.string (strOfNums y5), .string ((rd_T39 x5_1 (ji21)).f0), .int .i64 4096, .int .i64 4096, .int .i64 4096] 39 (0,0))):=⟨(by rw [hw];exact (zw_ BK8))⟩;have n3_:Aside0 (Below w.heap.size w w57):=⟨(by rw [hw];exact (zl1_ HB GE8))⟩;clear hw;clear HO_5;clear HO_6;clear BK8;clear HB;have HO_5:=n0_;have HO_6:=n1_;have BK8:=n2_;have HB:=n3_;clear n0_ n1_ n2_ n3_;obtain ⟨Ao58,co58,eo58⟩:=Kd.R_slice HO_6.out;subst eo58;have p10:0≤((ji21):Int):=of_decide_eq_true zq_;have q10:(ji21)<(x6_1.length:Int):=of_decide_eq_true zq_;obtain ⟨ad10,e10,hx10_0⟩:=Kd.at_int (Kd.R_reads' HO_6.out).2.2 (ji21) p10 q10;cases e10;replace p10:=eq_true p10;replace q10:=eq_true q10;have p11:0≤((ji21):Int):=of_decide_eq_true zq_;have q11:(ji21)<(x6_1.length:Int):=of_decide_eq_true zq_;obtain ⟨ad11,e11,hx11_0⟩:=Kd.at_int (Kd.R_reads' HO_6.out).2.2 (ji21) p11 q11;obtain rfl:ad10=ad11:=(by injection e11);replace p11:=eq_true p11;replace q11:=eq_true q11;have p25:0≤((ji21):Int):=of_decide_eq_true zq_;have q25:((ji21):Int)<((x6_1.length:Int):Int):=of_decide_eq_true zq_;obtain ⟨go25,co25,eo25,gb25,gl25,cl25,HG25⟩:=Kd.R_form HO_6.out (by omega);(first|cases eo25|(injection eo25 with ea_ en_ ec_;(first|subst ea_|(injection ea_ with ea_;subst ea_));subst ec_;clear en_));have GB25:=Aside0.mk gb25;have GG25:=Aside0.mk HG25;clear gb25 gl25 HG25;replace hx10_0:=zv_ hx10_0;replace hx11_0:=zv_ hx11_0;obtain ⟨hx25_0,hf25_0⟩:=Kd.R_celln 0 HO_6.out ((ji21):Int) p25 q25;replace p25:=eq_true p25;replace q25:=eq_true q25;obtain ⟨hy59_,hz59_⟩:=Kd.R_celln 0 HO_6.out ((ji21):Int) (of_decide_eq_true zq_) (of_decide_eq_true zq_);have HP59:=Kd.R_putg HO_6.out ((ji21):Int) (wrap64 ((rd x6_1 (ji21)) - (wrap64 (Int.tdiv (rd x6_1 (ji21)) 2)))))|((with_reducible refine gate_store (t:=3) (p:=72) rfl ?_);(try (rw [drewN_self w57];generalize hq_:World.drewN w57 _=w57;have n0_:=am_ (Kd.R_at hq_ HO_5.out);have n1_:=am_ (Kd.R_at hq_ HO_6.out);have n2_:=am_ (blk_at hq_ BK8.out);have n3_:=am_ (below_at hq_ HB.out);clear hq_ HO_5 HO_6 BK8 HB;have HO_5:=n0_;have HO_6:=n1_;have BK8:=n2_;have HB:=n3_;clear n0_ n1_ n2_ n3_;(try (obtain ⟨hy59_,hz59_⟩:=Kd.R_celln 0 HO_6.out ((ji21):Int) (of_decide_eq_true zq_) (of_decide_eq_true zq_)));(try (have HP59:=Kd.R_putg HO_6.out ((ji21):Int) (wrap64 ((rd x6_1 (ji21)) - (wrap64 (Int.tdiv (rd x6_1 (ji21)) 2))))))));refine store_event (t:=3) (p:=72) (v:= ?vo_w60) (w1:=(w57.setCell ⟨go25,((ji21):Int).toNat,none⟩ (.int .i64 (wrap64 ((rd x6_1 (ji21)) - (wrap64 (Int.tdiv (rd x6_1 (ji21)) 2))))))) ?hg ?ho ?hn ?hr ?_;(case ho=>rfl);(case hg=>rfl);(case hn=>rfl);(case hr=>first|(go_simp;done)|(go_simp;rfl));intro w60 hw;have hg:w57.grownBy w60 (some go25):=(by rw [hw];exact HP59.2);have hp_:Kd.R (Kd.int .i64) 3 w60 w.heap.size (fun _=>True) (.slice (some ⟨go25,0,none⟩) x6_1.length co58) y12:=(by rw [hw,Ny12.out];exact HP59.1);clear HP59;replace HO_5:=am_ (Kd.R_over' (v:=(.slice (some ⟨go25,0,none⟩) x6_1.length co58)) (zr_ HO_5) (Kd.R_typed HO_6.out) (by decide) hg);replace BK8:=am_ (blk_grown (zb_ BK8) hg (Kd.R_ne HO_6.out BK8.out (by decide)));replace HO_6:=am_ (hp_);replace HB:=am_ ((by rw [hw];exact below_set (HB.out) GB25.out:Below w.heap.size w w60));clear hg hw hp_;have p28:0≤((ji51):Int):=of_decide_eq_true zq_;have q28:(ji51)<(l0.length:Int):=of_decide_eq_true zq_;obtain ⟨ad28,e28,hx28_0⟩:=Kd.at_int HR0.out (ji51) p28 q28;obtain rfl:ad4=ad28:=(by injection e28);replace hx28_0:=zx_ HB hx28_0;replace p28:=eq_true p28;replace q28:=eq_true q28;obtain ⟨hcz61_0,hcz61_1,hcz61_2,hcz61_3,hcz61_4⟩:=x5_ BK8;have hfz61_0:=blk_frozen BK8.out 0;have hfz61_1:=blk_frozen BK8.out 1;have hfz61_2:=blk_frozen BK8.out 2;have hfz61_3:=blk_frozen BK8.out 3;have hfz61_4:=blk_frozen BK8.out 4)|((with_reducible refine gate_builtin (b:= .append) (xs:=#[.tmp 102, .tmp 104]) rfl ?_);(try (refine gate_guard (by rfl) ?_;dsimp only));at_builtin;refine Kd.R_append k39 (w0:=w) w.heap.size rfl (.tmp 102) (.tmp 104) 22 39 (.agg #[(.string ⟨#[]⟩),(.string ⟨#[]⟩),(.int .i64 0),(.int .i64 0),(.int .i64 0)]) 56 rfl Try.underlying22 info39 rfl (by decide) (by omega) (.slice (some ad9) x5_1.length co12) x5_1 (⟨(strOfNums y5),(rd_T39 x5_1 (ji21)).f0,(⟨wrap64 (Int.tdiv (rd x6_1 (ji21)) 2),wrap64 (Int.tdiv (rd x6_1 (ji21)) 2),wrap64 ((wrap64 (Int.tdiv (rd x6_1 (ji21)) 2)) - (wrap64 ((wrap64 (Int.tdiv (wrap64 (Int.tdiv (rd x6_1 (ji21)) 2)) 3))*(wrap64 (Int.tmod (rd l0 (ji51)) 2)))))⟩:S37)⟩:S39) [.string (strOfNums y5), .string ((rd_T39 x5_1 (ji21)).f0), .int .i64 (wrap64 (Int.tdiv (rd x6_1 (ji21)) 2)), .int .i64 (wrap64 (Int.tdiv (rd x6_1 (ji21)) 2)), .int .i64 (wrap64 ((wrap64 (Int.tdiv (rd x6_1 (ji21)) 2)) - (wrap64 ((wrap64 (Int.tdiv (wrap64 (Int.tdiv (rd x6_1 (ji21)) 2)) 3))*(wrap64 (Int.tmod (rd l0 (ji51)) 2))))))] (fun k_=>k_≠gb8) (fun _=>False) rfl (by first|(go_simp;done)|(go_simp;rfl)) ?aP (fun _ hk=>hk.elim) ?aF ?aO ?aB ?aS ?aL ?_;(case aP=>exact k39_mkM _ _ _ (⟨(strOfNums y5),(rd_T39 x5_1 (ji21)).f0,(⟨wrap64 (Int.tdiv (rd x6_1 (ji21)) 2),wrap64 (Int.tdiv (rd x6_1 (ji21)) 2),wrap64 ((wrap64 (Int.tdiv (rd x6_1 (ji21)) 2)) - (wrap64 ((wrap64 (Int.tdiv (wrap64 (Int.tdiv (rd x6_1 (ji21)) 2)) 3))*(wrap64 (Int.tmod (rd l0 (ji51)) 2)))))⟩:S37)⟩:S39));(case aB=>exact (zl1_ HB GE8));(case aF=>exact (fun k_ hk=>Kd.freshB (g:=gb8) (o:= .cells #[.string (strOfNums y5), .string ((rd_T39 x5_1 (ji21)).f0), .int .i64 (wrap64 (Int.tdiv (rd x6_1 (ji21)) 2)), .int .i64 (wrap64 (Int.tdiv (rd x6_1 (ji21)) 2)), .int .i64 (wrap64 ((wrap64 (Int.tdiv (rd x6_1 (ji21)) 2)) - (wrap64 ((wrap64 (Int.tdiv (wrap64 (Int.tdiv (rd x6_1 (ji21)) 2)) 3))*(wrap64 (Int.tmod (rd l0 (ji51)) 2))))))] 39 (0,0)) (zw_ BK8) k_ hk));(case aO=>exact (by refine zt_ ?_;exact Kd.R_mono (Kd.R_far (p:=⟨gb8,4,none⟩) (Kd.R_far (p:=⟨gb8,3,none⟩) (Kd.R_far (p:=⟨gb8,2,none⟩) (Kd.R_mono HO_5.out (fun k_ hk=>(⟨hk,hk⟩:_∧k_≠gb8))) (fun _ hk=>hk.2) (.int .i64 (wrap64 (Int.tdiv (rd x6_1 (ji21)) 2)))) (fun _ hk=>hk.2) (.int .i64 (wrap64 (Int.tdiv (rd x6_1 (ji21)) 2)))) (fun _ hk=>hk.2) (.int .i64 (wrap64 ((wrap64 (Int.tdiv (rd x6_1 (ji21)) 2)) - (wrap64 ((wrap64 (Int.tdiv (wrap64 (Int.tdiv (rd x6_1 (ji21)) 2)) 3))*(wrap64 (Int.tmod (rd l0 (ji51)) 2)))))))) (fun _ hk=>hk.1)));(case aS=>exact (below_size (zl1_ HB GE8)));(case aL=>have:=LMc54.out;omega);intro v30 w62 ho hb hg hat;rw [←Ny29.out] at ho;have n0_:=am_ (Kd.R_over' (by refine zt_ ?_;exact (Kd.R_mono (Kd.R_far (p:=⟨gb8,4,none⟩) (Kd.R_far (p:=⟨gb8,3,none⟩) (Kd.R_far (p:=⟨gb8,2,none⟩) (Kd.R_types HO_6.out BK8.out (by decide)) (fun _ hk=>hk.2) (.int .i64 (wrap64 (Int.tdiv (rd x6_1 (ji21)) 2)))) (fun _ hk=>hk.2) (.int .i64 (wrap64 (Int.tdiv (rd x6_1 (ji21)) 2)))) (fun _ hk=>hk.2) (.int .i64 (wrap64 ((wrap64 (Int.tdiv (rd x6_1 (ji21)) 2)) - (wrap64 ((wrap64 (Int.tdiv (wrap64 (Int.tdiv (rd x6_1 (ji21)) 2)) 3))*(wrap64 (Int.tmod (rd l0 (ji51)) 2)))))))) (fun _ h_=>h_.1))) (Kd.R_typed (by refine zt_ ?_;exact (Kd.R_mono (Kd.R_far (p:=⟨gb8,4,none⟩) (Kd.R_far (p:=⟨gb8,3,none⟩) (Kd.R_far (p:=⟨gb8,2,none⟩) (Kd.R_mono HO_5.out (fun k_ hk=>(⟨hk,hk⟩:_∧k_≠gb8))) (fun _ hk=>hk.2) (.int .i64 (wrap64 (Int.tdiv (rd x6_1 (ji21)) 2)))) (fun _ hk=>hk.2) (.int .i64 (wrap64 (Int.tdiv (rd x6_1 (ji21)) 2)))) (fun _ hk=>hk.2) (.int .i64 (wrap64 ((wrap64 (Int.tdiv (rd x6_1 (ji21)) 2)) - (wrap64 ((wrap64 (Int.tdiv (wrap64 (Int.tdiv (rd x6_1 (ji21)) 2)) 3))*(wrap64 (Int.tmod (rd l0 (ji51)) 2)))))))) (fun _ h_=>h_.1)))) (by decide) hg);have n1_:=am_ (blk_grown (g:=gb8) (o:= .cells #[.string (strOfNums y5), .string ((rd_T39 x5_1 (ji21)).f0), .int .i64 (wrap64 (Int.tdiv (rd x6_1 (ji21)) 2)), .int .i64 (wrap64 (Int.tdiv (rd x6_1 (ji21)) 2)), .int .i64 (wrap64 ((wrap64 (Int.tdiv (rd x6_1 (ji21)) 2)) - (wrap64 ((wrap64 (Int.tdiv (wrap64 (Int.tdiv (rd x6_1 (ji21)) 2)) 3))*(wrap64 (Int.tmod (rd l0 (ji51)) 2))))))] 39 (0,0)) (zw_ BK8) hg (Kd.R_away HO_5.out (fun _ hk=>hk)));have n2_:=am_ (hb);have n3_:=am_ (ho);clear HO_6;clear BK8;clear HB;clear HO_5;have HO_6:=n0_;have BK8:=n1_;have HB:=n2_;have HO31:=n3_;clear n0_ n1_ n2_ n3_;clear ho hb hg hat)|((with_reducible refine gate_builtin (b:= .append) (xs:=#[.tmp 106, .tmp 111]) rfl ?_);(try (refine gate_guard (by rfl) ?_;dsimp only));at_builtin;refine Kd.R_append (Kd.int .i64) (w0:=w) w.heap.size rfl (.tmp 106) (.tmp 111) 122 3 (.int .i64 0) 8 rfl Try.underlying122 info3 rfl (by decide) (by omega) (.slice (some ⟨go25,0,none⟩) x6_1.length co58) y12 (wrap64 ((wrap64 (Int.tdiv (rd x6_1 (ji21)) 2)) - (wrap64 (Int.tdiv (wrap64 (Int.tdiv (rd x6_1 (ji21)) 2)) 3)))) [.int .i64 (wrap64 ((wrap64 (Int.tdiv (rd x6_1 (ji21)) 2)) - (wrap64 (Int.tdiv (wrap64 (Int.tdiv (rd x6_1 (ji21)) 2)) 3))))] (fun _=>True) (fun _=>False) rfl rfl ?aP (fun _ hk=>hk.elim) ?aF ?aO ?aB ?aS ?aL ?_;(case aP=>exact rfl);(case aB=>exact (zl1_ HB GE8));(case aF=>exact (fun _ _=>trivial));(case aO=>exact (zr_ HO_6));(case aS=>exact (below_size (zl1_ HB GE8)));(case aL=>have:=LMc55.out;omega);intro v33 w63 ho hb hg hat;rw [←Ny32.out] at ho;have n0_:=am_ (blk_grown (zb_ BK8) hg (Kd.R_ne HO_6.out BK8.out (by decide)));have n1_:=am_ (Kd.R_over' (zr_ HO31) (Kd.R_typed (zr_ HO_6)) (by decide) hg);have n2_:=am_ (hb);have n3_:=am_ (ho);clear BK8;clear HO31;clear HB;clear HO_6;have BK8:=n0_;have HO31:=n1_;have HB:=n2_;have HO34:=n3_;clear n0_ n1_ n2_ n3_;clear ho hb hg hat))
        repeat (go_quiet (first|((with_reducible refine gate_store (t:=9) (p:=58) rfl ?_);(try (rw [drewN_self wc];generalize hq_:World.drewN wc _=wc;have n0_:=am_ (Kd.R_at hq_ HO_5.out);have n1_:=am_ (Kd.R_at hq_ HO_6.out);have n2_:=am_ (blk_at hq_ BK8.out);have n3_:=am_ (below_at hq_ HB.out);clear hq_ HO_5 HO_6 BK8 HB;have HO_5:=n0_;have HO_6:=n1_;have BK8:=n2_;have HB:=n3_;clear n0_ n1_ n2_ n3_));refine store_event (t:=9) (p:=58) (v:= ?vo_w57) (w1:=(wc.setCell ⟨gb8,1,none⟩ (.string ((rd_T39 x5_1 (ji21)).f0)))) ?hg ?ho ?hn ?hr ?_;(case ho=>rfl);(case hg=>rfl);(case hn=>rfl);(case hr=>first|(go_simp;done)|(go_simp;rfl));intro w57 hw;have n0_:Aside0 (Kd.R k39 39 w57 w.heap.size (fun k_=>k_≠gb8) (.slice (some ad9) x5_1.length co12) x5_1):=⟨(by rw [hw];exact (by refine zt_ ?_;exact Kd.R_mono (Kd.R_far (p:=⟨gb8,1,none⟩) (Kd.R_mono HO_5.out (fun k_ hk=>(⟨hk,hk⟩:_∧k_≠gb8))) (fun _ hk=>hk.2) (.string ((rd_T39 x5_1 (ji21)).f0))) (fun _ hk=>hk.1)))⟩;have n1_:Aside0 (Kd.R (Kd.int .i64) 3 w57 w.heap.size (fun _=>True) u6 x6_1):=⟨(by rw [hw];exact (by refine zt_ ?_;exact Kd.R_mono (Kd.R_far (p:=⟨gb8,1,none⟩) (Kd.R_types HO_6.out BK8.out (by decide)) (fun _ hk=>hk.2) (.string ((rd_T39 x5_1 (ji21)).f0))) (fun _ hk=>trivial)))⟩;have n2_:Aside0 (w57.heap[gb8]?=some (.cells #[.string (strOfNums y5), .string ((rd_T39 x5_1 (ji21)).f0), .int .i64 4096, .int .i64 4096, .int .i64 4096] 39 (0,0))):=⟨(by rw [hw];exact (zw_ BK8))⟩;have n3_:Aside0 (Below w.heap.size w w57):=⟨(by rw [hw];exact (zl1_ HB GE8))⟩;clear hw;clear HO_5;clear HO_6;clear BK8;clear HB;have HO_5:=n0_;have HO_6:=n1_;have BK8:=n2_;have HB:=n3_;clear n0_ n1_ n2_ n3_;obtain ⟨Ao58,co58,eo58⟩:=Kd.R_slice HO_6.out;subst eo58;have p10:0≤((ji21):Int):=of_decide_eq_true zq_;have q10:(ji21)<(x6_1.length:Int):=of_decide_eq_true zq_;obtain ⟨ad10,e10,hx10_0⟩:=Kd.at_int (Kd.R_reads' HO_6.out).2.2 (ji21) p10 q10;cases e10;replace p10:=eq_true p10;replace q10:=eq_true q10;have p11:0≤((ji21):Int):=of_decide_eq_true zq_;have q11:(ji21)<(x6_1.length:Int):=of_decide_eq_true zq_;obtain ⟨ad11,e11,hx11_0⟩:=Kd.at_int (Kd.R_reads' HO_6.out).2.2 (ji21) p11 q11;obtain rfl:ad10=ad11:=(by injection e11);replace p11:=eq_true p11;replace q11:=eq_true q11;have p25:0≤((ji21):Int):=of_decide_eq_true zq_;have q25:((ji21):Int)<((x6_1.length:Int):Int):=of_decide_eq_true zq_;obtain ⟨go25,co25,eo25,gb25,gl25,cl25,HG25⟩:=Kd.R_form HO_6.out (by omega);(first|cases eo25|(injection eo25 with ea_ en_ ec_;(first|subst ea_|(injection ea_ with ea_;subst ea_));subst ec_;clear en_));have GB25:=Aside0.mk gb25;have GG25:=Aside0.mk HG25;clear gb25 gl25 HG25;replace hx10_0:=zv_ hx10_0;replace hx11_0:=zv_ hx11_0;obtain ⟨hx25_0,hf25_0⟩:=Kd.R_celln 0 HO_6.out ((ji21):Int) p25 q25;replace p25:=eq_true p25;replace q25:=eq_true q25;obtain ⟨hy59_,hz59_⟩:=Kd.R_celln 0 HO_6.out ((ji21):Int) (of_decide_eq_true zq_) (of_decide_eq_true zq_);have HP59:=Kd.R_putg HO_6.out ((ji21):Int) (wrap64 ((rd x6_1 (ji21)) - (wrap64 (Int.tdiv (rd x6_1 (ji21)) 2)))))|((with_reducible refine gate_store (t:=3) (p:=72) rfl ?_);(try (rw [drewN_self w57];generalize hq_:World.drewN w57 _=w57;have n0_:=am_ (Kd.R_at hq_ HO_5.out);have n1_:=am_ (Kd.R_at hq_ HO_6.out);have n2_:=am_ (blk_at hq_ BK8.out);have n3_:=am_ (below_at hq_ HB.out);clear hq_ HO_5 HO_6 BK8 HB;have HO_5:=n0_;have HO_6:=n1_;have BK8:=n2_;have HB:=n3_;clear n0_ n1_ n2_ n3_;(try (obtain ⟨hy59_,hz59_⟩:=Kd.R_celln 0 HO_6.out ((ji21):Int) (of_decide_eq_true zq_) (of_decide_eq_true zq_)));(try (have HP59:=Kd.R_putg HO_6.out ((ji21):Int) (wrap64 ((rd x6_1 (ji21)) - (wrap64 (Int.tdiv (rd x6_1 (ji21)) 2))))))));refine store_event (t:=3) (p:=72) (v:= ?vo_w60) (w1:=(w57.setCell ⟨go25,((ji21):Int).toNat,none⟩ (.int .i64 (wrap64 ((rd x6_1 (ji21)) - (wrap64 (Int.tdiv (rd x6_1 (ji21)) 2))))))) ?hg ?ho ?hn ?hr ?_;(case ho=>rfl);(case hg=>rfl);(case hn=>rfl);(case hr=>first|(go_simp;done)|(go_simp;rfl));intro w60 hw;have hg:w57.grownBy w60 (some go25):=(by rw [hw];exact HP59.2);have hp_:Kd.R (Kd.int .i64) 3 w60 w.heap.size (fun _=>True) (.slice (some ⟨go25,0,none⟩) x6_1.length co58) y12:=(by rw [hw,Ny12.out];exact HP59.1);clear HP59;replace HO_5:=am_ (Kd.R_over' (v:=(.slice (some ⟨go25,0,none⟩) x6_1.length co58)) (zr_ HO_5) (Kd.R_typed HO_6.out) (by decide) hg);replace BK8:=am_ (blk_grown (zb_ BK8) hg (Kd.R_ne HO_6.out BK8.out (by decide)));replace HO_6:=am_ (hp_);replace HB:=am_ ((by rw [hw];exact below_set (HB.out) GB25.out:Below w.heap.size w w60));clear hg hw hp_;have p28:0≤((ji51):Int):=of_decide_eq_true zq_;have q28:(ji51)<(l0.length:Int):=of_decide_eq_true zq_;obtain ⟨ad28,e28,hx28_0⟩:=Kd.at_int HR0.out (ji51) p28 q28;obtain rfl:ad4=ad28:=(by injection e28);replace hx28_0:=zx_ HB hx28_0;replace p28:=eq_true p28;replace q28:=eq_true q28;obtain ⟨hcz61_0,hcz61_1,hcz61_2,hcz61_3,hcz61_4⟩:=x5_ BK8;have hfz61_0:=blk_frozen BK8.out 0;have hfz61_1:=blk_frozen BK8.out 1;have hfz61_2:=blk_frozen BK8.out 2;have hfz61_3:=blk_frozen BK8.out 3;have hfz61_4:=blk_frozen BK8.out 4)|((with_reducible refine gate_builtin (b:= .append) (xs:=#[.tmp 102, .tmp 104]) rfl ?_);(try (refine gate_guard (by rfl) ?_;dsimp only));at_builtin;refine Kd.R_append k39 (w0:=w) w.heap.size rfl (.tmp 102) (.tmp 104) 22 39 (.agg #[(.string ⟨#[]⟩),(.string ⟨#[]⟩),(.int .i64 0),(.int .i64 0),(.int .i64 0)]) 56 rfl Try.underlying22 info39 rfl (by decide) (by omega) (.slice (some ad9) x5_1.length co12) x5_1 (⟨(strOfNums y5),(rd_T39 x5_1 (ji21)).f0,(⟨wrap64 (Int.tdiv (rd x6_1 (ji21)) 2),wrap64 (Int.tdiv (rd x6_1 (ji21)) 2),wrap64 ((wrap64 (Int.tdiv (rd x6_1 (ji21)) 2)) - (wrap64 ((wrap64 (Int.tdiv (wrap64 (Int.tdiv (rd x6_1 (ji21)) 2)) 3))*(wrap64 (Int.tmod (rd l0 (ji51)) 2)))))⟩:S37)⟩:S39) [.string (strOfNums y5), .string ((rd_T39 x5_1 (ji21)).f0), .int .i64 (wrap64 (Int.tdiv (rd x6_1 (ji21)) 2)), .int .i64 (wrap64 (Int.tdiv (rd x6_1 (ji21)) 2)), .int .i64 (wrap64 ((wrap64 (Int.tdiv (rd x6_1 (ji21)) 2)) - (wrap64 ((wrap64 (Int.tdiv (wrap64 (Int.tdiv (rd x6_1 (ji21)) 2)) 3))*(wrap64 (Int.tmod (rd l0 (ji51)) 2))))))] (fun k_=>k_≠gb8) (fun _=>False) rfl (by first|(go_simp;done)|(go_simp;rfl)) ?aP (fun _ hk=>hk.elim) ?aF ?aO ?aB ?aS ?aL ?_;(case aP=>exact k39_mkM _ _ _ (⟨(strOfNums y5),(rd_T39 x5_1 (ji21)).f0,(⟨wrap64 (Int.tdiv (rd x6_1 (ji21)) 2),wrap64 (Int.tdiv (rd x6_1 (ji21)) 2),wrap64 ((wrap64 (Int.tdiv (rd x6_1 (ji21)) 2)) - (wrap64 ((wrap64 (Int.tdiv (wrap64 (Int.tdiv (rd x6_1 (ji21)) 2)) 3))*(wrap64 (Int.tmod (rd l0 (ji51)) 2)))))⟩:S37)⟩:S39));(case aB=>exact (zl1_ HB GE8));(case aF=>exact (fun k_ hk=>Kd.freshB (g:=gb8) (o:= .cells #[.string (strOfNums y5), .string ((rd_T39 x5_1 (ji21)).f0), .int .i64 (wrap64 (Int.tdiv (rd x6_1 (ji21)) 2)), .int .i64 (wrap64 (Int.tdiv (rd x6_1 (ji21)) 2)), .int .i64 (wrap64 ((wrap64 (Int.tdiv (rd x6_1 (ji21)) 2)) - (wrap64 ((wrap64 (Int.tdiv (wrap64 (Int.tdiv (rd x6_1 (ji21)) 2)) 3))*(wrap64 (Int.tmod (rd l0 (ji51)) 2))))))] 39 (0,0)) (zw_ BK8) k_ hk));(case aO=>exact (by refine zt_ ?_;exact Kd.R_mono (Kd.R_far (p:=⟨gb8,4,none⟩) (Kd.R_far (p:=⟨gb8,3,none⟩) (Kd.R_far (p:=⟨gb8,2,none⟩) (Kd.R_mono HO_5.out (fun k_ hk=>(⟨hk,hk⟩:_∧k_≠gb8))) (fun _ hk=>hk.2) (.int .i64 (wrap64 (Int.tdiv (rd x6_1 (ji21)) 2)))) (fun _ hk=>hk.2) (.int .i64 (wrap64 (Int.tdiv (rd x6_1 (ji21)) 2)))) (fun _ hk=>hk.2) (.int .i64 (wrap64 ((wrap64 (Int.tdiv (rd x6_1 (ji21)) 2)) - (wrap64 ((wrap64 (Int.tdiv (wrap64 (Int.tdiv (rd x6_1 (ji21)) 2)) 3))*(wrap64 (Int.tmod (rd l0 (ji51)) 2)))))))) (fun _ hk=>hk.1)));(case aS=>exact (below_size (zl1_ HB GE8)));(case aL=>have:=LMc54.out;omega);intro v30 w62 ho hb hg hat;rw [←Ny29.out] at ho;have n0_:=am_ (Kd.R_over' (by refine zt_ ?_;exact (Kd.R_mono (Kd.R_far (p:=⟨gb8,4,none⟩) (Kd.R_far (p:=⟨gb8,3,none⟩) (Kd.R_far (p:=⟨gb8,2,none⟩) (Kd.R_types HO_6.out BK8.out (by decide)) (fun _ hk=>hk.2) (.int .i64 (wrap64 (Int.tdiv (rd x6_1 (ji21)) 2)))) (fun _ hk=>hk.2) (.int .i64 (wrap64 (Int.tdiv (rd x6_1 (ji21)) 2)))) (fun _ hk=>hk.2) (.int .i64 (wrap64 ((wrap64 (Int.tdiv (rd x6_1 (ji21)) 2)) - (wrap64 ((wrap64 (Int.tdiv (wrap64 (Int.tdiv (rd x6_1 (ji21)) 2)) 3))*(wrap64 (Int.tmod (rd l0 (ji51)) 2)))))))) (fun _ h_=>h_.1))) (Kd.R_typed (by refine zt_ ?_;exact (Kd.R_mono (Kd.R_far (p:=⟨gb8,4,none⟩) (Kd.R_far (p:=⟨gb8,3,none⟩) (Kd.R_far (p:=⟨gb8,2,none⟩) (Kd.R_mono HO_5.out (fun k_ hk=>(⟨hk,hk⟩:_∧k_≠gb8))) (fun _ hk=>hk.2) (.int .i64 (wrap64 (Int.tdiv (rd x6_1 (ji21)) 2)))) (fun _ hk=>hk.2) (.int .i64 (wrap64 (Int.tdiv (rd x6_1 (ji21)) 2)))) (fun _ hk=>hk.2) (.int .i64 (wrap64 ((wrap64 (Int.tdiv (rd x6_1 (ji21)) 2)) - (wrap64 ((wrap64 (Int.tdiv (wrap64 (Int.tdiv (rd x6_1 (ji21)) 2)) 3))*(wrap64 (Int.tmod (rd l0 (ji51)) 2)))))))) (fun _ h_=>h_.1)))) (by decide) hg);have n1_:=am_ (blk_grown (g:=gb8) (o:= .cells #[.string (strOfNums y5), .string ((rd_T39 x5_1 (ji21)).f0), .int .i64 (wrap64 (Int.tdiv (rd x6_1 (ji21)) 2)), .int .i64 (wrap64 (Int.tdiv (rd x6_1 (ji21)) 2)), .int .i64 (wrap64 ((wrap64 (Int.tdiv (rd x6_1 (ji21)) 2)) - (wrap64 ((wrap64 (Int.tdiv (wrap64 (Int.tdiv (rd x6_1 (ji21)) 2)) 3))*(wrap64 (Int.tmod (rd l0 (ji51)) 2))))))] 39 (0,0)) (zw_ BK8) hg (Kd.R_away HO_5.out (fun _ hk=>hk)));have n2_:=am_ (hb);have n3_:=am_ (ho);clear HO_6;clear BK8;clear HB;clear HO_5;have HO_6:=n0_;have BK8:=n1_;have HB:=n2_;have HO31:=n3_;clear n0_ n1_ n2_ n3_;clear ho hb hg hat)|((with_reducible refine gate_builtin (b:= .append) (xs:=#[.tmp 106, .tmp 111]) rfl ?_);(try (refine gate_guard (by rfl) ?_;dsimp only));at_builtin;refine Kd.R_append (Kd.int .i64) (w0:=w) w.heap.size rfl (.tmp 106) (.tmp 111) 122 3 (.int .i64 0) 8 rfl Try.underlying122 info3 rfl (by decide) (by omega) (.slice (some ⟨go25,0,none⟩) x6_1.length co58) y12 (wrap64 ((wrap64 (Int.tdiv (rd x6_1 (ji21)) 2)) - (wrap64 (Int.tdiv (wrap64 (Int.tdiv (rd x6_1 (ji21)) 2)) 3)))) [.int .i64 (wrap64 ((wrap64 (Int.tdiv (rd x6_1 (ji21)) 2)) - (wrap64 (Int.tdiv (wrap64 (Int.tdiv (rd x6_1 (ji21)) 2)) 3))))] (fun _=>True) (fun _=>False) rfl rfl ?aP (fun _ hk=>hk.elim) ?aF ?aO ?aB ?aS ?aL ?_;(case aP=>exact rfl);(case aB=>exact (zl1_ HB GE8));(case aF=>exact (fun _ _=>trivial));(case aO=>exact (zr_ HO_6));(case aS=>exact (below_size (zl1_ HB GE8)));(case aL=>have:=LMc55.out;omega);intro v33 w63 ho hb hg hat;rw [←Ny32.out] at ho;have n0_:=am_ (blk_grown (zb_ BK8) hg (Kd.R_ne HO_6.out BK8.out (by decide)));have n1_:=am_ (Kd.R_over' (zr_ HO31) (Kd.R_typed (zr_ HO_6)) (by decide) hg);have n2_:=am_ (hb);have n3_:=am_ (ho);clear BK8;clear HO31;clear HB;clear HO_6;have BK8:=n0_;have HO31:=n1_;have HB:=n2_;have HO34:=n3_;clear n0_ n1_ n2_ n3_;clear ho hb hg hat));try go_wp2_with (first|((with_reducible refine gate_store (t:=9) (p:=58) rfl ?_);(try (rw [drewN_self wc];generalize hq_:World.drewN wc _=wc;have n0_:=am_ (Kd.R_at hq_ HO_5.out);have n1_:=am_ (Kd.R_at hq_ HO_6.out);have n2_:=am_ (blk_at hq_ BK8.out);have n3_:=am_ (below_at hq_ HB.out);clear hq_ HO_5 HO_6 BK8 HB;have HO_5:=n0_;have HO_6:=n1_;have BK8:=n2_;have HB:=n3_;clear n0_ n1_ n2_ n3_));refine store_event (t:=9) (p:=58) (v:= ?vo_w57) (w1:=(wc.setCell ⟨gb8,1,none⟩ (.string ((rd_T39 x5_1 (ji21)).f0)))) ?hg ?ho ?hn ?hr ?_;(case ho=>rfl);(case hg=>rfl);(case hn=>rfl);(case hr=>first|(go_simp;done)|(go_simp;rfl));intro w57 hw;have n0_:Aside0 (Kd.R k39 39 w57 w.heap.size (fun k_=>k_≠gb8) (.slice (some ad9) x5_1.length co12) x5_1):=⟨(by rw [hw];exact (by refine zt_ ?_;exact Kd.R_mono (Kd.R_far (p:=⟨gb8,1,none⟩) (Kd.R_mono HO_5.out (fun k_ hk=>(⟨hk,hk⟩:_∧k_≠gb8))) (fun _ hk=>hk.2) (.string ((rd_T39 x5_1 (ji21)).f0))) (fun _ hk=>hk.1)))⟩;have n1_:Aside0 (Kd.R (Kd.int .i64) 3 w57 w.heap.size (fun _=>True) u6 x6_1):=⟨(by rw [hw];exact (by refine zt_ ?_;exact Kd.R_mono (Kd.R_far (p:=⟨gb8,1,none⟩) (Kd.R_types HO_6.out BK8.out (by decide)) (fun _ hk=>hk.2) (.string ((rd_T39 x5_1 (ji21)).f0))) (fun _ hk=>trivial)))⟩;have n2_:Aside0 (w57.heap[gb8]?=some (.cells #[.string (strOfNums y5), .string ((rd_T39 x5_1 (ji21)).f0), .int .i64 4096, .int .i64 4096, .int .i64 4096] 39 (0,0))):=⟨(by rw [hw];exact (zw_ BK8))⟩;have n3_:Aside0 (Below w.heap.size w w57):=⟨(by rw [hw];exact (zl1_ HB GE8))⟩;clear hw;clear HO_5;clear HO_6;clear BK8;clear HB;have HO_5:=n0_;have HO_6:=n1_;have BK8:=n2_;have HB:=n3_;clear n0_ n1_ n2_ n3_;obtain ⟨Ao58,co58,eo58⟩:=Kd.R_slice HO_6.out;subst eo58;have p10:0≤((ji21):Int):=of_decide_eq_true zq_;have q10:(ji21)<(x6_1.length:Int):=of_decide_eq_true zq_;obtain ⟨ad10,e10,hx10_0⟩:=Kd.at_int (Kd.R_reads' HO_6.out).2.2 (ji21) p10 q10;cases e10;replace p10:=eq_true p10;replace q10:=eq_true q10;have p11:0≤((ji21):Int):=of_decide_eq_true zq_;have q11:(ji21)<(x6_1.length:Int):=of_decide_eq_true zq_;obtain ⟨ad11,e11,hx11_0⟩:=Kd.at_int (Kd.R_reads' HO_6.out).2.2 (ji21) p11 q11;obtain rfl:ad10=ad11:=(by injection e11);replace p11:=eq_true p11;replace q11:=eq_true q11;have p25:0≤((ji21):Int):=of_decide_eq_true zq_;have q25:((ji21):Int)<((x6_1.length:Int):Int):=of_decide_eq_true zq_;obtain ⟨go25,co25,eo25,gb25,gl25,cl25,HG25⟩:=Kd.R_form HO_6.out (by omega);(first|cases eo25|(injection eo25 with ea_ en_ ec_;(first|subst ea_|(injection ea_ with ea_;subst ea_));subst ec_;clear en_));have GB25:=Aside0.mk gb25;have GG25:=Aside0.mk HG25;clear gb25 gl25 HG25;replace hx10_0:=zv_ hx10_0;replace hx11_0:=zv_ hx11_0;obtain ⟨hx25_0,hf25_0⟩:=Kd.R_celln 0 HO_6.out ((ji21):Int) p25 q25;replace p25:=eq_true p25;replace q25:=eq_true q25;obtain ⟨hy59_,hz59_⟩:=Kd.R_celln 0 HO_6.out ((ji21):Int) (of_decide_eq_true zq_) (of_decide_eq_true zq_);have HP59:=Kd.R_putg HO_6.out ((ji21):Int) (wrap64 ((rd x6_1 (ji21)) - (wrap64 (Int.tdiv (rd x6_1 (ji21)) 2)))))|((with_reducible refine gate_store (t:=3) (p:=72) rfl ?_);(try (rw [drewN_self w57];generalize hq_:World.drewN w57 _=w57;have n0_:=am_ (Kd.R_at hq_ HO_5.out);have n1_:=am_ (Kd.R_at hq_ HO_6.out);have n2_:=am_ (blk_at hq_ BK8.out);have n3_:=am_ (below_at hq_ HB.out);clear hq_ HO_5 HO_6 BK8 HB;have HO_5:=n0_;have HO_6:=n1_;have BK8:=n2_;have HB:=n3_;clear n0_ n1_ n2_ n3_;(try (obtain ⟨hy59_,hz59_⟩:=Kd.R_celln 0 HO_6.out ((ji21):Int) (of_decide_eq_true zq_) (of_decide_eq_true zq_)));(try (have HP59:=Kd.R_putg HO_6.out ((ji21):Int) (wrap64 ((rd x6_1 (ji21)) - (wrap64 (Int.tdiv (rd x6_1 (ji21)) 2))))))));refine store_event (t:=3) (p:=72) (v:= ?vo_w60) (w1:=(w57.setCell ⟨go25,((ji21):Int).toNat,none⟩ (.int .i64 (wrap64 ((rd x6_1 (ji21)) - (wrap64 (Int.tdiv (rd x6_1 (ji21)) 2))))))) ?hg ?ho ?hn ?hr ?_;(case ho=>rfl);(case hg=>rfl);(case hn=>rfl);(case hr=>first|(go_simp;done)|(go_simp;rfl));intro w60 hw;have hg:w57.grownBy w60 (some go25):=(by rw [hw];exact HP59.2);have hp_:Kd.R (Kd.int .i64) 3 w60 w.heap.size (fun _=>True) (.slice (some ⟨go25,0,none⟩) x6_1.length co58) y12:=(by rw [hw,Ny12.out];exact HP59.1);clear HP59;replace HO_5:=am_ (Kd.R_over' (v:=(.slice (some ⟨go25,0,none⟩) x6_1.length co58)) (zr_ HO_5) (Kd.R_typed HO_6.out) (by decide) hg);replace BK8:=am_ (blk_grown (zb_ BK8) hg (Kd.R_ne HO_6.out BK8.out (by decide)));replace HO_6:=am_ (hp_);replace HB:=am_ ((by rw [hw];exact below_set (HB.out) GB25.out:Below w.heap.size w w60));clear hg hw hp_;have p28:0≤((ji51):Int):=of_decide_eq_true zq_;have q28:(ji51)<(l0.length:Int):=of_decide_eq_true zq_;obtain ⟨ad28,e28,hx28_0⟩:=Kd.at_int HR0.out (ji51) p28 q28;obtain rfl:ad4=ad28:=(by injection e28);replace hx28_0:=zx_ HB hx28_0;replace p28:=eq_true p28;replace q28:=eq_true q28;obtain ⟨hcz61_0,hcz61_1,hcz61_2,hcz61_3,hcz61_4⟩:=x5_ BK8;have hfz61_0:=blk_frozen BK8.out 0;have hfz61_1:=blk_frozen BK8.out 1;have hfz61_2:=blk_frozen BK8.out 2;have hfz61_3:=blk_frozen BK8.out 3;have hfz61_4:=blk_frozen BK8.out 4)|((with_reducible refine gate_builtin (b:= .append) (xs:=#[.tmp 102, .tmp 104]) rfl ?_);(try (refine gate_guard (by rfl) ?_;dsimp only));at_builtin;refine Kd.R_append k39 (w0:=w) w.heap.size rfl (.tmp 102) (.tmp 104) 22 39 (.agg #[(.string ⟨#[]⟩),(.string ⟨#[]⟩),(.int .i64 0),(.int .i64 0),(.int .i64 0)]) 56 rfl Try.underlying22 info39 rfl (by decide) (by omega) (.slice (some ad9) x5_1.length co12) x5_1 (⟨(strOfNums y5),(rd_T39 x5_1 (ji21)).f0,(⟨wrap64 (Int.tdiv (rd x6_1 (ji21)) 2),wrap64 (Int.tdiv (rd x6_1 (ji21)) 2),wrap64 ((wrap64 (Int.tdiv (rd x6_1 (ji21)) 2)) - (wrap64 ((wrap64 (Int.tdiv (wrap64 (Int.tdiv (rd x6_1 (ji21)) 2)) 3))*(wrap64 (Int.tmod (rd l0 (ji51)) 2)))))⟩:S37)⟩:S39) [.string (strOfNums y5), .string ((rd_T39 x5_1 (ji21)).f0), .int .i64 (wrap64 (Int.tdiv (rd x6_1 (ji21)) 2)), .int .i64 (wrap64 (Int.tdiv (rd x6_1 (ji21)) 2)), .int .i64 (wrap64 ((wrap64 (Int.tdiv (rd x6_1 (ji21)) 2)) - (wrap64 ((wrap64 (Int.tdiv (wrap64 (Int.tdiv (rd x6_1 (ji21)) 2)) 3))*(wrap64 (Int.tmod (rd l0 (ji51)) 2))))))] (fun k_=>k_≠gb8) (fun _=>False) rfl (by first|(go_simp;done)|(go_simp;rfl)) ?aP (fun _ hk=>hk.elim) ?aF ?aO ?aB ?aS ?aL ?_;(case aP=>exact k39_mkM _ _ _ (⟨(strOfNums y5),(rd_T39 x5_1 (ji21)).f0,(⟨wrap64 (Int.tdiv (rd x6_1 (ji21)) 2),wrap64 (Int.tdiv (rd x6_1 (ji21)) 2),wrap64 ((wrap64 (Int.tdiv (rd x6_1 (ji21)) 2)) - (wrap64 ((wrap64 (Int.tdiv (wrap64 (Int.tdiv (rd x6_1 (ji21)) 2)) 3))*(wrap64 (Int.tmod (rd l0 (ji51)) 2)))))⟩:S37)⟩:S39));(case aB=>exact (zl1_ HB GE8));(case aF=>exact (fun k_ hk=>Kd.freshB (g:=gb8) (o:= .cells #[.string (strOfNums y5), .string ((rd_T39 x5_1 (ji21)).f0), .int .i64 (wrap64 (Int.tdiv (rd x6_1 (ji21)) 2)), .int .i64 (wrap64 (Int.tdiv (rd x6_1 (ji21)) 2)), .int .i64 (wrap64 ((wrap64 (Int.tdiv (rd x6_1 (ji21)) 2)) - (wrap64 ((wrap64 (Int.tdiv (wrap64 (Int.tdiv (rd x6_1 (ji21)) 2)) 3))*(wrap64 (Int.tmod (rd l0 (ji51)) 2))))))] 39 (0,0)) (zw_ BK8) k_ hk));(case aO=>exact (by refine zt_ ?_;exact Kd.R_mono (Kd.R_far (p:=⟨gb8,4,none⟩) (Kd.R_far (p:=⟨gb8,3,none⟩) (Kd.R_far (p:=⟨gb8,2,none⟩) (Kd.R_mono HO_5.out (fun k_ hk=>(⟨hk,hk⟩:_∧k_≠gb8))) (fun _ hk=>hk.2) (.int .i64 (wrap64 (Int.tdiv (rd x6_1 (ji21)) 2)))) (fun _ hk=>hk.2) (.int .i64 (wrap64 (Int.tdiv (rd x6_1 (ji21)) 2)))) (fun _ hk=>hk.2) (.int .i64 (wrap64 ((wrap64 (Int.tdiv (rd x6_1 (ji21)) 2)) - (wrap64 ((wrap64 (Int.tdiv (wrap64 (Int.tdiv (rd x6_1 (ji21)) 2)) 3))*(wrap64 (Int.tmod (rd l0 (ji51)) 2)))))))) (fun _ hk=>hk.1)));(case aS=>exact (below_size (zl1_ HB GE8)));(case aL=>have:=LMc54.out;omega);intro v30 w62 ho hb hg hat;rw [←Ny29.out] at ho;have n0_:=am_ (Kd.R_over' (by refine zt_ ?_;exact (Kd.R_mono (Kd.R_far (p:=⟨gb8,4,none⟩) (Kd.R_far (p:=⟨gb8,3,none⟩) (Kd.R_far (p:=⟨gb8,2,none⟩) (Kd.R_types HO_6.out BK8.out (by decide)) (fun _ hk=>hk.2) (.int .i64 (wrap64 (Int.tdiv (rd x6_1 (ji21)) 2)))) (fun _ hk=>hk.2) (.int .i64 (wrap64 (Int.tdiv (rd x6_1 (ji21)) 2)))) (fun _ hk=>hk.2) (.int .i64 (wrap64 ((wrap64 (Int.tdiv (rd x6_1 (ji21)) 2)) - (wrap64 ((wrap64 (Int.tdiv (wrap64 (Int.tdiv (rd x6_1 (ji21)) 2)) 3))*(wrap64 (Int.tmod (rd l0 (ji51)) 2)))))))) (fun _ h_=>h_.1))) (Kd.R_typed (by refine zt_ ?_;exact (Kd.R_mono (Kd.R_far (p:=⟨gb8,4,none⟩) (Kd.R_far (p:=⟨gb8,3,none⟩) (Kd.R_far (p:=⟨gb8,2,none⟩) (Kd.R_mono HO_5.out (fun k_ hk=>(⟨hk,hk⟩:_∧k_≠gb8))) (fun _ hk=>hk.2) (.int .i64 (wrap64 (Int.tdiv (rd x6_1 (ji21)) 2)))) (fun _ hk=>hk.2) (.int .i64 (wrap64 (Int.tdiv (rd x6_1 (ji21)) 2)))) (fun _ hk=>hk.2) (.int .i64 (wrap64 ((wrap64 (Int.tdiv (rd x6_1 (ji21)) 2)) - (wrap64 ((wrap64 (Int.tdiv (wrap64 (Int.tdiv (rd x6_1 (ji21)) 2)) 3))*(wrap64 (Int.tmod (rd l0 (ji51)) 2)))))))) (fun _ h_=>h_.1)))) (by decide) hg);have n1_:=am_ (blk_grown (g:=gb8) (o:= .cells #[.string (strOfNums y5), .string ((rd_T39 x5_1 (ji21)).f0), .int .i64 (wrap64 (Int.tdiv (rd x6_1 (ji21)) 2)), .int .i64 (wrap64 (Int.tdiv (rd x6_1 (ji21)) 2)), .int .i64 (wrap64 ((wrap64 (Int.tdiv (rd x6_1 (ji21)) 2)) - (wrap64 ((wrap64 (Int.tdiv (wrap64 (Int.tdiv (rd x6_1 (ji21)) 2)) 3))*(wrap64 (Int.tmod (rd l0 (ji51)) 2))))))] 39 (0,0)) (zw_ BK8) hg (Kd.R_away HO_5.out (fun _ hk=>hk)));have n2_:=am_ (hb);have n3_:=am_ (ho);clear HO_6;clear BK8;clear HB;clear HO_5;have HO_6:=n0_;have BK8:=n1_;have HB:=n2_;have HO31:=n3_;clear n0_ n1_ n2_ n3_;clear ho hb hg hat)|((with_reducible refine gate_builtin (b:= .append) (xs:=#[.tmp 106, .tmp 111]) rfl ?_);(try (refine gate_guard (by rfl) ?_;dsimp only));at_builtin;refine Kd.R_append (Kd.int .i64) (w0:=w) w.heap.size rfl (.tmp 106) (.tmp 111) 122 3 (.int .i64 0) 8 rfl Try.underlying122 info3 rfl (by decide) (by omega) (.slice (some ⟨go25,0,none⟩) x6_1.length co58) y12 (wrap64 ((wrap64 (Int.tdiv (rd x6_1 (ji21)) 2)) - (wrap64 (Int.tdiv (wrap64 (Int.tdiv (rd x6_1 (ji21)) 2)) 3)))) [.int .i64 (wrap64 ((wrap64 (Int.tdiv (rd x6_1 (ji21)) 2)) - (wrap64 (Int.tdiv (wrap64 (Int.tdiv (rd x6_1 (ji21)) 2)) 3))))] (fun _=>True) (fun _=>False) rfl rfl ?aP (fun _ hk=>hk.elim) ?aF ?aO ?aB ?aS ?aL ?_;(case aP=>exact rfl);(case aB=>exact (zl1_ HB GE8));(case aF=>exact (fun _ _=>trivial));(case aO=>exact (zr_ HO_6));(case aS=>exact (below_size (zl1_ HB GE8)));(case aL=>have:=LMc55.out;omega);intro v33 w63 ho hb hg hat;rw [←Ny32.out] at ho;have n0_:=am_ (blk_grown (zb_ BK8) hg (Kd.R_ne HO_6.out BK8.out (by decide)));have n1_:=am_ (Kd.R_over' (zr_ HO31) (Kd.R_typed (zr_ HO_6)) (by decide) hg);have n2_:=am_ (hb);have n3_:=am_ (ho);clear BK8;clear HO31;clear HB;clear HO_6;have BK8:=n0_;have HO31:=n1_;have HB:=n2_;have HO34:=n3_;clear n0_ n1_ n2_ n3_;clear ho hb hg hat)))
        go_roundg kj10
        case measure=>have:=HK1.out;have:=HJ4.out;have:=HJ10.out;omega
        case rel=>exact ⟨(y29),(y32),(wrap64 (x7_1+2)),(by first|rfl|(simp;done)|(simp [*];done)),H',⟨by have:=HK1.out;have:=HJ4.out;have:=HJ10.out;omega⟩,⟨by (with_reducible repeat (first|apply Kd.R_alloc|apply Kd.R_drewN|apply Kd.R_drew));exact Kd.R_mono HO31.out (fun _ hk=>trivial)⟩,⟨by (with_reducible repeat (first|apply Kd.R_alloc|apply Kd.R_drewN|apply Kd.R_drew));exact HO34.out⟩,⟨zl1_ HB GE8⟩⟩
       subst c26
       have H1:(if 0≤(wrap64 (x7_1+1)) then (if (wrap64 (x7_1+1))<(l0.length:Int) then (if (Int.tmod (rd l0 (wrap64 (x7_1+1))) 16)=0 then (if x5_1.length<2513169434916 then (if y12.length<17592186044416 then (law11_Make.l0 kj10 l0 true (x5_1++ [(⟨(strOfNums y5),(rd_T39 x5_1 (ji21)).f0,(⟨wrap64 ((wrap64 ((wrap64 (Int.tdiv (rd x6_1 (ji21)) 2))*2))+1),wrap64 ((wrap64 ((wrap64 (Int.tdiv (rd x6_1 (ji21)) 2))*2))+1),wrap64 ((wrap64 ((wrap64 ((wrap64 (Int.tdiv (rd x6_1 (ji21)) 2))*2))+1)) - (wrap64 ((wrap64 (Int.tdiv (wrap64 ((wrap64 ((wrap64 (Int.tdiv (rd x6_1 (ji21)) 2))*2))+1)) 3))*(wrap64 (Int.tmod (rd l0 (wrap64 (x7_1+1))) 2)))))⟩:S37)⟩:S39)]) (y12++ [wrap64 ((wrap64 ((wrap64 ((wrap64 (Int.tdiv (rd x6_1 (ji21)) 2))*2))+1)) - (wrap64 (Int.tdiv (wrap64 ((wrap64 ((wrap64 (Int.tdiv (rd x6_1 (ji21)) 2))*2))+1)) 3)))]) (wrap64 (x7_1+2))) else (none)) else (none)) else (if x5_1.length<2513169434916 then (if y12.length<17592186044416 then (law11_Make.l0 kj10 l0 true (x5_1++ [(⟨(strOfNums y5),(rd_T39 x5_1 (ji21)).f0,(⟨wrap64 (Int.tdiv (rd x6_1 (ji21)) 2),wrap64 (Int.tdiv (rd x6_1 (ji21)) 2),wrap64 ((wrap64 (Int.tdiv (rd x6_1 (ji21)) 2)) - (wrap64 ((wrap64 (Int.tdiv (wrap64 (Int.tdiv (rd x6_1 (ji21)) 2)) 3))*(wrap64 (Int.tmod (rd l0 (wrap64 (x7_1+1))) 2)))))⟩:S37)⟩:S39)]) (y12++ [wrap64 ((wrap64 (Int.tdiv (rd x6_1 (ji21)) 2)) - (wrap64 (Int.tdiv (wrap64 (Int.tdiv (rd x6_1 (ji21)) 2)) 3)))]) (wrap64 (x7_1+2))) else (none)) else (none))) else (none)) else (none))=some r:=by rw [if_pos rfl] at H;exact H
       clear H
       have H:=H1
       clear H1
       obtain ⟨ji27,hji27⟩: ∃j_:Int,(wrap64 (x7_1+1))=j_:=⟨_,rfl⟩
       replace H:(if 0≤(ji27) then (if (ji27)<(l0.length:Int) then (if (Int.tmod (rd l0 (ji27)) 16)=0 then (if x5_1.length<2513169434916 then (if y12.length<17592186044416 then (law11_Make.l0 kj10 l0 true (x5_1++ [(⟨(strOfNums y5),(rd_T39 x5_1 (ji21)).f0,(⟨wrap64 ((wrap64 ((wrap64 (Int.tdiv (rd x6_1 (ji21)) 2))*2))+1),wrap64 ((wrap64 ((wrap64 (Int.tdiv (rd x6_1 (ji21)) 2))*2))+1),wrap64 ((wrap64 ((wrap64 ((wrap64 (Int.tdiv (rd x6_1 (ji21)) 2))*2))+1)) - (wrap64 ((wrap64 (Int.tdiv (wrap64 ((wrap64 ((wrap64 (Int.tdiv (rd x6_1 (ji21)) 2))*2))+1)) 3))*(wrap64 (Int.tmod (rd l0 (ji27)) 2)))))⟩:S37)⟩:S39)]) (y12++ [wrap64 ((wrap64 ((wrap64 ((wrap64 (Int.tdiv (rd x6_1 (ji21)) 2))*2))+1)) - (wrap64 (Int.tdiv (wrap64 ((wrap64 ((wrap64 (Int.tdiv (rd x6_1 (ji21)) 2))*2))+1)) 3)))]) (wrap64 (x7_1+2))) else (none)) else (none)) else (if x5_1.length<2513169434916 then (if y12.length<17592186044416 then (law11_Make.l0 kj10 l0 true (x5_1++ [(⟨(strOfNums y5),(rd_T39 x5_1 (ji21)).f0,(⟨wrap64 (Int.tdiv (rd x6_1 (ji21)) 2),wrap64 (Int.tdiv (rd x6_1 (ji21)) 2),wrap64 ((wrap64 (Int.tdiv (rd x6_1 (ji21)) 2)) - (wrap64 ((wrap64 (Int.tdiv (wrap64 (Int.tdiv (rd x6_1 (ji21)) 2)) 3))*(wrap64 (Int.tmod (rd l0 (ji27)) 2)))))⟩:S37)⟩:S39)]) (y12++ [wrap64 ((wrap64 (Int.tdiv (rd x6_1 (ji21)) 2)) - (wrap64 (Int.tdiv (wrap64 (Int.tdiv (rd x6_1 (ji21)) 2)) 3)))]) (wrap64 (x7_1+2))) else (none)) else (none))) else (none)) else (none))=some r:=by first|(rw [hji27] at H;exact H)|(simp only [hji27] at H ⊢;exact H)
       have hji27w:(IntKind.i64.wrap (x7_1+1))=ji27:=(i64_w _).trans hji27
       by_cases c28:0≤(ji27)
       rotate_left
       ·rw [if_neg c28] at H
        exact absurd H (by simp)
       rw [if_pos c28] at H
       have c28b0:decide (0≤(ji27))=true:=decide_eq_true c28
       clear c28
       by_cases c29:(ji27)<(l0.length:Int)
       rotate_left
       ·rw [if_neg c29] at H
        exact absurd H (by simp)
       rw [if_pos c29] at H
       have c29b0:decide ((ji27)<(l0.length:Int))=true:=decide_eq_true c29
       clear c29
       by_cases c30:(Int.tmod (rd l0 (ji27)) 16)=0
       ·rw [if_pos c30] at H
        have c30b0:((Int.tmod (rd l0 (ji27)) 16)==0)=true:=beq_iff_eq.mpr c30
        have c30b1:((Int.tmod (rd l0 (ji27)) 16) !=0)=false:=bne_eq_false_iff_eq.mpr c30
        clear c30
        by_cases c31:x5_1.length<2513169434916
        rotate_left
        ·rw [if_neg c31] at H
         exact absurd H (by simp)
        rw [if_pos c31] at H
        have LMc31:=Aside0.mk c31
        clear c31
        obtain ⟨y15,hy15⟩: ∃y_:List (S39),y_=(x5_1++ [(⟨(strOfNums y5),(rd_T39 x5_1 (ji21)).f0,(⟨wrap64 ((wrap64 ((wrap64 (Int.tdiv (rd x6_1 (ji21)) 2))*2))+1),wrap64 ((wrap64 ((wrap64 (Int.tdiv (rd x6_1 (ji21)) 2))*2))+1),wrap64 ((wrap64 ((wrap64 ((wrap64 (Int.tdiv (rd x6_1 (ji21)) 2))*2))+1)) - (wrap64 ((wrap64 (Int.tdiv (wrap64 ((wrap64 ((wrap64 (Int.tdiv (rd x6_1 (ji21)) 2))*2))+1)) 3))*(wrap64 (Int.tmod (rd l0 (ji27)) 2)))))⟩:S37)⟩:S39)]):=⟨_,rfl⟩
        replace H:(if y12.length<17592186044416 then (law11_Make.l0 kj10 l0 true y15 (y12++ [wrap64 ((wrap64 ((wrap64 ((wrap64 (Int.tdiv (rd x6_1 (ji21)) 2))*2))+1)) - (wrap64 (Int.tdiv (wrap64 ((wrap64 ((wrap64 (Int.tdiv (rd x6_1 (ji21)) 2))*2))+1)) 3)))]) (wrap64 (x7_1+2))) else (none))=some r:=by first|(rw [hy15];with_reducible exact H)|(have H2_:=(Option.bind_some _ _).symm.trans H;rw [hy15];with_reducible exact H2_)|(have H2_:=(Option.bind_some _ _).symm.trans H;with_reducible exact H2_)|with_reducible exact H|(rw [hy15];exact H)|exact H
        have Ny15:=Aside0.mk hy15
        clear hy15
        by_cases c32:y12.length<17592186044416
        rotate_left
        ·rw [if_neg c32] at H
         exact absurd H (by simp)
        rw [if_pos c32] at H
        have LMc32:=Aside0.mk c32
        clear c32
        obtain ⟨y18,hy18⟩: ∃y_:List Int,y_=(y12++ [wrap64 ((wrap64 ((wrap64 ((wrap64 (Int.tdiv (rd x6_1 (ji21)) 2))*2))+1)) - (wrap64 (Int.tdiv (wrap64 ((wrap64 ((wrap64 (Int.tdiv (rd x6_1 (ji21)) 2))*2))+1)) 3)))]):=⟨_,rfl⟩
        replace H:(law11_Make.l0 kj10 l0 true y15 y18 (wrap64 (x7_1+2)))=some r:=by first|(rw [hy18];with_reducible exact H)|(have H2_:=(Option.bind_some _ _).symm.trans H;rw [hy18];with_reducible exact H2_)|(have H2_:=(Option.bind_some _ _).symm.trans H;with_reducible exact H2_)|with_reducible exact H|(rw [hy18];exact H)|exact H
        have Ny18:=Aside0.mk hy18
        clear hy18
        have H':=Aside0.mk H
        clear H
        have p9:0≤((ji21):Int):=of_decide_eq_true zq_
        have q9:(ji21)<(x5_1.length:Int):=of_decide_eq_true zq_
        obtain ⟨ad9,e9,hx9_0,hx9_1,hx9_2,hx9_3,hx9_4⟩:=at_T39 (Kd.R_reads' HO_5.out).2.2 (ji21) p9 q9
        cases e9
        replace p9:=eq_true p9
        replace q9:=eq_true q9
        obtain ⟨hcz33_0,hcz33_1,hcz33_2,hcz33_3,hcz33_4,hfz33_0,hfz33_1,hfz33_2,hfz33_3,hfz33_4⟩:=y5_ BK8
        go_wp2_with (first|((with_reducible refine gate_store (t:=9) (p:=58) rfl ?_);(try (rw [drewN_self wc];generalize hq_:World.drewN wc _=wc;have n0_:=am_ (Kd.R_at hq_ HO_5.out);have n1_:=am_ (Kd.R_at hq_ HO_6.out);have n2_:=am_ (blk_at hq_ BK8.out);have n3_:=am_ (below_at hq_ HB.out);clear hq_ HO_5 HO_6 BK8 HB;have HO_5:=n0_;have HO_6:=n1_;have BK8:=n2_;have HB:=n3_;clear n0_ n1_ n2_ n3_));refine store_event (t:=9) (p:=58) (v:= ?vo_w34) (w1:=(wc.setCell ⟨gb8,1,none⟩ (.string ((rd_T39 x5_1 (ji21)).f0)))) ?hg ?ho ?hn ?hr ?_;(case ho=>rfl);(case hg=>rfl);(case hn=>rfl);(case hr=>first|(go_simp;done)|(go_simp;rfl));intro w34 hw;have n0_:Aside0 (Kd.R k39 39 w34 w.heap.size (fun k_=>k_≠gb8) (.slice (some ad9) x5_1.length co12) x5_1):=⟨(by rw [hw];exact (by refine zt_ ?_;exact Kd.R_mono (Kd.R_far (p:=⟨gb8,1,none⟩) (Kd.R_mono HO_5.out (fun k_ hk=>(⟨hk,hk⟩:_∧k_≠gb8))) (fun _ hk=>hk.2) (.string ((rd_T39 x5_1 (ji21)).f0))) (fun _ hk=>hk.1)))⟩;have n1_:Aside0 (Kd.R (Kd.int .i64) 3 w34 w.heap.size (fun _=>True) u6 x6_1):=⟨(by rw [hw];exact (by refine zt_ ?_;exact Kd.R_mono (Kd.R_far (p:=⟨gb8,1,none⟩) (Kd.R_types HO_6.out BK8.out (by decide)) (fun _ hk=>hk.2) (.string ((rd_T39 x5_1 (ji21)).f0))) (fun _ hk=>trivial)))⟩;have n2_:Aside0 (w34.heap[gb8]?=some (.cells #[.string (strOfNums y5), .string ((rd_T39 x5_1 (ji21)).f0), .int .i64 4096, .int .i64 4096, .int .i64 4096] 39 (0,0))):=⟨(by rw [hw];exact (zw_ BK8))⟩;have n3_:Aside0 (Below w.heap.size w w34):=⟨(by rw [hw];exact (zl1_ HB GE8))⟩;clear hw;clear HO_5;clear HO_6;clear BK8;clear HB;have HO_5:=n0_;have HO_6:=n1_;have BK8:=n2_;have HB:=n3_;clear n0_ n1_ n2_ n3_;obtain ⟨Ao35,co35,eo35⟩:=Kd.R_slice HO_6.out;subst eo35;have p10:0≤((ji21):Int):=of_decide_eq_true zq_;have q10:(ji21)<(x6_1.length:Int):=of_decide_eq_true zq_;obtain ⟨ad10,e10,hx10_0⟩:=Kd.at_int (Kd.R_reads' HO_6.out).2.2 (ji21) p10 q10;cases e10;replace p10:=eq_true p10;replace q10:=eq_true q10;have p11:0≤((ji21):Int):=of_decide_eq_true zq_;have q11:(ji21)<(x6_1.length:Int):=of_decide_eq_true zq_;obtain ⟨ad11,e11,hx11_0⟩:=Kd.at_int (Kd.R_reads' HO_6.out).2.2 (ji21) p11 q11;obtain rfl:ad10=ad11:=(by injection e11);replace p11:=eq_true p11;replace q11:=eq_true q11;have p25:0≤((ji21):Int):=of_decide_eq_true zq_;have q25:((ji21):Int)<((x6_1.length:Int):Int):=of_decide_eq_true zq_;obtain ⟨go25,co25,eo25,gb25,gl25,cl25,HG25⟩:=Kd.R_form HO_6.out (by omega);(first|cases eo25|(injection eo25 with ea_ en_ ec_;(first|subst ea_|(injection ea_ with ea_;subst ea_));subst ec_;clear en_));have GB25:=Aside0.mk gb25;have GG25:=Aside0.mk HG25;clear gb25 gl25 HG25;replace hx10_0:=zv_ hx10_0;replace hx11_0:=zv_ hx11_0;obtain ⟨hx25_0,hf25_0⟩:=Kd.R_celln 0 HO_6.out ((ji21):Int) p25 q25;replace p25:=eq_true p25;replace q25:=eq_true q25;obtain ⟨hy36_,hz36_⟩:=Kd.R_celln 0 HO_6.out ((ji21):Int) (of_decide_eq_true zq_) (of_decide_eq_true zq_);have HP36:=Kd.R_putg HO_6.out ((ji21):Int) (wrap64 ((rd x6_1 (ji21)) - (wrap64 (Int.tdiv (rd x6_1 (ji21)) 2)))))|((with_reducible refine gate_store (t:=3) (p:=72) rfl ?_);(try (rw [drewN_self w34];generalize hq_:World.drewN w34 _=w34;have n0_:=am_ (Kd.R_at hq_ HO_5.out);have n1_:=am_ (Kd.R_at hq_ HO_6.out);have n2_:=am_ (blk_at hq_ BK8.out);have n3_:=am_ (below_at hq_ HB.out);clear hq_ HO_5 HO_6 BK8 HB;have HO_5:=n0_;have HO_6:=n1_;have BK8:=n2_;have HB:=n3_;clear n0_ n1_ n2_ n3_;(try (obtain ⟨hy36_,hz36_⟩:=Kd.R_celln 0 HO_6.out ((ji21):Int) (of_decide_eq_true zq_) (of_decide_eq_true zq_)));(try (have HP36:=Kd.R_putg HO_6.out ((ji21):Int) (wrap64 ((rd x6_1 (ji21)) - (wrap64 (Int.tdiv (rd x6_1 (ji21)) 2))))))));refine store_event (t:=3) (p:=72) (v:= ?vo_w37) (w1:=(w34.setCell ⟨go25,((ji21):Int).toNat,none⟩ (.int .i64 (wrap64 ((rd x6_1 (ji21)) - (wrap64 (Int.tdiv (rd x6_1 (ji21)) 2))))))) ?hg ?ho ?hn ?hr ?_;(case ho=>rfl);(case hg=>rfl);(case hn=>rfl);(case hr=>first|(go_simp;done)|(go_simp;rfl));intro w37 hw;have hg:w34.grownBy w37 (some go25):=(by rw [hw];exact HP36.2);have hp_:Kd.R (Kd.int .i64) 3 w37 w.heap.size (fun _=>True) (.slice (some ⟨go25,0,none⟩) x6_1.length co35) y12:=(by rw [hw,Ny12.out];exact HP36.1);clear HP36;replace HO_5:=am_ (Kd.R_over' (v:=(.slice (some ⟨go25,0,none⟩) x6_1.length co35)) (zr_ HO_5) (Kd.R_typed HO_6.out) (by decide) hg);replace BK8:=am_ (blk_grown (zb_ BK8) hg (Kd.R_ne HO_6.out BK8.out (by decide)));replace HO_6:=am_ (hp_);replace HB:=am_ ((by rw [hw];exact below_set (HB.out) GB25.out:Below w.heap.size w w37));clear hg hw hp_;have p13:0≤((ji27):Int):=of_decide_eq_true zq_;have q13:(ji27)<(l0.length:Int):=of_decide_eq_true zq_;obtain ⟨ad13,e13,hx13_0⟩:=Kd.at_int HR0.out (ji27) p13 q13;obtain rfl:ad4=ad13:=(by injection e13);replace hx13_0:=zx_ HB hx13_0;replace p13:=eq_true p13;replace q13:=eq_true q13;have p14:0≤((ji27):Int):=of_decide_eq_true zq_;have q14:(ji27)<(l0.length:Int):=of_decide_eq_true zq_;obtain ⟨ad14,e14,hx14_0⟩:=Kd.at_int HR0.out (ji27) p14 q14;obtain rfl:ad4=ad14:=(by injection e14);replace hx14_0:=zx_ HB hx14_0;replace p14:=eq_true p14;replace q14:=eq_true q14;obtain ⟨hcz38_0,hcz38_1,hcz38_2,hcz38_3,hcz38_4⟩:=x5_ BK8;have hfz38_0:=blk_frozen BK8.out 0;have hfz38_1:=blk_frozen BK8.out 1;have hfz38_2:=blk_frozen BK8.out 2;have hfz38_3:=blk_frozen BK8.out 3;have hfz38_4:=blk_frozen BK8.out 4)|((with_reducible refine gate_builtin (b:= .append) (xs:=#[.tmp 102, .tmp 104]) rfl ?_);(try (refine gate_guard (by rfl) ?_;dsimp only));at_builtin;refine Kd.R_append k39 (w0:=w) w.heap.size rfl (.tmp 102) (.tmp 104) 22 39 (.agg #[(.string ⟨#[]⟩),(.string ⟨#[]⟩),(.int .i64 0),(.int .i64 0),(.int .i64 0)]) 56 rfl Try.underlying22 info39 rfl (by decide) (by omega) (.slice (some ad9) x5_1.length co12) x5_1 (⟨(strOfNums y5),(rd_T39 x5_1 (ji21)).f0,(⟨wrap64 ((wrap64 ((wrap64 (Int.tdiv (rd x6_1 (ji21)) 2))*2))+1),wrap64 ((wrap64 ((wrap64 (Int.tdiv (rd x6_1 (ji21)) 2))*2))+1),wrap64 ((wrap64 ((wrap64 ((wrap64 (Int.tdiv (rd x6_1 (ji21)) 2))*2))+1)) - (wrap64 ((wrap64 (Int.tdiv (wrap64 ((wrap64 ((wrap64 (Int.tdiv (rd x6_1 (ji21)) 2))*2))+1)) 3))*(wrap64 (Int.tmod (rd l0 (ji27)) 2)))))⟩:S37)⟩:S39) [.string (strOfNums y5), .string ((rd_T39 x5_1 (ji21)).f0), .int .i64 (wrap64 ((wrap64 ((wrap64 (Int.tdiv (rd x6_1 (ji21)) 2))*2))+1)), .int .i64 (wrap64 ((wrap64 ((wrap64 (Int.tdiv (rd x6_1 (ji21)) 2))*2))+1)), .int .i64 (wrap64 ((wrap64 ((wrap64 ((wrap64 (Int.tdiv (rd x6_1 (ji21)) 2))*2))+1)) - (wrap64 ((wrap64 (Int.tdiv (wrap64 ((wrap64 ((wrap64 (Int.tdiv (rd x6_1 (ji21)) 2))*2))+1)) 3))*(wrap64 (Int.tmod (rd l0 (ji27)) 2))))))] (fun k_=>k_≠gb8) (fun _=>False) rfl (by first|(go_simp;done)|(go_simp;rfl)) ?aP (fun _ hk=>hk.elim) ?aF ?aO ?aB ?aS ?aL ?_;(case aP=>exact k39_mkM _ _ _ (⟨(strOfNums y5),(rd_T39 x5_1 (ji21)).f0,(⟨wrap64 ((wrap64 ((wrap64 (Int.tdiv (rd x6_1 (ji21)) 2))*2))+1),wrap64 ((wrap64 ((wrap64 (Int.tdiv (rd x6_1 (ji21)) 2))*2))+1),wrap64 ((wrap64 ((wrap64 ((wrap64 (Int.tdiv (rd x6_1 (ji21)) 2))*2))+1)) - (wrap64 ((wrap64 (Int.tdiv (wrap64 ((wrap64 ((wrap64 (Int.tdiv (rd x6_1 (ji21)) 2))*2))+1)) 3))*(wrap64 (Int.tmod (rd l0 (ji27)) 2)))))⟩:S37)⟩:S39));(case aB=>exact (zl1_ HB GE8));(case aF=>exact (fun k_ hk=>Kd.freshB (g:=gb8) (o:= .cells #[.string (strOfNums y5), .string ((rd_T39 x5_1 (ji21)).f0), .int .i64 (wrap64 ((wrap64 ((wrap64 (Int.tdiv (rd x6_1 (ji21)) 2))*2))+1)), .int .i64 (wrap64 ((wrap64 ((wrap64 (Int.tdiv (rd x6_1 (ji21)) 2))*2))+1)), .int .i64 (wrap64 ((wrap64 ((wrap64 ((wrap64 (Int.tdiv (rd x6_1 (ji21)) 2))*2))+1)) - (wrap64 ((wrap64 (Int.tdiv (wrap64 ((wrap64 ((wrap64 (Int.tdiv (rd x6_1 (ji21)) 2))*2))+1)) 3))*(wrap64 (Int.tmod (rd l0 (ji27)) 2))))))] 39 (0,0)) (zw_ BK8) k_ hk));(case aO=>exact (by refine zt_ ?_;exact Kd.R_mono (Kd.R_far (p:=⟨gb8,4,none⟩) (Kd.R_far (p:=⟨gb8,3,none⟩) (Kd.R_far (p:=⟨gb8,2,none⟩) (Kd.R_mono HO_5.out (fun k_ hk=>(⟨hk,hk⟩:_∧k_≠gb8))) (fun _ hk=>hk.2) (.int .i64 (wrap64 ((wrap64 ((wrap64 (Int.tdiv (rd x6_1 (ji21)) 2))*2))+1)))) (fun _ hk=>hk.2) (.int .i64 (wrap64 ((wrap64 ((wrap64 (Int.tdiv (rd x6_1 (ji21)) 2))*2))+1)))) (fun _ hk=>hk.2) (.int .i64 (wrap64 ((wrap64 ((wrap64 ((wrap64 (Int.tdiv (rd x6_1 (ji21)) 2))*2))+1)) - (wrap64 ((wrap64 (Int.tdiv (wrap64 ((wrap64 ((wrap64 (Int.tdiv (rd x6_1 (ji21)) 2))*2))+1)) 3))*(wrap64 (Int.tmod (rd l0 (ji27)) 2)))))))) (fun _ hk=>hk.1)));(case aS=>exact (below_size (zl1_ HB GE8)));(case aL=>have:=LMc31.out;omega);intro v16 w39 ho hb hg hat;rw [←Ny15.out] at ho;have n0_:=am_ (Kd.R_over' (by refine zt_ ?_;exact (Kd.R_mono (Kd.R_far (p:=⟨gb8,4,none⟩) (Kd.R_far (p:=⟨gb8,3,none⟩) (Kd.R_far (p:=⟨gb8,2,none⟩) (Kd.R_types HO_6.out BK8.out (by decide)) (fun _ hk=>hk.2) (.int .i64 (wrap64 ((wrap64 ((wrap64 (Int.tdiv (rd x6_1 (ji21)) 2))*2))+1)))) (fun _ hk=>hk.2) (.int .i64 (wrap64 ((wrap64 ((wrap64 (Int.tdiv (rd x6_1 (ji21)) 2))*2))+1)))) (fun _ hk=>hk.2) (.int .i64 (wrap64 ((wrap64 ((wrap64 ((wrap64 (Int.tdiv (rd x6_1 (ji21)) 2))*2))+1)) - (wrap64 ((wrap64 (Int.tdiv (wrap64 ((wrap64 ((wrap64 (Int.tdiv (rd x6_1 (ji21)) 2))*2))+1)) 3))*(wrap64 (Int.tmod (rd l0 (ji27)) 2)))))))) (fun _ h_=>h_.1))) (Kd.R_typed (by refine zt_ ?_;exact (Kd.R_mono (Kd.R_far (p:=⟨gb8,4,none⟩) (Kd.R_far (p:=⟨gb8,3,none⟩) (Kd.R_far (p:=⟨gb8,2,none⟩) (Kd.R_mono HO_5.out (fun k_ hk=>(⟨hk,hk⟩:_∧k_≠gb8))) (fun _ hk=>hk.2) (.int .i64 (wrap64 ((wrap64 ((wrap64 (Int.tdiv (rd x6_1 (ji21)) 2))*2))+1)))) (fun _ hk=>hk.2) (.int .i64 (wrap64 ((wrap64 ((wrap64 (Int.tdiv (rd x6_1 (ji21)) 2))*2))+1)))) (fun _ hk=>hk.2) (.int .i64 (wrap64 ((wrap64 ((wrap64 ((wrap64 (Int.tdiv (rd x6_1 (ji21)) 2))*2))+1)) - (wrap64 ((wrap64 (Int.tdiv (wrap64 ((wrap64 ((wrap64 (Int.tdiv (rd x6_1 (ji21)) 2))*2))+1)) 3))*(wrap64 (Int.tmod (rd l0 (ji27)) 2)))))))) (fun _ h_=>h_.1)))) (by decide) hg);have n1_:=am_ (blk_grown (g:=gb8) (o:= .cells #[.string (strOfNums y5), .string ((rd_T39 x5_1 (ji21)).f0), .int .i64 (wrap64 ((wrap64 ((wrap64 (Int.tdiv (rd x6_1 (ji21)) 2))*2))+1)), .int .i64 (wrap64 ((wrap64 ((wrap64 (Int.tdiv (rd x6_1 (ji21)) 2))*2))+1)), .int .i64 (wrap64 ((wrap64 ((wrap64 ((wrap64 (Int.tdiv (rd x6_1 (ji21)) 2))*2))+1)) - (wrap64 ((wrap64 (Int.tdiv (wrap64 ((wrap64 ((wrap64 (Int.tdiv (rd x6_1 (ji21)) 2))*2))+1)) 3))*(wrap64 (Int.tmod (rd l0 (ji27)) 2))))))] 39 (0,0)) (zw_ BK8) hg (Kd.R_away HO_5.out (fun _ hk=>hk)));have n2_:=am_ (hb);have n3_:=am_ (ho);clear HO_6;clear BK8;clear HB;clear HO_5;have HO_6:=n0_;have BK8:=n1_;have HB:=n2_;have HO17:=n3_;clear n0_ n1_ n2_ n3_;clear ho hb hg hat)|((with_reducible refine gate_builtin (b:= .append) (xs:=#[.tmp 106, .tmp 111]) rfl ?_);(try (refine gate_guard (by rfl) ?_;dsimp only));at_builtin;refine Kd.R_append (Kd.int .i64) (w0:=w) w.heap.size rfl (.tmp 106) (.tmp 111) 122 3 (.int .i64 0) 8 rfl Try.underlying122 info3 rfl (by decide) (by omega) (.slice (some ⟨go25,0,none⟩) x6_1.length co35) y12 (wrap64 ((wrap64 ((wrap64 ((wrap64 (Int.tdiv (rd x6_1 (ji21)) 2))*2))+1)) - (wrap64 (Int.tdiv (wrap64 ((wrap64 ((wrap64 (Int.tdiv (rd x6_1 (ji21)) 2))*2))+1)) 3)))) [.int .i64 (wrap64 ((wrap64 ((wrap64 ((wrap64 (Int.tdiv (rd x6_1 (ji21)) 2))*2))+1)) - (wrap64 (Int.tdiv (wrap64 ((wrap64 ((wrap64 (Int.tdiv (rd x6_1 (ji21)) 2))*2))+1)) 3))))] (fun _=>True) (fun _=>False) rfl rfl ?aP (fun _ hk=>hk.elim) ?aF ?aO ?aB ?aS ?aL ?_;(case aP=>exact rfl);(case aB=>exact (zl1_ HB GE8));(case aF=>exact (fun _ _=>trivial));(case aO=>exact (zr_ HO_6));(case aS=>exact (below_size (zl1_ HB GE8)));(case aL=>have:=LMc32.out;omega);intro v19 w40 ho hb hg hat;rw [←Ny18.out] at ho;have n0_:=am_ (blk_grown (zb_ BK8) hg (Kd.R_ne HO_6.out BK8.out (by decide)));have n1_:=am_ (Kd.R_over' (zr_ HO17) (Kd.R_typed (zr_ HO_6)) (by decide) hg);have n2_:=am_ (hb);have n3_:=am_ (ho);clear BK8;clear HO17;clear HB;clear HO_6;have BK8:=n0_;have HO17:=n1_;have HB:=n2_;have HO20:=n3_;clear n0_ n1_ n2_ n3_;clear ho hb hg hat))
        repeat (go_quiet (first|((with_reducible refine gate_store (t:=9) (p:=58) rfl ?_);(try (rw [drewN_self wc];generalize hq_:World.drewN wc _=wc;have n0_:=am_ (Kd.R_at hq_ HO_5.out);have n1_:=am_ (Kd.R_at hq_ HO_6.out);have n2_:=am_ (blk_at hq_ BK8.out);have n3_:=am_ (below_at hq_ HB.out);clear hq_ HO_5 HO_6 BK8 HB;have HO_5:=n0_;have HO_6:=n1_;have BK8:=n2_;have HB:=n3_;clear n0_ n1_ n2_ n3_));refine store_event (t:=9) (p:=58) (v:= ?vo_w34) (w1:=(wc.setCell ⟨gb8,1,none⟩ (.string ((rd_T39 x5_1 (ji21)).f0)))) ?hg ?ho ?hn ?hr ?_;(case ho=>rfl);(case hg=>rfl);(case hn=>rfl);(case hr=>first|(go_simp;done)|(go_simp;rfl));intro w34 hw;have n0_:Aside0 (Kd.R k39 39 w34 w.heap.size (fun k_=>k_≠gb8) (.slice (some ad9) x5_1.length co12) x5_1):=⟨(by rw [hw];exact (by refine zt_ ?_;exact Kd.R_mono (Kd.R_far (p:=⟨gb8,1,none⟩) (Kd.R_mono HO_5.out (fun k_ hk=>(⟨hk,hk⟩:_∧k_≠gb8))) (fun _ hk=>hk.2) (.string ((rd_T39 x5_1 (ji21)).f0))) (fun _ hk=>hk.1)))⟩;have n1_:Aside0 (Kd.R (Kd.int .i64) 3 w34 w.heap.size (fun _=>True) u6 x6_1):=⟨(by rw [hw];exact (by refine zt_ ?_;exact Kd.R_mono (Kd.R_far (p:=⟨gb8,1,none⟩) (Kd.R_types HO_6.out BK8.out (by decide)) (fun _ hk=>hk.2) (.string ((rd_T39 x5_1 (ji21)).f0))) (fun _ hk=>trivial)))⟩;have n2_:Aside0 (w34.heap[gb8]?=some (.cells #[.string (strOfNums y5), .string ((rd_T39 x5_1 (ji21)).f0), .int .i64 4096, .int .i64 4096, .int .i64 4096] 39 (0,0))):=⟨(by rw [hw];exact (zw_ BK8))⟩;have n3_:Aside0 (Below w.heap.size w w34):=⟨(by rw [hw];exact (zl1_ HB GE8))⟩;clear hw;clear HO_5;clear HO_6;clear BK8;clear HB;have HO_5:=n0_;have HO_6:=n1_;have BK8:=n2_;have HB:=n3_;clear n0_ n1_ n2_ n3_;obtain ⟨Ao35,co35,eo35⟩:=Kd.R_slice HO_6.out;subst eo35;have p10:0≤((ji21):Int):=of_decide_eq_true zq_;have q10:(ji21)<(x6_1.length:Int):=of_decide_eq_true zq_;obtain ⟨ad10,e10,hx10_0⟩:=Kd.at_int (Kd.R_reads' HO_6.out).2.2 (ji21) p10 q10;cases e10;replace p10:=eq_true p10;replace q10:=eq_true q10;have p11:0≤((ji21):Int):=of_decide_eq_true zq_;have q11:(ji21)<(x6_1.length:Int):=of_decide_eq_true zq_;obtain ⟨ad11,e11,hx11_0⟩:=Kd.at_int (Kd.R_reads' HO_6.out).2.2 (ji21) p11 q11;obtain rfl:ad10=ad11:=(by injection e11);replace p11:=eq_true p11;replace q11:=eq_true q11;have p25:0≤((ji21):Int):=of_decide_eq_true zq_;have q25:((ji21):Int)<((x6_1.length:Int):Int):=of_decide_eq_true zq_;obtain ⟨go25,co25,eo25,gb25,gl25,cl25,HG25⟩:=Kd.R_form HO_6.out (by omega);(first|cases eo25|(injection eo25 with ea_ en_ ec_;(first|subst ea_|(injection ea_ with ea_;subst ea_));subst ec_;clear en_));have GB25:=Aside0.mk gb25;have GG25:=Aside0.mk HG25;clear gb25 gl25 HG25;replace hx10_0:=zv_ hx10_0;replace hx11_0:=zv_ hx11_0;obtain ⟨hx25_0,hf25_0⟩:=Kd.R_celln 0 HO_6.out ((ji21):Int) p25 q25;replace p25:=eq_true p25;replace q25:=eq_true q25;obtain ⟨hy36_,hz36_⟩:=Kd.R_celln 0 HO_6.out ((ji21):Int) (of_decide_eq_true zq_) (of_decide_eq_true zq_);have HP36:=Kd.R_putg HO_6.out ((ji21):Int) (wrap64 ((rd x6_1 (ji21)) - (wrap64 (Int.tdiv (rd x6_1 (ji21)) 2)))))|((with_reducible refine gate_store (t:=3) (p:=72) rfl ?_);(try (rw [drewN_self w34];generalize hq_:World.drewN w34 _=w34;have n0_:=am_ (Kd.R_at hq_ HO_5.out);have n1_:=am_ (Kd.R_at hq_ HO_6.out);have n2_:=am_ (blk_at hq_ BK8.out);have n3_:=am_ (below_at hq_ HB.out);clear hq_ HO_5 HO_6 BK8 HB;have HO_5:=n0_;have HO_6:=n1_;have BK8:=n2_;have HB:=n3_;clear n0_ n1_ n2_ n3_;(try (obtain ⟨hy36_,hz36_⟩:=Kd.R_celln 0 HO_6.out ((ji21):Int) (of_decide_eq_true zq_) (of_decide_eq_true zq_)));(try (have HP36:=Kd.R_putg HO_6.out ((ji21):Int) (wrap64 ((rd x6_1 (ji21)) - (wrap64 (Int.tdiv (rd x6_1 (ji21)) 2))))))));refine store_event (t:=3) (p:=72) (v:= ?vo_w37) (w1:=(w34.setCell ⟨go25,((ji21):Int).toNat,none⟩ (.int .i64 (wrap64 ((rd x6_1 (ji21)) - (wrap64 (Int.tdiv (rd x6_1 (ji21)) 2))))))) ?hg ?ho ?hn ?hr ?_;(case ho=>rfl);(case hg=>rfl);(case hn=>rfl);(case hr=>first|(go_simp;done)|(go_simp;rfl));intro w37 hw;have hg:w34.grownBy w37 (some go25):=(by rw [hw];exact HP36.2);have hp_:Kd.R (Kd.int .i64) 3 w37 w.heap.size (fun _=>True) (.slice (some ⟨go25,0,none⟩) x6_1.length co35) y12:=(by rw [hw,Ny12.out];exact HP36.1);clear HP36;replace HO_5:=am_ (Kd.R_over' (v:=(.slice (some ⟨go25,0,none⟩) x6_1.length co35)) (zr_ HO_5) (Kd.R_typed HO_6.out) (by decide) hg);replace BK8:=am_ (blk_grown (zb_ BK8) hg (Kd.R_ne HO_6.out BK8.out (by decide)));replace HO_6:=am_ (hp_);replace HB:=am_ ((by rw [hw];exact below_set (HB.out) GB25.out:Below w.heap.size w w37));clear hg hw hp_;have p13:0≤((ji27):Int):=of_decide_eq_true zq_;have q13:(ji27)<(l0.length:Int):=of_decide_eq_true zq_;obtain ⟨ad13,e13,hx13_0⟩:=Kd.at_int HR0.out (ji27) p13 q13;obtain rfl:ad4=ad13:=(by injection e13);replace hx13_0:=zx_ HB hx13_0;replace p13:=eq_true p13;replace q13:=eq_true q13;have p14:0≤((ji27):Int):=of_decide_eq_true zq_;have q14:(ji27)<(l0.length:Int):=of_decide_eq_true zq_;obtain ⟨ad14,e14,hx14_0⟩:=Kd.at_int HR0.out (ji27) p14 q14;obtain rfl:ad4=ad14:=(by injection e14);replace hx14_0:=zx_ HB hx14_0;replace p14:=eq_true p14;replace q14:=eq_true q14;obtain ⟨hcz38_0,hcz38_1,hcz38_2,hcz38_3,hcz38_4⟩:=x5_ BK8;have hfz38_0:=blk_frozen BK8.out 0;have hfz38_1:=blk_frozen BK8.out 1;have hfz38_2:=blk_frozen BK8.out 2;have hfz38_3:=blk_frozen BK8.out 3;have hfz38_4:=blk_frozen BK8.out 4)|((with_reducible refine gate_builtin (b:= .append) (xs:=#[.tmp 102, .tmp 104]) rfl ?_);(try (refine gate_guard (by rfl) ?_;dsimp only));at_builtin;refine Kd.R_append k39 (w0:=w) w.heap.size rfl (.tmp 102) (.tmp 104) 22 39 (.agg #[(.string ⟨#[]⟩),(.string ⟨#[]⟩),(.int .i64 0),(.int .i64 0),(.int .i64 0)]) 56 rfl Try.underlying22 info39 rfl (by decide) (by omega) (.slice (some ad9) x5_1.length co12) x5_1 (⟨(strOfNums y5),(rd_T39 x5_1 (ji21)).f0,(⟨wrap64 ((wrap64 ((wrap64 (Int.tdiv (rd x6_1 (ji21)) 2))*2))+1),wrap64 ((wrap64 ((wrap64 (Int.tdiv (rd x6_1 (ji21)) 2))*2))+1),wrap64 ((wrap64 ((wrap64 ((wrap64 (Int.tdiv (rd x6_1 (ji21)) 2))*2))+1)) - (wrap64 ((wrap64 (Int.tdiv (wrap64 ((wrap64 ((wrap64 (Int.tdiv (rd x6_1 (ji21)) 2))*2))+1)) 3))*(wrap64 (Int.tmod (rd l0 (ji27)) 2)))))⟩:S37)⟩:S39) [.string (strOfNums y5), .string ((rd_T39 x5_1 (ji21)).f0), .int .i64 (wrap64 ((wrap64 ((wrap64 (Int.tdiv (rd x6_1 (ji21)) 2))*2))+1)), .int .i64 (wrap64 ((wrap64 ((wrap64 (Int.tdiv (rd x6_1 (ji21)) 2))*2))+1)), .int .i64 (wrap64 ((wrap64 ((wrap64 ((wrap64 (Int.tdiv (rd x6_1 (ji21)) 2))*2))+1)) - (wrap64 ((wrap64 (Int.tdiv (wrap64 ((wrap64 ((wrap64 (Int.tdiv (rd x6_1 (ji21)) 2))*2))+1)) 3))*(wrap64 (Int.tmod (rd l0 (ji27)) 2))))))] (fun k_=>k_≠gb8) (fun _=>False) rfl (by first|(go_simp;done)|(go_simp;rfl)) ?aP (fun _ hk=>hk.elim) ?aF ?aO ?aB ?aS ?aL ?_;(case aP=>exact k39_mkM _ _ _ (⟨(strOfNums y5),(rd_T39 x5_1 (ji21)).f0,(⟨wrap64 ((wrap64 ((wrap64 (Int.tdiv (rd x6_1 (ji21)) 2))*2))+1),wrap64 ((wrap64 ((wrap64 (Int.tdiv (rd x6_1 (ji21)) 2))*2))+1),wrap64 ((wrap64 ((wrap64 ((wrap64 (Int.tdiv (rd x6_1 (ji21)) 2))*2))+1)) - (wrap64 ((wrap64 (Int.tdiv (wrap64 ((wrap64 ((wrap64 (Int.tdiv (rd x6_1 (ji21)) 2))*2))+1)) 3))*(wrap64 (Int.tmod (rd l0 (ji27)) 2)))))⟩:S37)⟩:S39));(case aB=>exact (zl1_ HB GE8));(case aF=>exact (fun k_ hk=>Kd.freshB (g:=gb8) (o:= .cells #[.string (strOfNums y5), .string ((rd_T39 x5_1 (ji21)).f0), .int .i64 (wrap64 ((wrap64 ((wrap64 (Int.tdiv (rd x6_1 (ji21)) 2))*2))+1)), .int .i64 (wrap64 ((wrap64 ((wrap64 (Int.tdiv (rd x6_1 (ji21)) 2))*2))+1)), .int .i64 (wrap64 ((wrap64 ((wrap64 ((wrap64 (Int.tdiv (rd x6_1 (ji21)) 2))*2))+1)) - (wrap64 ((wrap64 (Int.tdiv (wrap64 ((wrap64 ((wrap64 (Int.tdiv (rd x6_1 (ji21)) 2))*2))+1)) 3))*(wrap64 (Int.tmod (rd l0 (ji27)) 2))))))] 39 (0,0)) (zw_ BK8) k_ hk));(case aO=>exact (by refine zt_ ?_;exact Kd.R_mono (Kd.R_far (p:=⟨gb8,4,none⟩) (Kd.R_far (p:=⟨gb8,3,none⟩) (Kd.R_far (p:=⟨gb8,2,none⟩) (Kd.R_mono HO_5.out (fun k_ hk=>(⟨hk,hk⟩:_∧k_≠gb8))) (fun _ hk=>hk.2) (.int .i64 (wrap64 ((wrap64 ((wrap64 (Int.tdiv (rd x6_1 (ji21)) 2))*2))+1)))) (fun _ hk=>hk.2) (.int .i64 (wrap64 ((wrap64 ((wrap64 (Int.tdiv (rd x6_1 (ji21)) 2))*2))+1)))) (fun _ hk=>hk.2) (.int .i64 (wrap64 ((wrap64 ((wrap64 ((wrap64 (Int.tdiv (rd x6_1 (ji21)) 2))*2))+1)) - (wrap64 ((wrap64 (Int.tdiv (wrap64 ((wrap64 ((wrap64 (Int.tdiv (rd x6_1 (ji21)) 2))*2))+1)) 3))*(wrap64 (Int.tmod (rd l0 (ji27)) 2)))))))) (fun _ hk=>hk.1)));(case aS=>exact (below_size (zl1_ HB GE8)));(case aL=>have:=LMc31.out;omega);intro v16 w39 ho hb hg hat;rw [←Ny15.out] at ho;have n0_:=am_ (Kd.R_over' (by refine zt_ ?_;exact (Kd.R_mono (Kd.R_far (p:=⟨gb8,4,none⟩) (Kd.R_far (p:=⟨gb8,3,none⟩) (Kd.R_far (p:=⟨gb8,2,none⟩) (Kd.R_types HO_6.out BK8.out (by decide)) (fun _ hk=>hk.2) (.int .i64 (wrap64 ((wrap64 ((wrap64 (Int.tdiv (rd x6_1 (ji21)) 2))*2))+1)))) (fun _ hk=>hk.2) (.int .i64 (wrap64 ((wrap64 ((wrap64 (Int.tdiv (rd x6_1 (ji21)) 2))*2))+1)))) (fun _ hk=>hk.2) (.int .i64 (wrap64 ((wrap64 ((wrap64 ((wrap64 (Int.tdiv (rd x6_1 (ji21)) 2))*2))+1)) - (wrap64 ((wrap64 (Int.tdiv (wrap64 ((wrap64 ((wrap64 (Int.tdiv (rd x6_1 (ji21)) 2))*2))+1)) 3))*(wrap64 (Int.tmod (rd l0 (ji27)) 2)))))))) (fun _ h_=>h_.1))) (Kd.R_typed (by refine zt_ ?_;exact (Kd.R_mono (Kd.R_far (p:=⟨gb8,4,none⟩) (Kd.R_far (p:=⟨gb8,3,none⟩) (Kd.R_far (p:=⟨gb8,2,none⟩) (Kd.R_mono HO_5.out (fun k_ hk=>(⟨hk,hk⟩:_∧k_≠gb8))) (fun _ hk=>hk.2) (.int .i64 (wrap64 ((wrap64 ((wrap64 (Int.tdiv (rd x6_1 (ji21)) 2))*2))+1)))) (fun _ hk=>hk.2) (.int .i64 (wrap64 ((wrap64 ((wrap64 (Int.tdiv (rd x6_1 (ji21)) 2))*2))+1)))) (fun _ hk=>hk.2) (.int .i64 (wrap64 ((wrap64 ((wrap64 ((wrap64 (Int.tdiv (rd x6_1 (ji21)) 2))*2))+1)) - (wrap64 ((wrap64 (Int.tdiv (wrap64 ((wrap64 ((wrap64 (Int.tdiv (rd x6_1 (ji21)) 2))*2))+1)) 3))*(wrap64 (Int.tmod (rd l0 (ji27)) 2)))))))) (fun _ h_=>h_.1)))) (by decide) hg);have n1_:=am_ (blk_grown (g:=gb8) (o:= .cells #[.string (strOfNums y5), .string ((rd_T39 x5_1 (ji21)).f0), .int .i64 (wrap64 ((wrap64 ((wrap64 (Int.tdiv (rd x6_1 (ji21)) 2))*2))+1)), .int .i64 (wrap64 ((wrap64 ((wrap64 (Int.tdiv (rd x6_1 (ji21)) 2))*2))+1)), .int .i64 (wrap64 ((wrap64 ((wrap64 ((wrap64 (Int.tdiv (rd x6_1 (ji21)) 2))*2))+1)) - (wrap64 ((wrap64 (Int.tdiv (wrap64 ((wrap64 ((wrap64 (Int.tdiv (rd x6_1 (ji21)) 2))*2))+1)) 3))*(wrap64 (Int.tmod (rd l0 (ji27)) 2))))))] 39 (0,0)) (zw_ BK8) hg (Kd.R_away HO_5.out (fun _ hk=>hk)));have n2_:=am_ (hb);have n3_:=am_ (ho);clear HO_6;clear BK8;clear HB;clear HO_5;have HO_6:=n0_;have BK8:=n1_;have HB:=n2_;have HO17:=n3_;clear n0_ n1_ n2_ n3_;clear ho hb hg hat)|((with_reducible refine gate_builtin (b:= .append) (xs:=#[.tmp 106, .tmp 111]) rfl ?_);(try (refine gate_guard (by rfl) ?_;dsimp only));at_builtin;refine Kd.R_append (Kd.int .i64) (w0:=w) w.heap.size rfl (.tmp 106) (.tmp 111) 122 3 (.int .i64 0) 8 rfl Try.underlying122 info3 rfl (by decide) (by omega) (.slice (some ⟨go25,0,none⟩) x6_1.length co35) y12 (wrap64 ((wrap64 ((wrap64 ((wrap64 (Int.tdiv (rd x6_1 (ji21)) 2))*2))+1)) - (wrap64 (Int.tdiv (wrap64 ((wrap64 ((wrap64 (Int.tdiv (rd x6_1 (ji21)) 2))*2))+1)) 3)))) [.int .i64 (wrap64 ((wrap64 ((wrap64 ((wrap64 (Int.tdiv (rd x6_1 (ji21)) 2))*2))+1)) - (wrap64 (Int.tdiv (wrap64 ((wrap64 ((wrap64 (Int.tdiv (rd x6_1 (ji21)) 2))*2))+1)) 3))))] (fun _=>True) (fun _=>False) rfl rfl ?aP (fun _ hk=>hk.elim) ?aF ?aO ?aB ?aS ?aL ?_;(case aP=>exact rfl);(case aB=>exact (zl1_ HB GE8));(case aF=>exact (fun _ _=>trivial));(case aO=>exact (zr_ HO_6));(case aS=>exact (below_size (zl1_ HB GE8)));(case aL=>have:=LMc32.out;omega);intro v19 w40 ho hb hg hat;rw [←Ny18.out] at ho;have n0_:=am_ (blk_grown (zb_ BK8) hg (Kd.R_ne HO_6.out BK8.out (by decide)));have n1_:=am_ (Kd.R_over' (zr_ HO17) (Kd.R_typed (zr_ HO_6)) (by decide) hg);have n2_:=am_ (hb);have n3_:=am_ (ho);clear BK8;clear HO17;clear HB;clear HO_6;have BK8:=n0_;have HO17:=n1_;have HB:=n2_;have HO20:=n3_;clear n0_ n1_ n2_ n3_;clear ho hb hg hat));try go_wp2_with (first|((with_reducible refine gate_store (t:=9) (p:=58) rfl ?_);(try (rw [drewN_self wc];generalize hq_:World.drewN wc _=wc;have n0_:=am_ (Kd.R_at hq_ HO_5.out);have n1_:=am_ (Kd.R_at hq_ HO_6.out);have n2_:=am_ (blk_at hq_ BK8.out);have n3_:=am_ (below_at hq_ HB.out);clear hq_ HO_5 HO_6 BK8 HB;have HO_5:=n0_;have HO_6:=n1_;have BK8:=n2_;have HB:=n3_;clear n0_ n1_ n2_ n3_));refine store_event (t:=9) (p:=58) (v:= ?vo_w34) (w1:=(wc.setCell ⟨gb8,1,none⟩ (.string ((rd_T39 x5_1 (ji21)).f0)))) ?hg ?ho ?hn ?hr ?_;(case ho=>rfl);(case hg=>rfl);(case hn=>rfl);(case hr=>first|(go_simp;done)|(go_simp;rfl));intro w34 hw;have n0_:Aside0 (Kd.R k39 39 w34 w.heap.size (fun k_=>k_≠gb8) (.slice (some ad9) x5_1.length co12) x5_1):=⟨(by rw [hw];exact (by refine zt_ ?_;exact Kd.R_mono (Kd.R_far (p:=⟨gb8,1,none⟩) (Kd.R_mono HO_5.out (fun k_ hk=>(⟨hk,hk⟩:_∧k_≠gb8))) (fun _ hk=>hk.2) (.string ((rd_T39 x5_1 (ji21)).f0))) (fun _ hk=>hk.1)))⟩;have n1_:Aside0 (Kd.R (Kd.int .i64) 3 w34 w.heap.size (fun _=>True) u6 x6_1):=⟨(by rw [hw];exact (by refine zt_ ?_;exact Kd.R_mono (Kd.R_far (p:=⟨gb8,1,none⟩) (Kd.R_types HO_6.out BK8.out (by decide)) (fun _ hk=>hk.2) (.string ((rd_T39 x5_1 (ji21)).f0))) (fun _ hk=>trivial)))⟩;have n2_:Aside0 (w34.heap[gb8]?=some (.cells #[.string (strOfNums y5), .string ((rd_T39 x5_1 (ji21)).f0), .int .i64 4096, .int .i64 4096, .int .i64 4096] 39 (0,0))):=⟨(by rw [hw];exact (zw_ BK8))⟩;have n3_:Aside0 (Below w.heap.size w w34):=⟨(by rw [hw];exact (zl1_ HB GE8))⟩;clear hw;clear HO_5;clear HO_6;clear BK8;clear HB;have HO_5:=n0_;have HO_6:=n1_;have BK8:=n2_;have HB:=n3_;clear n0_ n1_ n2_ n3_;obtain ⟨Ao35,co35,eo35⟩:=Kd.R_slice HO_6.out;subst eo35;have p10:0≤((ji21):Int):=of_decide_eq_true zq_;have q10:(ji21)<(x6_1.length:Int):=of_decide_eq_true zq_;obtain ⟨ad10,e10,hx10_0⟩:=Kd.at_int (Kd.R_reads' HO_6.out).2.2 (ji21) p10 q10;cases e10;replace p10:=eq_true p10;replace q10:=eq_true q10;have p11:0≤((ji21):Int):=of_decide_eq_true zq_;have q11:(ji21)<(x6_1.length:Int):=of_decide_eq_true zq_;obtain ⟨ad11,e11,hx11_0⟩:=Kd.at_int (Kd.R_reads' HO_6.out).2.2 (ji21) p11 q11;obtain rfl:ad10=ad11:=(by injection e11);replace p11:=eq_true p11;replace q11:=eq_true q11;have p25:0≤((ji21):Int):=of_decide_eq_true zq_;have q25:((ji21):Int)<((x6_1.length:Int):Int):=of_decide_eq_true zq_;obtain ⟨go25,co25,eo25,gb25,gl25,cl25,HG25⟩:=Kd.R_form HO_6.out (by omega);(first|cases eo25|(injection eo25 with ea_ en_ ec_;(first|subst ea_|(injection ea_ with ea_;subst ea_));subst ec_;clear en_));have GB25:=Aside0.mk gb25;have GG25:=Aside0.mk HG25;clear gb25 gl25 HG25;replace hx10_0:=zv_ hx10_0;replace hx11_0:=zv_ hx11_0;obtain ⟨hx25_0,hf25_0⟩:=Kd.R_celln 0 HO_6.out ((ji21):Int) p25 q25;replace p25:=eq_true p25;replace q25:=eq_true q25;obtain ⟨hy36_,hz36_⟩:=Kd.R_celln 0 HO_6.out ((ji21):Int) (of_decide_eq_true zq_) (of_decide_eq_true zq_);have HP36:=Kd.R_putg HO_6.out ((ji21):Int) (wrap64 ((rd x6_1 (ji21)) - (wrap64 (Int.tdiv (rd x6_1 (ji21)) 2)))))|((with_reducible refine gate_store (t:=3) (p:=72) rfl ?_);(try (rw [drewN_self w34];generalize hq_:World.drewN w34 _=w34;have n0_:=am_ (Kd.R_at hq_ HO_5.out);have n1_:=am_ (Kd.R_at hq_ HO_6.out);have n2_:=am_ (blk_at hq_ BK8.out);have n3_:=am_ (below_at hq_ HB.out);clear hq_ HO_5 HO_6 BK8 HB;have HO_5:=n0_;have HO_6:=n1_;have BK8:=n2_;have HB:=n3_;clear n0_ n1_ n2_ n3_;(try (obtain ⟨hy36_,hz36_⟩:=Kd.R_celln 0 HO_6.out ((ji21):Int) (of_decide_eq_true zq_) (of_decide_eq_true zq_)));(try (have HP36:=Kd.R_putg HO_6.out ((ji21):Int) (wrap64 ((rd x6_1 (ji21)) - (wrap64 (Int.tdiv (rd x6_1 (ji21)) 2))))))));refine store_event (t:=3) (p:=72) (v:= ?vo_w37) (w1:=(w34.setCell ⟨go25,((ji21):Int).toNat,none⟩ (.int .i64 (wrap64 ((rd x6_1 (ji21)) - (wrap64 (Int.tdiv (rd x6_1 (ji21)) 2))))))) ?hg ?ho ?hn ?hr ?_;(case ho=>rfl);(case hg=>rfl);(case hn=>rfl);(case hr=>first|(go_simp;done)|(go_simp;rfl));intro w37 hw;have hg:w34.grownBy w37 (some go25):=(by rw [hw];exact HP36.2);have hp_:Kd.R (Kd.int .i64) 3 w37 w.heap.size (fun _=>True) (.slice (some ⟨go25,0,none⟩) x6_1.length co35) y12:=(by rw [hw,Ny12.out];exact HP36.1);clear HP36;replace HO_5:=am_ (Kd.R_over' (v:=(.slice (some ⟨go25,0,none⟩) x6_1.length co35)) (zr_ HO_5) (Kd.R_typed HO_6.out) (by decide) hg);replace BK8:=am_ (blk_grown (zb_ BK8) hg (Kd.R_ne HO_6.out BK8.out (by decide)));replace HO_6:=am_ (hp_);replace HB:=am_ ((by rw [hw];exact below_set (HB.out) GB25.out:Below w.heap.size w w37));clear hg hw hp_;have p13:0≤((ji27):Int):=of_decide_eq_true zq_;have q13:(ji27)<(l0.length:Int):=of_decide_eq_true zq_;obtain ⟨ad13,e13,hx13_0⟩:=Kd.at_int HR0.out (ji27) p13 q13;obtain rfl:ad4=ad13:=(by injection e13);replace hx13_0:=zx_ HB hx13_0;replace p13:=eq_true p13;replace q13:=eq_true q13;have p14:0≤((ji27):Int):=of_decide_eq_true zq_;have q14:(ji27)<(l0.length:Int):=of_decide_eq_true zq_;obtain ⟨ad14,e14,hx14_0⟩:=Kd.at_int HR0.out (ji27) p14 q14;obtain rfl:ad4=ad14:=(by injection e14);replace hx14_0:=zx_ HB hx14_0;replace p14:=eq_true p14;replace q14:=eq_true q14;obtain ⟨hcz38_0,hcz38_1,hcz38_2,hcz38_3,hcz38_4⟩:=x5_ BK8;have hfz38_0:=blk_frozen BK8.out 0;have hfz38_1:=blk_frozen BK8.out 1;have hfz38_2:=blk_frozen BK8.out 2;have hfz38_3:=blk_frozen BK8.out 3;have hfz38_4:=blk_frozen BK8.out 4)|((with_reducible refine gate_builtin (b:= .append) (xs:=#[.tmp 102, .tmp 104]) rfl ?_);(try (refine gate_guard (by rfl) ?_;dsimp only));at_builtin;refine Kd.R_append k39 (w0:=w) w.heap.size rfl (.tmp 102) (.tmp 104) 22 39 (.agg #[(.string ⟨#[]⟩),(.string ⟨#[]⟩),(.int .i64 0),(.int .i64 0),(.int .i64 0)]) 56 rfl Try.underlying22 info39 rfl (by decide) (by omega) (.slice (some ad9) x5_1.length co12) x5_1 (⟨(strOfNums y5),(rd_T39 x5_1 (ji21)).f0,(⟨wrap64 ((wrap64 ((wrap64 (Int.tdiv (rd x6_1 (ji21)) 2))*2))+1),wrap64 ((wrap64 ((wrap64 (Int.tdiv (rd x6_1 (ji21)) 2))*2))+1),wrap64 ((wrap64 ((wrap64 ((wrap64 (Int.tdiv (rd x6_1 (ji21)) 2))*2))+1)) - (wrap64 ((wrap64 (Int.tdiv (wrap64 ((wrap64 ((wrap64 (Int.tdiv (rd x6_1 (ji21)) 2))*2))+1)) 3))*(wrap64 (Int.tmod (rd l0 (ji27)) 2)))))⟩:S37)⟩:S39) [.string (strOfNums y5), .string ((rd_T39 x5_1 (ji21)).f0), .int .i64 (wrap64 ((wrap64 ((wrap64 (Int.tdiv (rd x6_1 (ji21)) 2))*2))+1)), .int .i64 (wrap64 ((wrap64 ((wrap64 (Int.tdiv (rd x6_1 (ji21)) 2))*2))+1)), .int .i64 (wrap64 ((wrap64 ((wrap64 ((wrap64 (Int.tdiv (rd x6_1 (ji21)) 2))*2))+1)) - (wrap64 ((wrap64 (Int.tdiv (wrap64 ((wrap64 ((wrap64 (Int.tdiv (rd x6_1 (ji21)) 2))*2))+1)) 3))*(wrap64 (Int.tmod (rd l0 (ji27)) 2))))))] (fun k_=>k_≠gb8) (fun _=>False) rfl (by first|(go_simp;done)|(go_simp;rfl)) ?aP (fun _ hk=>hk.elim) ?aF ?aO ?aB ?aS ?aL ?_;(case aP=>exact k39_mkM _ _ _ (⟨(strOfNums y5),(rd_T39 x5_1 (ji21)).f0,(⟨wrap64 ((wrap64 ((wrap64 (Int.tdiv (rd x6_1 (ji21)) 2))*2))+1),wrap64 ((wrap64 ((wrap64 (Int.tdiv (rd x6_1 (ji21)) 2))*2))+1),wrap64 ((wrap64 ((wrap64 ((wrap64 (Int.tdiv (rd x6_1 (ji21)) 2))*2))+1)) - (wrap64 ((wrap64 (Int.tdiv (wrap64 ((wrap64 ((wrap64 (Int.tdiv (rd x6_1 (ji21)) 2))*2))+1)) 3))*(wrap64 (Int.tmod (rd l0 (ji27)) 2)))))⟩:S37)⟩:S39));(case aB=>exact (zl1_ HB GE8));(case aF=>exact (fun k_ hk=>Kd.freshB (g:=gb8) (o:= .cells #[.string (strOfNums y5), .string ((rd_T39 x5_1 (ji21)).f0), .int .i64 (wrap64 ((wrap64 ((wrap64 (Int.tdiv (rd x6_1 (ji21)) 2))*2))+1)), .int .i64 (wrap64 ((wrap64 ((wrap64 (Int.tdiv (rd x6_1 (ji21)) 2))*2))+1)), .int .i64 (wrap64 ((wrap64 ((wrap64 ((wrap64 (Int.tdiv (rd x6_1 (ji21)) 2))*2))+1)) - (wrap64 ((wrap64 (Int.tdiv (wrap64 ((wrap64 ((wrap64 (Int.tdiv (rd x6_1 (ji21)) 2))*2))+1)) 3))*(wrap64 (Int.tmod (rd l0 (ji27)) 2))))))] 39 (0,0)) (zw_ BK8) k_ hk));(case aO=>exact (by refine zt_ ?_;exact Kd.R_mono (Kd.R_far (p:=⟨gb8,4,none⟩) (Kd.R_far (p:=⟨gb8,3,none⟩) (Kd.R_far (p:=⟨gb8,2,none⟩) (Kd.R_mono HO_5.out (fun k_ hk=>(⟨hk,hk⟩:_∧k_≠gb8))) (fun _ hk=>hk.2) (.int .i64 (wrap64 ((wrap64 ((wrap64 (Int.tdiv (rd x6_1 (ji21)) 2))*2))+1)))) (fun _ hk=>hk.2) (.int .i64 (wrap64 ((wrap64 ((wrap64 (Int.tdiv (rd x6_1 (ji21)) 2))*2))+1)))) (fun _ hk=>hk.2) (.int .i64 (wrap64 ((wrap64 ((wrap64 ((wrap64 (Int.tdiv (rd x6_1 (ji21)) 2))*2))+1)) - (wrap64 ((wrap64 (Int.tdiv (wrap64 ((wrap64 ((wrap64 (Int.tdiv (rd x6_1 (ji21)) 2))*2))+1)) 3))*(wrap64 (Int.tmod (rd l0 (ji27)) 2)))))))) (fun _ hk=>hk.1)));(case aS=>exact (below_size (zl1_ HB GE8)));(case aL=>have:=LMc31.out;omega);intro v16 w39 ho hb hg hat;rw [←Ny15.out] at ho;have n0_:=am_ (Kd.R_over' (by refine zt_ ?_;exact (Kd.R_mono (Kd.R_far (p:=⟨gb8,4,none⟩) (Kd.R_far (p:=⟨gb8,3,none⟩) (Kd.R_far (p:=⟨gb8,2,none⟩) (Kd.R_types HO_6.out BK8.out (by decide)) (fun _ hk=>hk.2) (.int .i64 (wrap64 ((wrap64 ((wrap64 (Int.tdiv (rd x6_1 (ji21)) 2))*2))+1)))) (fun _ hk=>hk.2) (.int .i64 (wrap64 ((wrap64 ((wrap64 (Int.tdiv (rd x6_1 (ji21)) 2))*2))+1)))) (fun _ hk=>hk.2) (.int .i64 (wrap64 ((wrap64 ((wrap64 ((wrap64 (Int.tdiv (rd x6_1 (ji21)) 2))*2))+1)) - (wrap64 ((wrap64 (Int.tdiv (wrap64 ((wrap64 ((wrap64 (Int.tdiv (rd x6_1 (ji21)) 2))*2))+1)) 3))*(wrap64 (Int.tmod (rd l0 (ji27)) 2)))))))) (fun _ h_=>h_.1))) (Kd.R_typed (by refine zt_ ?_;exact (Kd.R_mono (Kd.R_far (p:=⟨gb8,4,none⟩) (Kd.R_far (p:=⟨gb8,3,none⟩) (Kd.R_far (p:=⟨gb8,2,none⟩) (Kd.R_mono HO_5.out (fun k_ hk=>(⟨hk,hk⟩:_∧k_≠gb8))) (fun _ hk=>hk.2) (.int .i64 (wrap64 ((wrap64 ((wrap64 (Int.tdiv (rd x6_1 (ji21)) 2))*2))+1)))) (fun _ hk=>hk.2) (.int .i64 (wrap64 ((wrap64 ((wrap64 (Int.tdiv (rd x6_1 (ji21)) 2))*2))+1)))) (fun _ hk=>hk.2) (.int .i64 (wrap64 ((wrap64 ((wrap64 ((wrap64 (Int.tdiv (rd x6_1 (ji21)) 2))*2))+1)) - (wrap64 ((wrap64 (Int.tdiv (wrap64 ((wrap64 ((wrap64 (Int.tdiv (rd x6_1 (ji21)) 2))*2))+1)) 3))*(wrap64 (Int.tmod (rd l0 (ji27)) 2)))))))) (fun _ h_=>h_.1)))) (by decide) hg);have n1_:=am_ (blk_grown (g:=gb8) (o:= .cells #[.string (strOfNums y5), .string ((rd_T39 x5_1 (ji21)).f0), .int .i64 (wrap64 ((wrap64 ((wrap64 (Int.tdiv (rd x6_1 (ji21)) 2))*2))+1)), .int .i64 (wrap64 ((wrap64 ((wrap64 (Int.tdiv (rd x6_1 (ji21)) 2))*2))+1)), .int .i64 (wrap64 ((wrap64 ((wrap64 ((wrap64 (Int.tdiv (rd x6_1 (ji21)) 2))*2))+1)) - (wrap64 ((wrap64 (Int.tdiv (wrap64 ((wrap64 ((wrap64 (Int.tdiv (rd x6_1 (ji21)) 2))*2))+1)) 3))*(wrap64 (Int.tmod (rd l0 (ji27)) 2))))))] 39 (0,0)) (zw_ BK8) hg (Kd.R_away HO_5.out (fun _ hk=>hk)));have n2_:=am_ (hb);have n3_:=am_ (ho);clear HO_6;clear BK8;clear HB;clear HO_5;have HO_6:=n0_;have BK8:=n1_;have HB:=n2_;have HO17:=n3_;clear n0_ n1_ n2_ n3_;clear ho hb hg hat)|((with_reducible refine gate_builtin (b:= .append) (xs:=#[.tmp 106, .tmp 111]) rfl ?_);(try (refine gate_guard (by rfl) ?_;dsimp only));at_builtin;refine Kd.R_append (Kd.int .i64) (w0:=w) w.heap.size rfl (.tmp 106) (.tmp 111) 122 3 (.int .i64 0) 8 rfl Try.underlying122 info3 rfl (by decide) (by omega) (.slice (some ⟨go25,0,none⟩) x6_1.length co35) y12 (wrap64 ((wrap64 ((wrap64 ((wrap64 (Int.tdiv (rd x6_1 (ji21)) 2))*2))+1)) - (wrap64 (Int.tdiv (wrap64 ((wrap64 ((wrap64 (Int.tdiv (rd x6_1 (ji21)) 2))*2))+1)) 3)))) [.int .i64 (wrap64 ((wrap64 ((wrap64 ((wrap64 (Int.tdiv (rd x6_1 (ji21)) 2))*2))+1)) - (wrap64 (Int.tdiv (wrap64 ((wrap64 ((wrap64 (Int.tdiv (rd x6_1 (ji21)) 2))*2))+1)) 3))))] (fun _=>True) (fun _=>False) rfl rfl ?aP (fun _ hk=>hk.elim) ?aF ?aO ?aB ?aS ?aL ?_;(case aP=>exact rfl);(case aB=>exact (zl1_ HB GE8));(case aF=>exact (fun _ _=>trivial));(case aO=>exact (zr_ HO_6));(case aS=>exact (below_size (zl1_ HB GE8)));(case aL=>have:=LMc32.out;omega);intro v19 w40 ho hb hg hat;rw [←Ny18.out] at ho;have n0_:=am_ (blk_grown (zb_ BK8) hg (Kd.R_ne HO_6.out BK8.out (by decide)));have n1_:=am_ (Kd.R_over' (zr_ HO17) (Kd.R_typed (zr_ HO_6)) (by decide) hg);have n2_:=am_ (hb);have n3_:=am_ (ho);clear BK8;clear HO17;clear HB;clear HO_6;have BK8:=n0_;have HO17:=n1_;have HB:=n2_;have HO20:=n3_;clear n0_ n1_ n2_ n3_;clear ho hb hg hat)))
        go_roundg kj10
        case measure=>have:=HK1.out;have:=HJ4.out;have:=HJ10.out;omega
        case rel=>exact ⟨(y15),(y18),(wrap64 (x7_1+2)),(by first|rfl|(simp;done)|(simp [*];done)),H',⟨by have:=HK1.out;have:=HJ4.out;have:=HJ10.out;omega⟩,⟨by (with_reducible repeat (first|apply Kd.R_alloc|apply Kd.R_drewN|apply Kd.R_drew));exact Kd.R_mono HO17.out (fun _ hk=>trivial)⟩,⟨by (with_reducible repeat (first|apply Kd.R_alloc|apply Kd.R_drewN|apply Kd.R_drew));exact HO20.out⟩,⟨zl1_ HB GE8⟩⟩
       rw [if_neg c30] at H
       have c30b0:((Int.tmod (rd l0 (ji27)) 16)==0)=false:=beq_eq_false_iff_ne.mpr c30
       have c30b1:((Int.tmod (rd l0 (ji27)) 16) !=0)=true:=bne_iff_ne.mpr c30
       by_cases c41:x5_1.length<2513169434916
       rotate_left
       ·rw [if_neg c41] at H
        exact absurd H (by simp)
       rw [if_pos c41] at H
       have LMc41:=Aside0.mk c41
       clear c41
       obtain ⟨y22,hy22⟩: ∃y_:List (S39),y_=(x5_1++ [(⟨(strOfNums y5),(rd_T39 x5_1 (ji21)).f0,(⟨wrap64 (Int.tdiv (rd x6_1 (ji21)) 2),wrap64 (Int.tdiv (rd x6_1 (ji21)) 2),wrap64 ((wrap64 (Int.tdiv (rd x6_1 (ji21)) 2)) - (wrap64 ((wrap64 (Int.tdiv (wrap64 (Int.tdiv (rd x6_1 (ji21)) 2)) 3))*(wrap64 (Int.tmod (rd l0 (ji27)) 2)))))⟩:S37)⟩:S39)]):=⟨_,rfl⟩
       replace H:(if y12.length<17592186044416 then (law11_Make.l0 kj10 l0 true y22 (y12++ [wrap64 ((wrap64 (Int.tdiv (rd x6_1 (ji21)) 2)) - (wrap64 (Int.tdiv (wrap64 (Int.tdiv (rd x6_1 (ji21)) 2)) 3)))]) (wrap64 (x7_1+2))) else (none))=some r:=by first|(rw [hy22];with_reducible exact H)|(have H2_:=(Option.bind_some _ _).symm.trans H;rw [hy22];with_reducible exact H2_)|(have H2_:=(Option.bind_some _ _).symm.trans H;with_reducible exact H2_)|with_reducible exact H|(rw [hy22];exact H)|exact H
       have Ny22:=Aside0.mk hy22
       clear hy22
       by_cases c42:y12.length<17592186044416
       rotate_left
       ·rw [if_neg c42] at H
        exact absurd H (by simp)
       rw [if_pos c42] at H
       have LMc42:=Aside0.mk c42
       clear c42
       obtain ⟨y25,hy25⟩: ∃y_:List Int,y_=(y12++ [wrap64 ((wrap64 (Int.tdiv (rd x6_1 (ji21)) 2)) - (wrap64 (Int.tdiv (wrap64 (Int.tdiv (rd x6_1 (ji21)) 2)) 3)))]):=⟨_,rfl⟩
       replace H:(law11_Make.l0 kj10 l0 true y22 y25 (wrap64 (x7_1+2)))=some r:=by first|(rw [hy25];with_reducible exact H)|(have H2_:=(Option.bind_some _ _).symm.trans H;rw [hy25];with_reducible exact H2_)|(have H2_:=(Option.bind_some _ _).symm.trans H;with_reducible exact H2_)|with_reducible exact H|(rw [hy25];exact H)|exact H
       have Ny25:=Aside0.mk hy25
       clear hy25
       have H':=Aside0.mk H
       clear H
       have p9:0≤((ji21):Int):=of_decide_eq_true zq_
       have q9:(ji21)<(x5_1.length:Int):=of_decide_eq_true zq_
       obtain ⟨ad9,e9,hx9_0,hx9_1,hx9_2,hx9_3,hx9_4⟩:=at_T39 (Kd.R_reads' HO_5.out).2.2 (ji21) p9 q9
       cases e9
       replace p9:=eq_true p9
       replace q9:=eq_true q9
       obtain ⟨hcz43_0,hcz43_1,hcz43_2,hcz43_3,hcz43_4,hfz43_0,hfz43_1,hfz43_2,hfz43_3,hfz43_4⟩:=y5_ BK8
       go_wp2_with (first|((with_reducible refine gate_store (t:=9) (p:=58) rfl ?_);(try (rw [drewN_self wc];generalize hq_:World.drewN wc _=wc;have n0_:=am_ (Kd.R_at hq_ HO_5.out);have n1_:=am_ (Kd.R_at hq_ HO_6.out);have n2_:=am_ (blk_at hq_ BK8.out);have n3_:=am_ (below_at hq_ HB.out);clear hq_ HO_5 HO_6 BK8 HB;have HO_5:=n0_;have HO_6:=n1_;have BK8:=n2_;have HB:=n3_;clear n0_ n1_ n2_ n3_));refine store_event (t:=9) (p:=58) (v:= ?vo_w44) (w1:=(wc.setCell ⟨gb8,1,none⟩ (.string ((rd_T39 x5_1 (ji21)).f0)))) ?hg ?ho ?hn ?hr ?_;(case ho=>rfl);(case hg=>rfl);(case hn=>rfl);(case hr=>first|(go_simp;done)|(go_simp;rfl));intro w44 hw;have n0_:Aside0 (Kd.R k39 39 w44 w.heap.size (fun k_=>k_≠gb8) (.slice (some ad9) x5_1.length co12) x5_1):=⟨(by rw [hw];exact (by refine zt_ ?_;exact Kd.R_mono (Kd.R_far (p:=⟨gb8,1,none⟩) (Kd.R_mono HO_5.out (fun k_ hk=>(⟨hk,hk⟩:_∧k_≠gb8))) (fun _ hk=>hk.2) (.string ((rd_T39 x5_1 (ji21)).f0))) (fun _ hk=>hk.1)))⟩;have n1_:Aside0 (Kd.R (Kd.int .i64) 3 w44 w.heap.size (fun _=>True) u6 x6_1):=⟨(by rw [hw];exact (by refine zt_ ?_;exact Kd.R_mono (Kd.R_far (p:=⟨gb8,1,none⟩) (Kd.R_types HO_6.out BK8.out (by decide)) (fun _ hk=>hk.2) (.string ((rd_T39 x5_1 (ji21)).f0))) (fun _ hk=>trivial)))⟩;have n2_:Aside0 (w44.heap[gb8]?=some (.cells #[.string (strOfNums y5), .string ((rd_T39 x5_1 (ji21)).f0), .int .i64 4096, .int .i64 4096, .int .i64 4096] 39 (0,0))):=⟨(by rw [hw];exact (zw_ BK8))⟩;have n3_:Aside0 (Below w.heap.size w w44):=⟨(by rw [hw];exact (zl1_ HB GE8))⟩;clear hw;clear HO_5;clear HO_6;clear BK8;clear HB;have HO_5:=n0_;have HO_6:=n1_;have BK8:=n2_;have HB:=n3_;clear n0_ n1_ n2_ n3_;obtain ⟨Ao45,co45,eo45⟩:=Kd.R_slice HO_6.out;subst eo45;have p10:0≤((ji21):Int):=of_decide_eq_true zq_;have q10:(ji21)<(x6_1.length:Int):=of_decide_eq_true zq_;obtain ⟨ad10,e10,hx10_0⟩:=Kd.at_int (Kd.R_reads' HO_6.out).2.2 (ji21) p10 q10;cases e10;replace p10:=eq_true p10;replace q10:=eq_true q10;have p11:0≤((ji21):Int):=of_decide_eq_true zq_;have q11:(ji21)<(x6_1.length:Int):=of_decide_eq_true zq_;obtain ⟨ad11,e11,hx11_0⟩:=Kd.at_int (Kd.R_reads' HO_6.out).2.2 (ji21) p11 q11;obtain rfl:ad10=ad11:=(by injection e11);replace p11:=eq_true p11;replace q11:=eq_true q11;have p25:0≤((ji21):Int):=of_decide_eq_true zq_;have q25:((ji21):Int)<((x6_1.length:Int):Int):=of_decide_eq_true zq_;obtain ⟨go25,co25,eo25,gb25,gl25,cl25,HG25⟩:=Kd.R_form HO_6.out (by omega);(first|cases eo25|(injection eo25 with ea_ en_ ec_;(first|subst ea_|(injection ea_ with ea_;subst ea_));subst ec_;clear en_));have GB25:=Aside0.mk gb25;have GG25:=Aside0.mk HG25;clear gb25 gl25 HG25;replace hx10_0:=zv_ hx10_0;replace hx11_0:=zv_ hx11_0;obtain ⟨hx25_0,hf25_0⟩:=Kd.R_celln 0 HO_6.out ((ji21):Int) p25 q25;replace p25:=eq_true p25;replace q25:=eq_true q25;obtain ⟨hy46_,hz46_⟩:=Kd.R_celln 0 HO_6.out ((ji21):Int) (of_decide_eq_true zq_) (of_decide_eq_true zq_);have HP46:=Kd.R_putg HO_6.out ((ji21):Int) (wrap64 ((rd x6_1 (ji21)) - (wrap64 (Int.tdiv (rd x6_1 (ji21)) 2)))))|((with_reducible refine gate_store (t:=3) (p:=72) rfl ?_);(try (rw [drewN_self w44];generalize hq_:World.drewN w44 _=w44;have n0_:=am_ (Kd.R_at hq_ HO_5.out);have n1_:=am_ (Kd.R_at hq_ HO_6.out);have n2_:=am_ (blk_at hq_ BK8.out);have n3_:=am_ (below_at hq_ HB.out);clear hq_ HO_5 HO_6 BK8 HB;have HO_5:=n0_;have HO_6:=n1_;have BK8:=n2_;have HB:=n3_;clear n0_ n1_ n2_ n3_;(try (obtain ⟨hy46_,hz46_⟩:=Kd.R_celln 0 HO_6.out ((ji21):Int) (of_decide_eq_true zq_) (of_decide_eq_true zq_)));(try (have HP46:=Kd.R_putg HO_6.out ((ji21):Int) (wrap64 ((rd x6_1 (ji21)) - (wrap64 (Int.tdiv (rd x6_1 (ji21)) 2))))))));refine store_event (t:=3) (p:=72) (v:= ?vo_w47) (w1:=(w44.setCell ⟨go25,((ji21):Int).toNat,none⟩ (.int .i64 (wrap64 ((rd x6_1 (ji21)) - (wrap64 (Int.tdiv (rd x6_1 (ji21)) 2))))))) ?hg ?ho ?hn ?hr ?_;(case ho=>rfl);(case hg=>rfl);(case hn=>rfl);(case hr=>first|(go_simp;done)|(go_simp;rfl));intro w47 hw;have hg:w44.grownBy w47 (some go25):=(by rw [hw];exact HP46.2);have hp_:Kd.R (Kd.int .i64) 3 w47 w.heap.size (fun _=>True) (.slice (some ⟨go25,0,none⟩) x6_1.length co45) y12:=(by rw [hw,Ny12.out];exact HP46.1);clear HP46;replace HO_5:=am_ (Kd.R_over' (v:=(.slice (some ⟨go25,0,none⟩) x6_1.length co45)) (zr_ HO_5) (Kd.R_typed HO_6.out) (by decide) hg);replace BK8:=am_ (blk_grown (zb_ BK8) hg (Kd.R_ne HO_6.out BK8.out (by decide)));replace HO_6:=am_ (hp_);replace HB:=am_ ((by rw [hw];exact below_set (HB.out) GB25.out:Below w.heap.size w w47));clear hg hw hp_;have p13:0≤((ji27):Int):=of_decide_eq_true zq_;have q13:(ji27)<(l0.length:Int):=of_decide_eq_true zq_;obtain ⟨ad13,e13,hx13_0⟩:=Kd.at_int HR0.out (ji27) p13 q13;obtain rfl:ad4=ad13:=(by injection e13);replace hx13_0:=zx_ HB hx13_0;replace p13:=eq_true p13;replace q13:=eq_true q13;have p21:0≤((ji27):Int):=of_decide_eq_true zq_;have q21:(ji27)<(l0.length:Int):=of_decide_eq_true zq_;obtain ⟨ad21,e21,hx21_0⟩:=Kd.at_int HR0.out (ji27) p21 q21;obtain rfl:ad4=ad21:=(by injection e21);replace hx21_0:=zx_ HB hx21_0;replace p21:=eq_true p21;replace q21:=eq_true q21;obtain ⟨hcz48_0,hcz48_1,hcz48_2,hcz48_3,hcz48_4⟩:=x5_ BK8;have hfz48_0:=blk_frozen BK8.out 0;have hfz48_1:=blk_frozen BK8.out 1;have hfz48_2:=blk_frozen BK8.out 2;have hfz48_3:=blk_frozen BK8.out 3;have hfz48_4:=blk_frozen BK8.out 4)|((with_reducible refine gate_builtin (b:= .append) (xs:=#[.tmp 102, .tmp 104]) rfl ?_);(try (refine gate_guard (by rfl) ?_;dsimp only));at_builtin;refine Kd.R_append k39 (w0:=w) w.heap.size rfl (.tmp 102) (.tmp 104) 22 39 (.agg #[(.string ⟨#[]⟩),(.string ⟨#[]⟩),(.int .i64 0),(.int .i64 0),(.int .i64 0)]) 56 rfl Try.underlying22 info39 rfl (by decide) (by omega) (.slice (some ad9) x5_1.length co12) x5_1 (⟨(strOfNums y5),(rd_T39 x5_1 (ji21)).f0,(⟨wrap64 (Int.tdiv (rd x6_1 (ji21)) 2),wrap64 (Int.tdiv (rd x6_1 (ji21)) 2),wrap64 ((wrap64 (Int.tdiv (rd x6_1 (ji21)) 2)) - (wrap64 ((wrap64 (Int.tdiv (wrap64 (Int.tdiv (rd x6_1 (ji21)) 2)) 3))*(wrap64 (Int.tmod (rd l0 (ji27)) 2)))))⟩:S37)⟩:S39) [.string (strOfNums y5), .string ((rd_T39 x5_1 (ji21)).f0), .int .i64 (wrap64 (Int.tdiv (rd x6_1 (ji21)) 2)), .int .i64 (wrap64 (Int.tdiv (rd x6_1 (ji21)) 2)), .int .i64 (wrap64 ((wrap64 (Int.tdiv (rd x6_1 (ji21)) 2)) - (wrap64 ((wrap64 (Int.tdiv (wrap64 (Int.tdiv (rd x6_1 (ji21)) 2)) 3))*(wrap64 (Int.tmod (rd l0 (ji27)) 2))))))] (fun k_=>k_≠gb8) (fun _=>False) rfl (by first|(go_simp;done)|(go_simp;rfl)) ?aP (fun _ hk=>hk.elim) ?aF ?aO ?aB ?aS ?aL ?_;(case aP=>exact k39_mkM _ _ _ (⟨(strOfNums y5),(rd_T39 x5_1 (ji21)).f0,(⟨wrap64 (Int.tdiv (rd x6_1 (ji21)) 2),wrap64 (Int.tdiv (rd x6_1 (ji21)) 2),wrap64 ((wrap64 (Int.tdiv (rd x6_1 (ji21)) 2)) - (wrap64 ((wrap64 (Int.tdiv (wrap64 (Int.tdiv (rd x6_1 (ji21)) 2)) 3))*(wrap64 (Int.tmod (rd l0 (ji27)) 2)))))⟩:S37)⟩:S39));(case aB=>exact (zl1_ HB GE8));(case aF=>exact (fun k_ hk=>Kd.freshB (g:=gb8) (o:= .cells #[.string (strOfNums y5), .string ((rd_T39 x5_1 (ji21)).f0), .int .i64 (wrap64 (Int.tdiv (rd x6_1 (ji21)) 2)), .int .i64 (wrap64 (Int.tdiv (rd x6_1 (ji21)) 2)), .int .i64 (wrap64 ((wrap64 (Int.tdiv (rd x6_1 (ji21)) 2)) - (wrap64 ((wrap64 (Int.tdiv (wrap64 (Int.tdiv (rd x6_1 (ji21)) 2)) 3))*(wrap64 (Int.tmod (rd l0 (ji27)) 2))))))] 39 (0,0)) (zw_ BK8) k_ hk));(case aO=>exact (by refine zt_ ?_;exact Kd.R_mono (Kd.R_far (p:=⟨gb8,4,none⟩) (Kd.R_far (p:=⟨gb8,3,none⟩) (Kd.R_far (p:=⟨gb8,2,none⟩) (Kd.R_mono HO_5.out (fun k_ hk=>(⟨hk,hk⟩:_∧k_≠gb8))) (fun _ hk=>hk.2) (.int .i64 (wrap64 (Int.tdiv (rd x6_1 (ji21)) 2)))) (fun _ hk=>hk.2) (.int .i64 (wrap64 (Int.tdiv (rd x6_1 (ji21)) 2)))) (fun _ hk=>hk.2) (.int .i64 (wrap64 ((wrap64 (Int.tdiv (rd x6_1 (ji21)) 2)) - (wrap64 ((wrap64 (Int.tdiv (wrap64 (Int.tdiv (rd x6_1 (ji21)) 2)) 3))*(wrap64 (Int.tmod (rd l0 (ji27)) 2)))))))) (fun _ hk=>hk.1)));(case aS=>exact (below_size (zl1_ HB GE8)));(case aL=>have:=LMc41.out;omega);intro v23 w49 ho hb hg hat;rw [←Ny22.out] at ho;have n0_:=am_ (Kd.R_over' (by refine zt_ ?_;exact (Kd.R_mono (Kd.R_far (p:=⟨gb8,4,none⟩) (Kd.R_far (p:=⟨gb8,3,none⟩) (Kd.R_far (p:=⟨gb8,2,none⟩) (Kd.R_types HO_6.out BK8.out (by decide)) (fun _ hk=>hk.2) (.int .i64 (wrap64 (Int.tdiv (rd x6_1 (ji21)) 2)))) (fun _ hk=>hk.2) (.int .i64 (wrap64 (Int.tdiv (rd x6_1 (ji21)) 2)))) (fun _ hk=>hk.2) (.int .i64 (wrap64 ((wrap64 (Int.tdiv (rd x6_1 (ji21)) 2)) - (wrap64 ((wrap64 (Int.tdiv (wrap64 (Int.tdiv (rd x6_1 (ji21)) 2)) 3))*(wrap64 (Int.tmod (rd l0 (ji27)) 2)))))))) (fun _ h_=>h_.1))) (Kd.R_typed (by refine zt_ ?_;exact (Kd.R_mono (Kd.R_far (p:=⟨gb8,4,none⟩) (Kd.R_far (p:=⟨gb8,3,none⟩) (Kd.R_far (p:=⟨gb8,2,none⟩) (Kd.R_mono HO_5.out (fun k_ hk=>(⟨hk,hk⟩:_∧k_≠gb8))) (fun _ hk=>hk.2) (.int .i64 (wrap64 (Int.tdiv (rd x6_1 (ji21)) 2)))) (fun _ hk=>hk.2) (.int .i64 (wrap64 (Int.tdiv (rd x6_1 (ji21)) 2)))) (fun _ hk=>hk.2) (.int .i64 (wrap64 ((wrap64 (Int.tdiv (rd x6_1 (ji21)) 2)) - (wrap64 ((wrap64 (Int.tdiv (wrap64 (Int.tdiv (rd x6_1 (ji21)) 2)) 3))*(wrap64 (Int.tmod (rd l0 (ji27)) 2)))))))) (fun _ h_=>h_.1)))) (by decide) hg);have n1_:=am_ (blk_grown (g:=gb8) (o:= .cells #[.string (strOfNums y5), .string ((rd_T39 x5_1 (ji21)).f0), .int .i64 (wrap64 (Int.tdiv (rd x6_1 (ji21)) 2)), .int .i64 (wrap64 (Int.tdiv (rd x6_1 (ji21)) 2)), .int .i64 (wrap64 ((wrap64 (Int.tdiv (rd x6_1 (ji21)) 2)) - (wrap64 ((wrap64 (Int.tdiv (wrap64 (Int.tdiv (rd x6_1 (ji21)) 2)) 3))*(wrap64 (Int.tmod (rd l0 (ji27)) 2))))))] 39 (0,0)) (zw_ BK8) hg (Kd.R_away HO_5.out (fun _ hk=>hk)));have n2_:=am_ (hb);have n3_:=am_ (ho);clear HO_6;clear BK8;clear HB;clear HO_5;have HO_6:=n0_;have BK8:=n1_;have HB:=n2_;have HO24:=n3_;clear n0_ n1_ n2_ n3_;clear ho hb hg hat)|((with_reducible refine gate_builtin (b:= .append) (xs:=#[.tmp 106, .tmp 111]) rfl ?_);(try (refine gate_guard (by rfl) ?_;dsimp only));at_builtin;refine Kd.R_append (Kd.int .i64) (w0:=w) w.heap.size rfl (.tmp 106) (.tmp 111) 122 3 (.int .i64 0) 8 rfl Try.underlying122 info3 rfl (by decide) (by omega) (.slice (some ⟨go25,0,none⟩) x6_1.length co45) y12 (wrap64 ((wrap64 (Int.tdiv (rd x6_1 (ji21)) 2)) - (wrap64 (Int.tdiv (wrap64 (Int.tdiv (rd x6_1 (ji21)) 2)) 3)))) [.int .i64 (wrap64 ((wrap64 (Int.tdiv (rd x6_1 (ji21)) 2)) - (wrap64 (Int.tdiv (wrap64 (Int.tdiv (rd x6_1 (ji21)) 2)) 3))))] (fun _=>True) (fun _=>False) rfl rfl ?aP (fun _ hk=>hk.elim) ?aF ?aO ?aB ?aS ?aL ?_;(case aP=>exact rfl);(case aB=>exact (zl1_ HB GE8));(case aF=>exact (fun _ _=>trivial));(case aO=>exact (zr_ HO_6));(case aS=>exact (below_size (zl1_ HB GE8)));(case aL=>have:=LMc42.out;omega);intro v26 w50 ho hb hg hat;rw [←Ny25.out] at ho;have n0_:=am_ (blk_grown (zb_ BK8) hg (Kd.R_ne HO_6.out BK8.out (by decide)));have n1_:=am_ (Kd.R_over' (zr_ HO24) (Kd.R_typed (zr_ HO_6)) (by decide) hg);have n2_:=am_ (hb);have n3_:=am_ (ho);clear BK8;clear HO24;clear HB;clear HO_6;have BK8:=n0_;have HO24:=n1_;have HB:=n2_;have HO27:=n3_;clear n0_ n1_ n2_ n3_;clear ho hb hg hat))
       repeat (go_quiet (first|((with_reducible refine gate_store (t:=9) (p:=58) rfl ?_);(try (rw [drewN_self wc];generalize hq_:World.drewN wc _=wc;have n0_:=am_ (Kd.R_at hq_ HO_5.out);have n1_:=am_ (Kd.R_at hq_ HO_6.out);have n2_:=am_ (blk_at hq_ BK8.out);have n3_:=am_ (below_at hq_ HB.out);clear hq_ HO_5 HO_6 BK8 HB;have HO_5:=n0_;have HO_6:=n1_;have BK8:=n2_;have HB:=n3_;clear n0_ n1_ n2_ n3_));refine store_event (t:=9) (p:=58) (v:= ?vo_w44) (w1:=(wc.setCell ⟨gb8,1,none⟩ (.string ((rd_T39 x5_1 (ji21)).f0)))) ?hg ?ho ?hn ?hr ?_;(case ho=>rfl);(case hg=>rfl);(case hn=>rfl);(case hr=>first|(go_simp;done)|(go_simp;rfl));intro w44 hw;have n0_:Aside0 (Kd.R k39 39 w44 w.heap.size (fun k_=>k_≠gb8) (.slice (some ad9) x5_1.length co12) x5_1):=⟨(by rw [hw];exact (by refine zt_ ?_;exact Kd.R_mono (Kd.R_far (p:=⟨gb8,1,none⟩) (Kd.R_mono HO_5.out (fun k_ hk=>(⟨hk,hk⟩:_∧k_≠gb8))) (fun _ hk=>hk.2) (.string ((rd_T39 x5_1 (ji21)).f0))) (fun _ hk=>hk.1)))⟩;have n1_:Aside0 (Kd.R (Kd.int .i64) 3 w44 w.heap.size (fun _=>True) u6 x6_1):=⟨(by rw [hw];exact (by refine zt_ ?_;exact Kd.R_mono (Kd.R_far (p:=⟨gb8,1,none⟩) (Kd.R_types HO_6.out BK8.out (by decide)) (fun _ hk=>hk.2) (.string ((rd_T39 x5_1 (ji21)).f0))) (fun _ hk=>trivial)))⟩;have n2_:Aside0 (w44.heap[gb8]?=some (.cells #[.string (strOfNums y5), .string ((rd_T39 x5_1 (ji21)).f0), .int .i64 4096, .int .i64 4096, .int .i64 4096] 39 (0,0))):=⟨(by rw [hw];exact (zw_ BK8))⟩;have n3_:Aside0 (Below w.heap.size w w44):=⟨(by rw [hw];exact (zl1_ HB GE8))⟩;clear hw;clear HO_5;clear HO_6;clear BK8;clear HB;have HO_5:=n0_;have HO_6:=n1_;have BK8:=n2_;have HB:=n3_;clear n0_ n1_ n2_ n3_;obtain ⟨Ao45,co45,eo45⟩:=Kd.R_slice HO_6.out;subst eo45;have p10:0≤((ji21):Int):=of_decide_eq_true zq_;have q10:(ji21)<(x6_1.length:Int):=of_decide_eq_true zq_;obtain ⟨ad10,e10,hx10_0⟩:=Kd.at_int (Kd.R_reads' HO_6.out).2.2 (ji21) p10 q10;cases e10;replace p10:=eq_true p10;replace q10:=eq_true q10;have p11:0≤((ji21):Int):=of_decide_eq_true zq_;have q11:(ji21)<(x6_1.length:Int):=of_decide_eq_true zq_;obtain ⟨ad11,e11,hx11_0⟩:=Kd.at_int (Kd.R_reads' HO_6.out).2.2 (ji21) p11 q11;obtain rfl:ad10=ad11:=(by injection e11);replace p11:=eq_true p11;replace q11:=eq_true q11;have p25:0≤((ji21):Int):=of_decide_eq_true zq_;have q25:((ji21):Int)<((x6_1.length:Int):Int):=of_decide_eq_true zq_;obtain ⟨go25,co25,eo25,gb25,gl25,cl25,HG25⟩:=Kd.R_form HO_6.out (by omega);(first|cases eo25|(injection eo25 with ea_ en_ ec_;(first|subst ea_|(injection ea_ with ea_;subst ea_));subst ec_;clear en_));have GB25:=Aside0.mk gb25;have GG25:=Aside0.mk HG25;clear gb25 gl25 HG25;replace hx10_0:=zv_ hx10_0;replace hx11_0:=zv_ hx11_0;obtain ⟨hx25_0,hf25_0⟩:=Kd.R_celln 0 HO_6.out ((ji21):Int) p25 q25;replace p25:=eq_true p25;replace q25:=eq_true q25;obtain ⟨hy46_,hz46_⟩:=Kd.R_celln 0 HO_6.out ((ji21):Int) (of_decide_eq_true zq_) (of_decide_eq_true zq_);have HP46:=Kd.R_putg HO_6.out ((ji21):Int) (wrap64 ((rd x6_1 (ji21)) - (wrap64 (Int.tdiv (rd x6_1 (ji21)) 2)))))|((with_reducible refine gate_store (t:=3) (p:=72) rfl ?_);(try (rw [drewN_self w44];generalize hq_:World.drewN w44 _=w44;have n0_:=am_ (Kd.R_at hq_ HO_5.out);have n1_:=am_ (Kd.R_at hq_ HO_6.out);have n2_:=am_ (blk_at hq_ BK8.out);have n3_:=am_ (below_at hq_ HB.out);clear hq_ HO_5 HO_6 BK8 HB;have HO_5:=n0_;have HO_6:=n1_;have BK8:=n2_;have HB:=n3_;clear n0_ n1_ n2_ n3_;(try (obtain ⟨hy46_,hz46_⟩:=Kd.R_celln 0 HO_6.out ((ji21):Int) (of_decide_eq_true zq_) (of_decide_eq_true zq_)));(try (have HP46:=Kd.R_putg HO_6.out ((ji21):Int) (wrap64 ((rd x6_1 (ji21)) - (wrap64 (Int.tdiv (rd x6_1 (ji21)) 2))))))));refine store_event (t:=3) (p:=72) (v:= ?vo_w47) (w1:=(w44.setCell ⟨go25,((ji21):Int).toNat,none⟩ (.int .i64 (wrap64 ((rd x6_1 (ji21)) - (wrap64 (Int.tdiv (rd x6_1 (ji21)) 2))))))) ?hg ?ho ?hn ?hr ?_;(case ho=>rfl);(case hg=>rfl);(case hn=>rfl);(case hr=>first|(go_simp;done)|(go_simp;rfl));intro w47 hw;have hg:w44.grownBy w47 (some go25):=(by rw [hw];exact HP46.2);have hp_:Kd.R (Kd.int .i64) 3 w47 w.heap.size (fun _=>True) (.slice (some ⟨go25,0,none⟩) x6_1.length co45) y12:=(by rw [hw,Ny12.out];exact HP46.1);clear HP46;replace HO_5:=am_ (Kd.R_over' (v:=(.slice (some ⟨go25,0,none⟩) x6_1.length co45)) (zr_ HO_5) (Kd.R_typed HO_6.out) (by decide) hg);replace BK8:=am_ (blk_grown (zb_ BK8) hg (Kd.R_ne HO_6.out BK8.out (by decide)));replace HO_6:=am_ (hp_);replace HB:=am_ ((by rw [hw];exact below_set (HB.out) GB25.out:Below w.heap.size w w47));clear hg hw hp_;have p13:0≤((ji27):Int):=of_decide_eq_true zq_;have q13:(ji27)<(l0.length:Int):=of_decide_eq_true zq_;obtain ⟨ad13,e13,hx13_0⟩:=Kd.at_int HR0.out (ji27) p13 q13;obtain rfl:ad4=ad13:=(by injection e13);replace hx13_0:=zx_ HB hx13_0;replace p13:=eq_true p13;replace q13:=eq_true q13;have p21:0≤((ji27):Int):=of_decide_eq_true zq_;have q21:(ji27)<(l0.length:Int):=of_decide_eq_true zq_;obtain ⟨ad21,e21,hx21_0⟩:=Kd.at_int HR0.out (ji27) p21 q21;obtain rfl:ad4=ad21:=(by injection e21);replace hx21_0:=zx_ HB hx21_0;replace p21:=eq_true p21;replace q21:=eq_true q21;obtain ⟨hcz48_0,hcz48_1,hcz48_2,hcz48_3,hcz48_4⟩:=x5_ BK8;have hfz48_0:=blk_frozen BK8.out 0;have hfz48_1:=blk_frozen BK8.out 1;have hfz48_2:=blk_frozen BK8.out 2;have hfz48_3:=blk_frozen BK8.out 3;have hfz48_4:=blk_frozen BK8.out 4)|((with_reducible refine gate_builtin (b:= .append) (xs:=#[.tmp 102, .tmp 104]) rfl ?_);(try (refine gate_guard (by rfl) ?_;dsimp only));at_builtin;refine Kd.R_append k39 (w0:=w) w.heap.size rfl (.tmp 102) (.tmp 104) 22 39 (.agg #[(.string ⟨#[]⟩),(.string ⟨#[]⟩),(.int .i64 0),(.int .i64 0),(.int .i64 0)]) 56 rfl Try.underlying22 info39 rfl (by decide) (by omega) (.slice (some ad9) x5_1.length co12) x5_1 (⟨(strOfNums y5),(rd_T39 x5_1 (ji21)).f0,(⟨wrap64 (Int.tdiv (rd x6_1 (ji21)) 2),wrap64 (Int.tdiv (rd x6_1 (ji21)) 2),wrap64 ((wrap64 (Int.tdiv (rd x6_1 (ji21)) 2)) - (wrap64 ((wrap64 (Int.tdiv (wrap64 (Int.tdiv (rd x6_1 (ji21)) 2)) 3))*(wrap64 (Int.tmod (rd l0 (ji27)) 2)))))⟩:S37)⟩:S39) [.string (strOfNums y5), .string ((rd_T39 x5_1 (ji21)).f0), .int .i64 (wrap64 (Int.tdiv (rd x6_1 (ji21)) 2)), .int .i64 (wrap64 (Int.tdiv (rd x6_1 (ji21)) 2)), .int .i64 (wrap64 ((wrap64 (Int.tdiv (rd x6_1 (ji21)) 2)) - (wrap64 ((wrap64 (Int.tdiv (wrap64 (Int.tdiv (rd x6_1 (ji21)) 2)) 3))*(wrap64 (Int.tmod (rd l0 (ji27)) 2))))))] (fun k_=>k_≠gb8) (fun _=>False) rfl (by first|(go_simp;done)|(go_simp;rfl)) ?aP (fun _ hk=>hk.elim) ?aF ?aO ?aB ?aS ?aL ?_;(case aP=>exact k39_mkM _ _ _ (⟨(strOfNums y5),(rd_T39 x5_1 (ji21)).f0,(⟨wrap64 (Int.tdiv (rd x6_1 (ji21)) 2),wrap64 (Int.tdiv (rd x6_1 (ji21)) 2),wrap64 ((wrap64 (Int.tdiv (rd x6_1 (ji21)) 2)) - (wrap64 ((wrap64 (Int.tdiv (wrap64 (Int.tdiv (rd x6_1 (ji21)) 2)) 3))*(wrap64 (Int.tmod (rd l0 (ji27)) 2)))))⟩:S37)⟩:S39));(case aB=>exact (zl1_ HB GE8));(case aF=>exact (fun k_ hk=>Kd.freshB (g:=gb8) (o:= .cells #[.string (strOfNums y5), .string ((rd_T39 x5_1 (ji21)).f0), .int .i64 (wrap64 (Int.tdiv (rd x6_1 (ji21)) 2)), .int .i64 (wrap64 (Int.tdiv (rd x6_1 (ji21)) 2)), .int .i64 (wrap64 ((wrap64 (Int.tdiv (rd x6_1 (ji21)) 2)) - (wrap64 ((wrap64 (Int.tdiv (wrap64 (Int.tdiv (rd x6_1 (ji21)) 2)) 3))*(wrap64 (Int.tmod (rd l0 (ji27)) 2))))))] 39 (0,0)) (zw_ BK8) k_ hk));(case aO=>exact (by refine zt_ ?_;exact Kd.R_mono (Kd.R_far (p:=⟨gb8,4,none⟩) (Kd.R_far (p:=⟨gb8,3,none⟩) (Kd.R_far (p:=⟨gb8,2,none⟩) (Kd.R_mono HO_5.out (fun k_ hk=>(⟨hk,hk⟩:_∧k_≠gb8))) (fun _ hk=>hk.2) (.int .i64 (wrap64 (Int.tdiv (rd x6_1 (ji21)) 2)))) (fun _ hk=>hk.2) (.int .i64 (wrap64 (Int.tdiv (rd x6_1 (ji21)) 2)))) (fun _ hk=>hk.2) (.int .i64 (wrap64 ((wrap64 (Int.tdiv (rd x6_1 (ji21)) 2)) - (wrap64 ((wrap64 (Int.tdiv (wrap64 (Int.tdiv (rd x6_1 (ji21)) 2)) 3))*(wrap64 (Int.tmod (rd l0 (ji27)) 2)))))))) (fun _ hk=>hk.1)));(case aS=>exact (below_size (zl1_ HB GE8)));(case aL=>have:=LMc41.out;omega);intro v23 w49 ho hb hg hat;rw [←Ny22.out] at ho;have n0_:=am_ (Kd.R_over' (by refine zt_ ?_;exact (Kd.R_mono (Kd.R_far (p:=⟨gb8,4,none⟩) (Kd.R_far (p:=⟨gb8,3,none⟩) (Kd.R_far (p:=⟨gb8,2,none⟩) (Kd.R_types HO_6.out BK8.out (by decide)) (fun _ hk=>hk.2) (.int .i64 (wrap64 (Int.tdiv (rd x6_1 (ji21)) 2)))) (fun _ hk=>hk.2) (.int .i64 (wrap64 (Int.tdiv (rd x6_1 (ji21)) 2)))) (fun _ hk=>hk.2) (.int .i64 (wrap64 ((wrap64 (Int.tdiv (rd x6_1 (ji21)) 2)) - (wrap64 ((wrap64 (Int.tdiv (wrap64 (Int.tdiv (rd x6_1 (ji21)) 2)) 3))*(wrap64 (Int.tmod (rd l0 (ji27)) 2)))))))) (fun _ h_=>h_.1))) (Kd.R_typed (by refine zt_ ?_;exact (Kd.R_mono (Kd.R_far (p:=⟨gb8,4,none⟩) (Kd.R_far (p:=⟨gb8,3,none⟩) (Kd.R_far (p:=⟨gb8,2,none⟩) (Kd.R_mono HO_5.out (fun k_ hk=>(⟨hk,hk⟩:_∧k_≠gb8))) (fun _ hk=>hk.2) (.int .i64 (wrap64 (Int.tdiv (rd x6_1 (ji21)) 2)))) (fun _ hk=>hk.2) (.int .i64 (wrap64 (Int.tdiv (rd x6_1 (ji21)) 2)))) (fun _ hk=>hk.2) (.int .i64 (wrap64 ((wrap64 (Int.tdiv (rd x6_1 (ji21)) 2)) - (wrap64 ((wrap64 (Int.tdiv (wrap64 (Int.tdiv (rd x6_1 (ji21)) 2)) 3))*(wrap64 (Int.tmod (rd l0 (ji27)) 2)))))))) (fun _ h_=>h_.1)))) (by decide) hg);have n1_:=am_ (blk_grown (g:=gb8) (o:= .cells #[.string (strOfNums y5), .string ((rd_T39 x5_1 (ji21)).f0), .int .i64 (wrap64 (Int.tdiv (rd x6_1 (ji21)) 2)), .int .i64 (wrap64 (Int.tdiv (rd x6_1 (ji21)) 2)), .int .i64 (wrap64 ((wrap64 (Int.tdiv (rd x6_1 (ji21)) 2)) - (wrap64 ((wrap64 (Int.tdiv (wrap64 (Int.tdiv (rd x6_1 (ji21)) 2)) 3))*(wrap64 (Int.tmod (rd l0 (ji27)) 2))))))] 39 (0,0)) (zw_ BK8) hg (Kd.R_away HO_5.out (fun _ hk=>hk)));have n2_:=am_ (hb);have n3_:=am_ (ho);clear HO_6;clear BK8;clear HB;clear HO_5;have HO_6:=n0_;have BK8:=n1_;have HB:=n2_;have HO24:=n3_;clear n0_ n1_ n2_ n3_;clear ho hb hg hat)|((with_reducible refine gate_builtin (b:= .append) (xs:=#[.tmp 106, .tmp 111]) rfl ?_);(try (refine gate_guard (by rfl) ?_;dsimp only));at_builtin;refine Kd.R_append (Kd.int .i64) (w0:=w) w.heap.size rfl (.tmp 106) (.tmp 111) 122 3 (.int .i64 0) 8 rfl Try.underlying122 info3 rfl (by decide) (by omega) (.slice (some ⟨go25,0,none⟩) x6_1.length co45) y12 (wrap64 ((wrap64 (Int.tdiv (rd x6_1 (ji21)) 2)) - (wrap64 (Int.tdiv (wrap64 (Int.tdiv (rd x6_1 (ji21)) 2)) 3)))) [.int .i64 (wrap64 ((wrap64 (Int.tdiv (rd x6_1 (ji21)) 2)) - (wrap64 (Int.tdiv (wrap64 (Int.tdiv (rd x6_1 (ji21)) 2)) 3))))] (fun _=>True) (fun _=>False) rfl rfl ?aP (fun _ hk=>hk.elim) ?aF ?aO ?aB ?aS ?aL ?_;(case aP=>exact rfl);(case aB=>exact (zl1_ HB GE8));(case aF=>exact (fun _ _=>trivial));(case aO=>exact (zr_ HO_6));(case aS=>exact (below_size (zl1_ HB GE8)));(case aL=>have:=LMc42.out;omega);intro v26 w50 ho hb hg hat;rw [←Ny25.out] at ho;have n0_:=am_ (blk_grown (zb_ BK8) hg (Kd.R_ne HO_6.out BK8.out (by decide)));have n1_:=am_ (Kd.R_over' (zr_ HO24) (Kd.R_typed (zr_ HO_6)) (by decide) hg);have n2_:=am_ (hb);have n3_:=am_ (ho);clear BK8;clear HO24;clear HB;clear HO_6;have BK8:=n0_;have HO24:=n1_;have HB:=n2_;have HO27:=n3_;clear n0_ n1_ n2_ n3_;clear ho hb hg hat));try go_wp2_with (first|((with_reducible refine gate_store (t:=9) (p:=58) rfl ?_);(try (rw [drewN_self wc];generalize hq_:World.drewN wc _=wc;have n0_:=am_ (Kd.R_at hq_ HO_5.out);have n1_:=am_ (Kd.R_at hq_ HO_6.out);have n2_:=am_ (blk_at hq_ BK8.out);have n3_:=am_ (below_at hq_ HB.out);clear hq_ HO_5 HO_6 BK8 HB;have HO_5:=n0_;have HO_6:=n1_;have BK8:=n2_;have HB:=n3_;clear n0_ n1_ n2_ n3_));refine store_event (t:=9) (p:=58) (v:= ?vo_w44) (w1:=(wc.setCell ⟨gb8,1,none⟩ (.string ((rd_T39 x5_1 (ji21)).f0)))) ?hg ?ho ?hn ?hr ?_;(case ho=>rfl);(case hg=>rfl);(case hn=>rfl);(case hr=>first|(go_simp;done)|(go_simp;rfl));intro w44 hw;have n0_:Aside0 (Kd.R k39 39 w44 w.heap.size (fun k_=>k_≠gb8) (.slice (some ad9) x5_1.length co12) x5_1):=⟨(by rw [hw];exact (by refine zt_ ?_;exact Kd.R_mono (Kd.R_far (p:=⟨gb8,1,none⟩) (Kd.R_mono HO_5.out (fun k_ hk=>(⟨hk,hk⟩:_∧k_≠gb8))) (fun _ hk=>hk.2) (.string ((rd_T39 x5_1 (ji21)).f0))) (fun _ hk=>hk.1)))⟩;have n1_:Aside0 (Kd.R (Kd.int .i64) 3 w44 w.heap.size (fun _=>True) u6 x6_1):=⟨(by rw [hw];exact (by refine zt_ ?_;exact Kd.R_mono (Kd.R_far (p:=⟨gb8,1,none⟩) (Kd.R_types HO_6.out BK8.out (by decide)) (fun _ hk=>hk.2) (.string ((rd_T39 x5_1 (ji21)).f0))) (fun _ hk=>trivial)))⟩;have n2_:Aside0 (w44.heap[gb8]?=some (.cells #[.string (strOfNums y5), .string ((rd_T39 x5_1 (ji21)).f0), .int .i64 4096, .int .i64 4096, .int .i64 4096] 39 (0,0))):=⟨(by rw [hw];exact (zw_ BK8))⟩;have n3_:Aside0 (Below w.heap.size w w44):=⟨(by rw [hw];exact (zl1_ HB GE8))⟩;clear hw;clear HO_5;clear HO_6;clear BK8;clear HB;have HO_5:=n0_;have HO_6:=n1_;have BK8:=n2_;have HB:=n3_;clear n0_ n1_ n2_ n3_;obtain ⟨Ao45,co45,eo45⟩:=Kd.R_slice HO_6.out;subst eo45;have p10:0≤((ji21):Int):=of_decide_eq_true zq_;have q10:(ji21)<(x6_1.length:Int):=of_decide_eq_true zq_;obtain ⟨ad10,e10,hx10_0⟩:=Kd.at_int (Kd.R_reads' HO_6.out).2.2 (ji21) p10 q10;cases e10;replace p10:=eq_true p10;replace q10:=eq_true q10;have p11:0≤((ji21):Int):=of_decide_eq_true zq_;have q11:(ji21)<(x6_1.length:Int):=of_decide_eq_true zq_;obtain ⟨ad11,e11,hx11_0⟩:=Kd.at_int (Kd.R_reads' HO_6.out).2.2 (ji21) p11 q11;obtain rfl:ad10=ad11:=(by injection e11);replace p11:=eq_true p11;replace q11:=eq_true q11;have p25:0≤((ji21):Int):=of_decide_eq_true zq_;have q25:((ji21):Int)<((x6_1.length:Int):Int):=of_decide_eq_true zq_;obtain ⟨go25,co25,eo25,gb25,gl25,cl25,HG25⟩:=Kd.R_form HO_6.out (by omega);(first|cases eo25|(injection eo25 with ea_ en_ ec_;(first|subst ea_|(injection ea_ with ea_;subst ea_));subst ec_;clear en_));have GB25:=Aside0.mk gb25;have GG25:=Aside0.mk HG25;clear gb25 gl25 HG25;replace hx10_0:=zv_ hx10_0;replace hx11_0:=zv_ hx11_0;obtain ⟨hx25_0,hf25_0⟩:=Kd.R_celln 0 HO_6.out ((ji21):Int) p25 q25;replace p25:=eq_true p25;replace q25:=eq_true q25;obtain ⟨hy46_,hz46_⟩:=Kd.R_celln 0 HO_6.out ((ji21):Int) (of_decide_eq_true zq_) (of_decide_eq_true zq_);have HP46:=Kd.R_putg HO_6.out ((ji21):Int) (wrap64 ((rd x6_1 (ji21)) - (wrap64 (Int.tdiv (rd x6_1 (ji21)) 2)))))|((with_reducible refine gate_store (t:=3) (p:=72) rfl ?_);(try (rw [drewN_self w44];generalize hq_:World.drewN w44 _=w44;have n0_:=am_ (Kd.R_at hq_ HO_5.out);have n1_:=am_ (Kd.R_at hq_ HO_6.out);have n2_:=am_ (blk_at hq_ BK8.out);have n3_:=am_ (below_at hq_ HB.out);clear hq_ HO_5 HO_6 BK8 HB;have HO_5:=n0_;have HO_6:=n1_;have BK8:=n2_;have HB:=n3_;clear n0_ n1_ n2_ n3_;(try (obtain ⟨hy46_,hz46_⟩:=Kd.R_celln 0 HO_6.out ((ji21):Int) (of_decide_eq_true zq_) (of_decide_eq_true zq_)));(try (have HP46:=Kd.R_putg HO_6.out ((ji21):Int) (wrap64 ((rd x6_1 (ji21)) - (wrap64 (Int.tdiv (rd x6_1 (ji21)) 2))))))));refine store_event (t:=3) (p:=72) (v:= ?vo_w47) (w1:=(w44.setCell ⟨go25,((ji21):Int).toNat,none⟩ (.int .i64 (wrap64 ((rd x6_1 (ji21)) - (wrap64 (Int.tdiv (rd x6_1 (ji21)) 2))))))) ?hg ?ho ?hn ?hr ?_;(case ho=>rfl);(case hg=>rfl);(case hn=>rfl);(case hr=>first|(go_simp;done)|(go_simp;rfl));intro w47 hw;have hg:w44.grownBy w47 (some go25):=(by rw [hw];exact HP46.2);have hp_:Kd.R (Kd.int .i64) 3 w47 w.heap.size (fun _=>True) (.slice (some ⟨go25,0,none⟩) x6_1.length co45) y12:=(by rw [hw,Ny12.out];exact HP46.1);clear HP46;replace HO_5:=am_ (Kd.R_over' (v:=(.slice (some ⟨go25,0,none⟩) x6_1.length co45)) (zr_ HO_5) (Kd.R_typed HO_6.out) (by decide) hg);replace BK8:=am_ (blk_grown (zb_ BK8) hg (Kd.R_ne HO_6.out BK8.out (by decide)));replace HO_6:=am_ (hp_);replace HB:=am_ ((by rw [hw];exact below_set (HB.out) GB25.out:Below w.heap.size w w47));clear hg hw hp_;have p13:0≤((ji27):Int):=of_decide_eq_true zq_;have q13:(ji27)<(l0.length:Int):=of_decide_eq_true zq_;obtain ⟨ad13,e13,hx13_0⟩:=Kd.at_int HR0.out (ji27) p13 q13;obtain rfl:ad4=ad13:=(by injection e13);replace hx13_0:=zx_ HB hx13_0;replace p13:=eq_true p13;replace q13:=eq_true q13;have p21:0≤((ji27):Int):=of_decide_eq_true zq_;have q21:(ji27)<(l0.length:Int):=of_decide_eq_true zq_;obtain ⟨ad21,e21,hx21_0⟩:=Kd.at_int HR0.out (ji27) p21 q21;obtain rfl:ad4=ad21:=(by injection e21);replace hx21_0:=zx_ HB hx21_0;replace p21:=eq_true p21;replace q21:=eq_true q21;obtain ⟨hcz48_0,hcz48_1,hcz48_2,hcz48_3,hcz48_4⟩:=x5_ BK8;have hfz48_0:=blk_frozen BK8.out 0;have hfz48_1:=blk_frozen BK8.out 1;have hfz48_2:=blk_frozen BK8.out 2;have hfz48_3:=blk_frozen BK8.out 3;have hfz48_4:=blk_frozen BK8.out 4)|((with_reducible refine gate_builtin (b:= .append) (xs:=#[.tmp 102, .tmp 104]) rfl ?_);(try (refine gate_guard (by rfl) ?_;dsimp only));at_builtin;refine Kd.R_append k39 (w0:=w) w.heap.size rfl (.tmp 102) (.tmp 104) 22 39 (.agg #[(.string ⟨#[]⟩),(.string ⟨#[]⟩),(.int .i64 0),(.int .i64 0),(.int .i64 0)]) 56 rfl Try.underlying22 info39 rfl (by decide) (by omega) (.slice (some ad9) x5_1.length co12) x5_1 (⟨(strOfNums y5),(rd_T39 x5_1 (ji21)).f0,(⟨wrap64 (Int.tdiv (rd x6_1 (ji21)) 2),wrap64 (Int.tdiv (rd x6_1 (ji21)) 2),wrap64 ((wrap64 (Int.tdiv (rd x6_1 (ji21)) 2)) - (wrap64 ((wrap64 (Int.tdiv (wrap64 (Int.tdiv (rd x6_1 (ji21)) 2)) 3))*(wrap64 (Int.tmod (rd l0 (ji27)) 2)))))⟩:S37)⟩:S39) [.string (strOfNums y5), .string ((rd_T39 x5_1 (ji21)).f0), .int .i64 (wrap64 (Int.tdiv (rd x6_1 (ji21)) 2)), .int .i64 (wrap64 (Int.tdiv (rd x6_1 (ji21)) 2)), .int .i64 (wrap64 ((wrap64 (Int.tdiv (rd x6_1 (ji21)) 2)) - (wrap64 ((wrap64 (Int.tdiv (wrap64 (Int.tdiv (rd x6_1 (ji21)) 2)) 3))*(wrap64 (Int.tmod (rd l0 (ji27)) 2))))))] (fun k_=>k_≠gb8) (fun _=>False) rfl (by first|(go_simp;done)|(go_simp;rfl)) ?aP (fun _ hk=>hk.elim) ?aF ?aO ?aB ?aS ?aL ?_;(case aP=>exact k39_mkM _ _ _ (⟨(strOfNums y5),(rd_T39 x5_1 (ji21)).f0,(⟨wrap64 (Int.tdiv (rd x6_1 (ji21)) 2),wrap64 (Int.tdiv (rd x6_1 (ji21)) 2),wrap64 ((wrap64 (Int.tdiv (rd x6_1 (ji21)) 2)) - (wrap64 ((wrap64 (Int.tdiv (wrap64 (Int.tdiv (rd x6_1 (ji21)) 2)) 3))*(wrap64 (Int.tmod (rd l0 (ji27)) 2)))))⟩:S37)⟩:S39));(case aB=>exact (zl1_ HB GE8));(case aF=>exact (fun k_ hk=>Kd.freshB (g:=gb8) (o:= .cells #[.string (strOfNums y5), .string ((rd_T39 x5_1 (ji21)).f0), .int .i64 (wrap64 (Int.tdiv (rd x6_1 (ji21)) 2)), .int .i64 (wrap64 (Int.tdiv (rd x6_1 (ji21)) 2)), .int .i64 (wrap64 ((wrap64 (Int.tdiv (rd x6_1 (ji21)) 2)) - (wrap64 ((wrap64 (Int.tdiv (wrap64 (Int.tdiv (rd x6_1 (ji21)) 2)) 3))*(wrap64 (Int.tmod (rd l0 (ji27)) 2))))))] 39 (0,0)) (zw_ BK8) k_ hk));(case aO=>exact (by refine zt_ ?_;exact Kd.R_mono (Kd.R_far (p:=⟨gb8,4,none⟩) (Kd.R_far (p:=⟨gb8,3,none⟩) (Kd.R_far (p:=⟨gb8,2,none⟩) (Kd.R_mono HO_5.out (fun k_ hk=>(⟨hk,hk⟩:_∧k_≠gb8))) (fun _ hk=>hk.2) (.int .i64 (wrap64 (Int.tdiv (rd x6_1 (ji21)) 2)))) (fun _ hk=>hk.2) (.int .i64 (wrap64 (Int.tdiv (rd x6_1 (ji21)) 2)))) (fun _ hk=>hk.2) (.int .i64 (wrap64 ((wrap64 (Int.tdiv (rd x6_1 (ji21)) 2)) - (wrap64 ((wrap64 (Int.tdiv (wrap64 (Int.tdiv (rd x6_1 (ji21)) 2)) 3))*(wrap64 (Int.tmod (rd l0 (ji27)) 2)))))))) (fun _ hk=>hk.1)));(case aS=>exact (below_size (zl1_ HB GE8)));(case aL=>have:=LMc41.out;omega);intro v23 w49 ho hb hg hat;rw [←Ny22.out] at ho;have n0_:=am_ (Kd.R_over' (by refine zt_ ?_;exact (Kd.R_mono (Kd.R_far (p:=⟨gb8,4,none⟩) (Kd.R_far (p:=⟨gb8,3,none⟩) (Kd.R_far (p:=⟨gb8,2,none⟩) (Kd.R_types HO_6.out BK8.out (by decide)) (fun _ hk=>hk.2) (.int .i64 (wrap64 (Int.tdiv (rd x6_1 (ji21)) 2)))) (fun _ hk=>hk.2) (.int .i64 (wrap64 (Int.tdiv (rd x6_1 (ji21)) 2)))) (fun _ hk=>hk.2) (.int .i64 (wrap64 ((wrap64 (Int.tdiv (rd x6_1 (ji21)) 2)) - (wrap64 ((wrap64 (Int.tdiv (wrap64 (Int.tdiv (rd x6_1 (ji21)) 2)) 3))*(wrap64 (Int.tmod (rd l0 (ji27)) 2)))))))) (fun _ h_=>h_.1))) (Kd.R_typed (by refine zt_ ?_;exact (Kd.R_mono (Kd.R_far (p:=⟨gb8,4,none⟩) (Kd.R_far (p:=⟨gb8,3,none⟩) (Kd.R_far (p:=⟨gb8,2,none⟩) (Kd.R_mono HO_5.out (fun k_ hk=>(⟨hk,hk⟩:_∧k_≠gb8))) (fun _ hk=>hk.2) (.int .i64 (wrap64 (Int.tdiv (rd x6_1 (ji21)) 2)))) (fun _ hk=>hk.2) (.int .i64 (wrap64 (Int.tdiv (rd x6_1 (ji21)) 2)))) (fun _ hk=>hk.2) (.int .i64 (wrap64 ((wrap64 (Int.tdiv (rd x6_1 (ji21)) 2)) - (wrap64 ((wrap64 (Int.tdiv (wrap64 (Int.tdiv (rd x6_1 (ji21)) 2)) 3))*(wrap64 (Int.tmod (rd l0 (ji27)) 2)))))))) (fun _ h_=>h_.1)))) (by decide) hg);have n1_:=am_ (blk_grown (g:=gb8) (o:= .cells #[.string (strOfNums y5), .string ((rd_T39 x5_1 (ji21)).f0), .int .i64 (wrap64 (Int.tdiv (rd x6_1 (ji21)) 2)), .int .i64 (wrap64 (Int.tdiv (rd x6_1 (ji21)) 2)), .int .i64 (wrap64 ((wrap64 (Int.tdiv (rd x6_1 (ji21)) 2)) - (wrap64 ((wrap64 (Int.tdiv (wrap64 (Int.tdiv (rd x6_1 (ji21)) 2)) 3))*(wrap64 (Int.tmod (rd l0 (ji27)) 2))))))] 39 (0,0)) (zw_ BK8) hg (Kd.R_away HO_5.out (fun _ hk=>hk)));have n2_:=am_ (hb);have n3_:=am_ (ho);clear HO_6;clear BK8;clear HB;clear HO_5;have HO_6:=n0_;have BK8:=n1_;have HB:=n2_;have HO24:=n3_;clear n0_ n1_ n2_ n3_;clear ho hb hg hat)|((with_reducible refine gate_builtin (b:= .append) (xs:=#[.tmp 106, .tmp 111]) rfl ?_);(try (refine gate_guard (by rfl) ?_;dsimp only));at_builtin;refine Kd.R_append (Kd.int .i64) (w0:=w) w.heap.size rfl (.tmp 106) (.tmp 111) 122 3 (.int .i64 0) 8 rfl Try.underlying122 info3 rfl (by decide) (by omega) (.slice (some ⟨go25,0,none⟩) x6_1.length co45) y12 (wrap64 ((wrap64 (Int.tdiv (rd x6_1 (ji21)) 2)) - (wrap64 (Int.tdiv (wrap64 (Int.tdiv (rd x6_1 (ji21)) 2)) 3)))) [.int .i64 (wrap64 ((wrap64 (Int.tdiv (rd x6_1 (ji21)) 2)) - (wrap64 (Int.tdiv (wrap64 (Int.tdiv (rd x6_1 (ji21)) 2)) 3))))] (fun _=>True) (fun _=>False) rfl rfl ?aP (fun _ hk=>hk.elim) ?aF ?aO ?aB ?aS ?aL ?_;(case aP=>exact rfl);(case aB=>exact (zl1_ HB GE8));(case aF=>exact (fun _ _=>trivial));(case aO=>exact (zr_ HO_6));(case aS=>exact (below_size (zl1_ HB GE8)));(case aL=>have:=LMc42.out;omega);intro v26 w50 ho hb hg hat;rw [←Ny25.out] at ho;have n0_:=am_ (blk_grown (zb_ BK8) hg (Kd.R_ne HO_6.out BK8.out (by decide)));have n1_:=am_ (Kd.R_over' (zr_ HO24) (Kd.R_typed (zr_ HO_6)) (by decide) hg);have n2_:=am_ (hb);have n3_:=am_ (ho);clear BK8;clear HO24;clear HB;clear HO_6;have BK8:=n0_;have HO24:=n1_;have HB:=n2_;have HO27:=n3_;clear n0_ n1_ n2_ n3_;clear ho hb hg hat)))
       go_roundg kj10
       case measure=>have:=HK1.out;have:=HJ4.out;have:=HJ10.out;omega
       case rel=>exact ⟨(y22),(y25),(wrap64 (x7_1+2)),(by first|rfl|(simp;done)|(simp [*];done)),H',⟨by have:=HK1.out;have:=HJ4.out;have:=HJ10.out;omega⟩,⟨by (with_reducible repeat (first|apply Kd.R_alloc|apply Kd.R_drewN|apply Kd.R_drew));exact Kd.R_mono HO24.out (fun _ hk=>trivial)⟩,⟨by (with_reducible repeat (first|apply Kd.R_alloc|apply Kd.R_drewN|apply Kd.R_drew));exact HO27.out⟩,⟨zl1_ HB GE8⟩⟩
def law18_Loose.l0:Nat→List (S79)→List (S84)→Int→Option ((List (S84)))
 |0,_,_,_=>none
 |k+1,x0,x3,x4=>if x4<(x0.length:Int) then (if 0≤x4 then (if x3.length<2199023255552 then (law18_Loose.l0 k x0 (x3++ [(⟨(rd_T79 x0 x4).f0,(rd_T79 x0 x4).f1,(⟨(rd_T79 x0 x4).f2.f0,(rd_T79 x0 x4).f2.f1,(rd_T79 x0 x4).f2.f2⟩:S37),(rd_T79 x0 x4).f5⟩:S84)]) (wrap64 (x4+1))) else (none)) else (none)) else (some x3)
def law18_Loose.f (k:Nat) (l0:List (S79)):Option ((List (S84))):=law18_Loose.l0 k l0 ([]:List (S84)) 0
theorem law18_Loose.mono_l: ∀k,(∀y0 y1 y2,LeO (law18_Loose.l0 k y0 y1 y2) (law18_Loose.l0 (k+1) y0 y1 y2))
 |0=>fun _ _ _ r h=>by simp [law18_Loose.l0] at h
 |k+1=>by
  have ih0:=law18_Loose.mono_l k
  intro y0 y1 y2
  unfold law18_Loose.l0
  repeat' first
  |(with_reducible exact ih0 _ _ _)
  |(with_reducible exact LeO.refl _)
  |(with_reducible exact LeO.none _)
  |(with_reducible refine LeO.ite ?_ ?_)
  |(with_reducible refine LeO.bind ?_ (fun _=> ?_))
  |exact ih0 _ _ _
  |exact LeO.none _
  |refine LeO.ite ?_ ?_
  |refine LeO.bind ?_ (fun _=> ?_)
theorem law18_Loose.mono: ∀a0 k,LeO (law18_Loose.f k a0) (law18_Loose.f (k+1) a0):=by
 intro a0 k
 have ih0:=law18_Loose.mono_l k
 unfold law18_Loose.f
 repeat' first
  |(with_reducible exact ih0 _ _ _)
  |(with_reducible exact LeO.refl _)
  |(with_reducible exact LeO.none _)
  |(with_reducible refine LeO.ite ?_ ?_)
  |(with_reducible refine LeO.bind ?_ (fun _=> ?_))
  |exact ih0 _ _ _
  |exact LeO.none _
  |refine LeO.ite ?_ ?_
  |refine LeO.bind ?_ (fun _=> ?_)
def law18_Loose.T5:Bool×List (List Nat×List Nat):=(true,[([],[]),([],[]),([],[]),([1,2],[1,2]),([3],[3]),([4],[4]),([],[]),([],[]),([6,7],[6,7]),([8],[8]),([9],[9]),([],[]),([],[]),([11,12],[11,12]),([13],[13]),([14],[14]),([],[]),([],[]),([16,17],[16,17]),([18],[18]),([19],[19]),([5,10,15,20],[5,10,15,20]),([21],[21]),([0,22],[0,22]),([23,23,0,1,2,3,4,5,6,7,8,9,10,11,12,13,14,15,16,17,18,19,20,21,22,23],[0,23])])
def law18_Loose.B5:List Nat:=[0,0,0,6,14,30,0,0,192,448,960,0,0,6144,14336,30720,0,0,196608,458752,983040,2097150,4194302,8388607,16777215]
theorem law18_Loose.tab5:rtab .any (opsOf Try.f40 5)=law18_Loose.T5:=by kernel_rfl
theorem law18_Loose.bits5:waitsOk law18_Loose.T5.2 law18_Loose.B5=true:=by kernel_rfl
set_option maxHeartbeats 8000000 in
set_option maxRecDepth 100000 in
theorem law18_Loose.calls (k:Nat) (A0:Option Addr) (c0:Nat) (l0:List (S79)) (r:List (S84)) (w:World) (hr0:Kd.C k79 w A0 l0.length l0) (hc0:l0.length≤c0) (h:law18_Loose.f k l0=some r):
  Calls Try.prog 40 #[.slice A0 l0.length c0] w fun e w'=> ∃v0_:Value,e= .returned (v0_)∧Kd.R k84 84 w' w.heap.size (fun _=>True) v0_ r∧Below w.heap.size w w':=by
 have hu37:=Try.underlying37
 have hu84:=Try.underlying84
 have HR0:=Aside0.mk hr0
 have HC0:=Aside0.mk hc0
 clear hr0 hc0
 have HB:=am_ (Below.refl w.heap.size w)
 have H:(law18_Loose.l0 k l0 ([]:List (S84)) 0)=some r:=h
 clear h
 have H':=Aside0.mk H
 clear H
 go_enter Try.func40,Try.ntmps40
 go_wp2
 go_loopg [3,4] k (fun kq v3 v4 w'=> ∃(x3_1:List (S84)) (x4_1:Int),v4= .int .i64 x4_1∧Aside0 (law18_Loose.l0 kq l0 x3_1 x4_1=some r)∧Aside0 (kq≤k)∧Aside0 (Kd.R k84 84 w' w.heap.size (fun _=>True) v3 x3_1)∧Aside0 (Below w.heap.size w w'))
 case atStart=>exact ⟨(([]:List (S84))),(0),(by first|rfl|(simp;done)|(simp [*];done)),H',⟨Nat.le_refl _⟩,⟨by first|exact Kd.R_nil _ _ _ _ _|exact Kd.N_nil _ _ _ _ _|exact Kd.V_nil _ _ _ _ _|exact Kd.Q_nil _ _ _ _ _|exact Kd.S_nil _ _ _ _ _⟩,⟨zl0_ HB⟩⟩
 case round=>
  clear H'
  obtain ⟨x3_1,x4_1,rfl,HA,HK1,HO_3,HB⟩:=hrel
  cases gk with
  |zero=>exact absurd HA.out (by simp [law18_Loose.l0])
  |succ k1=>
   have H:=HA.out
   clear HA
   simp only [law18_Loose.l0] at H
   by_cases c2:x4_1<(l0.length:Int)
   rotate_left
   ·rw [if_neg c2] at H
    have c2b0:decide (x4_1<(l0.length:Int))=false:=decide_eq_false c2
    clear c2
    obtain rfl:=Option.some.inj H
    go_wp2
    go_ret
    exact ⟨_,by first|rfl|(simp [errW_none,errW_some]<;>rfl)|(simp [*,errW_none,errW_some]<;>rfl),by (with_reducible repeat (first|apply Kd.R_alloc|apply Kd.R_drewN|apply Kd.R_drew));exact HO_3.out,zl0_ HB⟩

   rw [if_pos c2] at H
   have c2b0:decide (x4_1<(l0.length:Int))=true:=decide_eq_true c2
   clear c2
   by_cases c3:0≤x4_1
   rotate_left
   ·rw [if_neg c3] at H
    exact absurd H (by simp)
   rw [if_pos c3] at H
   have c3b0:decide (0≤x4_1)=true:=decide_eq_true c3
   clear c3
   by_cases c4:x3_1.length<2199023255552
   rotate_left
   ·rw [if_neg c4] at H
    exact absurd H (by simp)
   rw [if_pos c4] at H
   have LMc4:=Aside0.mk c4
   clear c4
   obtain ⟨y5,hy5⟩: ∃y_:List (S84),y_=(x3_1++ [(⟨(rd_T79 l0 x4_1).f0,(rd_T79 l0 x4_1).f1,(⟨(rd_T79 l0 x4_1).f2.f0,(rd_T79 l0 x4_1).f2.f1,(rd_T79 l0 x4_1).f2.f2⟩:S37),(rd_T79 l0 x4_1).f5⟩:S84)]):=⟨_,rfl⟩
   replace H:(law18_Loose.l0 k1 l0 y5 (wrap64 (x4_1+1)))=some r:=by first|(rw [hy5];with_reducible exact H)|(have H2_:=(Option.bind_some _ _).symm.trans H;rw [hy5];with_reducible exact H2_)|(have H2_:=(Option.bind_some _ _).symm.trans H;with_reducible exact H2_)|with_reducible exact H|(rw [hy5];exact H)|exact H
   have Ny5:=Aside0.mk hy5
   clear hy5
   have H':=Aside0.mk H
   clear H
   try go_wp2
   replace HO_3:=am_ (Kd.R_drew HO_3.out)
   replace HB:=am_ (below_drew1 HB.out)
   have p1:0≤(x4_1:Int):=of_decide_eq_true zq_
   have q1:x4_1<(l0.length:Int):=of_decide_eq_true zq_
   obtain ⟨ad1,e1,hx1_0,hx1_1,hx1_2,hx1_3,hx1_4,hx1_5,hx1_6,hx1_7,hx1_8,hx1_9,hx1_10,hx1_11⟩:=at_T79 HR0.out x4_1 p1 q1
   have hw1_11:=hx1_11
   have hw1_10:=hx1_10
   have hw1_9:=hx1_9
   have hw1_8:=hx1_8
   have hw1_7:=hx1_7
   have hw1_6:=hx1_6
   have hw1_5:=hx1_5
   have hw1_4:=hx1_4
   have hw1_3:=hx1_3
   have hw1_2:=hx1_2
   have hw1_1:=hx1_1
   have hw1_0:=hx1_0
   cases e1
   replace hx1_0:=zx_ HB hx1_0
   replace hx1_1:=zx_ HB hx1_1
   replace hx1_2:=zx_ HB hx1_2
   replace hx1_3:=zx_ HB hx1_3
   replace hx1_4:=zx_ HB hx1_4
   replace hx1_5:=zx_ HB hx1_5
   replace hx1_6:=zx_ HB hx1_6
   replace hx1_7:=zx_ HB hx1_7
   replace hx1_8:=zx_ HB hx1_8
   replace hx1_9:=zx_ HB hx1_9
   replace hx1_10:=zx_ HB hx1_10
   replace hx1_11:=zx_ HB hx1_11
   replace p1:=eq_true p1
   replace q1:=eq_true q1
   have p2:0≤(x4_1:Int):=of_decide_eq_true zq_
   have q2:x4_1<(l0.length:Int):=of_decide_eq_true zq_
   obtain ⟨ad2,e2,hx2_0,hx2_1,hx2_2,hx2_3,hx2_4,hx2_5,hx2_6,hx2_7,hx2_8,hx2_9,hx2_10,hx2_11⟩:=at_T79 HR0.out x4_1 p2 q2
   have hw2_11:=hx2_11
   have hw2_10:=hx2_10
   have hw2_9:=hx2_9
   have hw2_8:=hx2_8
   have hw2_7:=hx2_7
   have hw2_6:=hx2_6
   have hw2_5:=hx2_5
   have hw2_4:=hx2_4
   have hw2_3:=hx2_3
   have hw2_2:=hx2_2
   have hw2_1:=hx2_1
   have hw2_0:=hx2_0
   obtain rfl:ad1=ad2:=(by injection e2)
   replace hx2_0:=zx_ HB hx2_0
   replace hx2_1:=zx_ HB hx2_1
   replace hx2_2:=zx_ HB hx2_2
   replace hx2_3:=zx_ HB hx2_3
   replace hx2_4:=zx_ HB hx2_4
   replace hx2_5:=zx_ HB hx2_5
   replace hx2_6:=zx_ HB hx2_6
   replace hx2_7:=zx_ HB hx2_7
   replace hx2_8:=zx_ HB hx2_8
   replace hx2_9:=zx_ HB hx2_9
   replace hx2_10:=zx_ HB hx2_10
   replace hx2_11:=zx_ HB hx2_11
   replace p2:=eq_true p2
   replace q2:=eq_true q2
   have p3:0≤(x4_1:Int):=of_decide_eq_true zq_
   have q3:x4_1<(l0.length:Int):=of_decide_eq_true zq_
   obtain ⟨ad3,e3,hx3_0,hx3_1,hx3_2,hx3_3,hx3_4,hx3_5,hx3_6,hx3_7,hx3_8,hx3_9,hx3_10,hx3_11⟩:=at_T79 HR0.out x4_1 p3 q3
   have hw3_11:=hx3_11
   have hw3_10:=hx3_10
   have hw3_9:=hx3_9
   have hw3_8:=hx3_8
   have hw3_7:=hx3_7
   have hw3_6:=hx3_6
   have hw3_5:=hx3_5
   have hw3_4:=hx3_4
   have hw3_3:=hx3_3
   have hw3_2:=hx3_2
   have hw3_1:=hx3_1
   have hw3_0:=hx3_0
   obtain rfl:ad1=ad3:=(by injection e3)
   replace hx3_0:=zx_ HB hx3_0
   replace hx3_1:=zx_ HB hx3_1
   replace hx3_2:=zx_ HB hx3_2
   replace hx3_3:=zx_ HB hx3_3
   replace hx3_4:=zx_ HB hx3_4
   replace hx3_5:=zx_ HB hx3_5
   replace hx3_6:=zx_ HB hx3_6
   replace hx3_7:=zx_ HB hx3_7
   replace hx3_8:=zx_ HB hx3_8
   replace hx3_9:=zx_ HB hx3_9
   replace hx3_10:=zx_ HB hx3_10
   replace hx3_11:=zx_ HB hx3_11
   replace p3:=eq_true p3
   replace q3:=eq_true q3
   have p4:0≤(x4_1:Int):=of_decide_eq_true zq_
   have q4:x4_1<(l0.length:Int):=of_decide_eq_true zq_
   obtain ⟨ad4,e4,hx4_0,hx4_1,hx4_2,hx4_3,hx4_4,hx4_5,hx4_6,hx4_7,hx4_8,hx4_9,hx4_10,hx4_11⟩:=at_T79 HR0.out x4_1 p4 q4
   have hw4_11:=hx4_11
   have hw4_10:=hx4_10
   have hw4_9:=hx4_9
   have hw4_8:=hx4_8
   have hw4_7:=hx4_7
   have hw4_6:=hx4_6
   have hw4_5:=hx4_5
   have hw4_4:=hx4_4
   have hw4_3:=hx4_3
   have hw4_2:=hx4_2
   have hw4_1:=hx4_1
   have hw4_0:=hx4_0
   obtain rfl:ad1=ad4:=(by injection e4)
   replace hx4_0:=zx_ HB hx4_0
   replace hx4_1:=zx_ HB hx4_1
   replace hx4_2:=zx_ HB hx4_2
   replace hx4_3:=zx_ HB hx4_3
   replace hx4_4:=zx_ HB hx4_4
   replace hx4_5:=zx_ HB hx4_5
   replace hx4_6:=zx_ HB hx4_6
   replace hx4_7:=zx_ HB hx4_7
   replace hx4_8:=zx_ HB hx4_8
   replace hx4_9:=zx_ HB hx4_9
   replace hx4_10:=zx_ HB hx4_10
   replace hx4_11:=zx_ HB hx4_11
   replace p4:=eq_true p4
   replace q4:=eq_true q4
   refine start_ (n:=25) (S:=fun w'=>w'.cell? (ad1.add ((x4_1).toNat*12))=some (.string ((rd_T79 l0 x4_1).f0))∧w'.cell? ⟨(ad1.add ((x4_1).toNat*12)).block,(ad1.add ((x4_1).toNat*12)).off+1,none⟩=some (.string ((rd_T79 l0 x4_1).f1))∧w'.cell? ⟨(ad1.add ((x4_1).toNat*12)).block,(ad1.add ((x4_1).toNat*12)).off+2,none⟩=some (.int .i64 ((rd_T79 l0 x4_1).f2.f0))∧w'.cell? ⟨(ad1.add ((x4_1).toNat*12)).block,(ad1.add ((x4_1).toNat*12)).off+3,none⟩=some (.int .i64 ((rd_T79 l0 x4_1).f2.f1))∧w'.cell? ⟨(ad1.add ((x4_1).toNat*12)).block,(ad1.add ((x4_1).toNat*12)).off+4,none⟩=some (.int .i64 ((rd_T79 l0 x4_1).f2.f2))∧w'.cell? ⟨(ad1.add ((x4_1).toNat*12)).block,(ad1.add ((x4_1).toNat*12)).off+5,none⟩=some (.int .i64 ((rd_T79 l0 x4_1).f3.f0))∧w'.cell? ⟨(ad1.add ((x4_1).toNat*12)).block,(ad1.add ((x4_1).toNat*12)).off+6,none⟩=some (.int .i64 ((rd_T79 l0 x4_1).f3.f1))∧w'.cell? ⟨(ad1.add ((x4_1).toNat*12)).block,(ad1.add ((x4_1).toNat*12)).off+7,none⟩=some (.int .i64 ((rd_T79 l0 x4_1).f3.f2))∧w'.cell? ⟨(ad1.add ((x4_1).toNat*12)).block,(ad1.add ((x4_1).toNat*12)).off+8,none⟩=some (.int .i64 ((rd_T79 l0 x4_1).f4.f0))∧w'.cell? ⟨(ad1.add ((x4_1).toNat*12)).block,(ad1.add ((x4_1).toNat*12)).off+9,none⟩=some (.int .i64 ((rd_T79 l0 x4_1).f4.f1))∧w'.cell? ⟨(ad1.add ((x4_1).toNat*12)).block,(ad1.add ((x4_1).toNat*12)).off+10,none⟩=some (.int .i64 ((rd_T79 l0 x4_1).f4.f2))∧w'.cell? ⟨(ad1.add ((x4_1).toNat*12)).block,(ad1.add ((x4_1).toNat*12)).off+11,none⟩=some (.int .i64 ((rd_T79 l0 x4_1).f5))∧w'.cell? (ad1.add ((x4_1).toNat*12))=some (.string ((rd_T79 l0 x4_1).f0))∧w'.cell? ⟨(ad1.add ((x4_1).toNat*12)).block,(ad1.add ((x4_1).toNat*12)).off+1,none⟩=some (.string ((rd_T79 l0 x4_1).f1))∧w'.cell? ⟨(ad1.add ((x4_1).toNat*12)).block,(ad1.add ((x4_1).toNat*12)).off+2,none⟩=some (.int .i64 ((rd_T79 l0 x4_1).f2.f0))∧w'.cell? ⟨(ad1.add ((x4_1).toNat*12)).block,(ad1.add ((x4_1).toNat*12)).off+3,none⟩=some (.int .i64 ((rd_T79 l0 x4_1).f2.f1))∧w'.cell? ⟨(ad1.add ((x4_1).toNat*12)).block,(ad1.add ((x4_1).toNat*12)).off+4,none⟩=some (.int .i64 ((rd_T79 l0 x4_1).f2.f2))∧w'.cell? ⟨(ad1.add ((x4_1).toNat*12)).block,(ad1.add ((x4_1).toNat*12)).off+5,none⟩=some (.int .i64 ((rd_T79 l0 x4_1).f3.f0))∧w'.cell? ⟨(ad1.add ((x4_1).toNat*12)).block,(ad1.add ((x4_1).toNat*12)).off+6,none⟩=some (.int .i64 ((rd_T79 l0 x4_1).f3.f1))∧w'.cell? ⟨(ad1.add ((x4_1).toNat*12)).block,(ad1.add ((x4_1).toNat*12)).off+7,none⟩=some (.int .i64 ((rd_T79 l0 x4_1).f3.f2))∧w'.cell? ⟨(ad1.add ((x4_1).toNat*12)).block,(ad1.add ((x4_1).toNat*12)).off+8,none⟩=some (.int .i64 ((rd_T79 l0 x4_1).f4.f0))∧w'.cell? ⟨(ad1.add ((x4_1).toNat*12)).block,(ad1.add ((x4_1).toNat*12)).off+9,none⟩=some (.int .i64 ((rd_T79 l0 x4_1).f4.f1))∧w'.cell? ⟨(ad1.add ((x4_1).toNat*12)).block,(ad1.add ((x4_1).toNat*12)).off+10,none⟩=some (.int .i64 ((rd_T79 l0 x4_1).f4.f2))∧w'.cell? ⟨(ad1.add ((x4_1).toNat*12)).block,(ad1.add ((x4_1).toNat*12)).off+11,none⟩=some (.int .i64 ((rd_T79 l0 x4_1).f5))∧w'.cell? (ad1.add ((x4_1).toNat*12))=some (.string ((rd_T79 l0 x4_1).f0))∧w'.cell? ⟨(ad1.add ((x4_1).toNat*12)).block,(ad1.add ((x4_1).toNat*12)).off+1,none⟩=some (.string ((rd_T79 l0 x4_1).f1))∧w'.cell? ⟨(ad1.add ((x4_1).toNat*12)).block,(ad1.add ((x4_1).toNat*12)).off+2,none⟩=some (.int .i64 ((rd_T79 l0 x4_1).f2.f0))∧w'.cell? ⟨(ad1.add ((x4_1).toNat*12)).block,(ad1.add ((x4_1).toNat*12)).off+3,none⟩=some (.int .i64 ((rd_T79 l0 x4_1).f2.f1))∧w'.cell? ⟨(ad1.add ((x4_1).toNat*12)).block,(ad1.add ((x4_1).toNat*12)).off+4,none⟩=some (.int .i64 ((rd_T79 l0 x4_1).f2.f2))∧w'.cell? ⟨(ad1.add ((x4_1).toNat*12)).block,(ad1.add ((x4_1).toNat*12)).off+5,none⟩=some (.int .i64 ((rd_T79 l0 x4_1).f3.f0))∧w'.cell? ⟨(ad1.add ((x4_1).toNat*12)).block,(ad1.add ((x4_1).toNat*12)).off+6,none⟩=some (.int .i64 ((rd_T79 l0 x4_1).f3.f1))∧w'.cell? ⟨(ad1.add ((x4_1).toNat*12)).block,(ad1.add ((x4_1).toNat*12)).off+7,none⟩=some (.int .i64 ((rd_T79 l0 x4_1).f3.f2))∧w'.cell? ⟨(ad1.add ((x4_1).toNat*12)).block,(ad1.add ((x4_1).toNat*12)).off+8,none⟩=some (.int .i64 ((rd_T79 l0 x4_1).f4.f0))∧w'.cell? ⟨(ad1.add ((x4_1).toNat*12)).block,(ad1.add ((x4_1).toNat*12)).off+9,none⟩=some (.int .i64 ((rd_T79 l0 x4_1).f4.f1))∧w'.cell? ⟨(ad1.add ((x4_1).toNat*12)).block,(ad1.add ((x4_1).toNat*12)).off+10,none⟩=some (.int .i64 ((rd_T79 l0 x4_1).f4.f2))∧w'.cell? ⟨(ad1.add ((x4_1).toNat*12)).block,(ad1.add ((x4_1).toNat*12)).off+11,none⟩=some (.int .i64 ((rd_T79 l0 x4_1).f5))∧w'.cell? (ad1.add ((x4_1).toNat*12))=some (.string ((rd_T79 l0 x4_1).f0))∧w'.cell? ⟨(ad1.add ((x4_1).toNat*12)).block,(ad1.add ((x4_1).toNat*12)).off+1,none⟩=some (.string ((rd_T79 l0 x4_1).f1))∧w'.cell? ⟨(ad1.add ((x4_1).toNat*12)).block,(ad1.add ((x4_1).toNat*12)).off+2,none⟩=some (.int .i64 ((rd_T79 l0 x4_1).f2.f0))∧w'.cell? ⟨(ad1.add ((x4_1).toNat*12)).block,(ad1.add ((x4_1).toNat*12)).off+3,none⟩=some (.int .i64 ((rd_T79 l0 x4_1).f2.f1))∧w'.cell? ⟨(ad1.add ((x4_1).toNat*12)).block,(ad1.add ((x4_1).toNat*12)).off+4,none⟩=some (.int .i64 ((rd_T79 l0 x4_1).f2.f2))∧w'.cell? ⟨(ad1.add ((x4_1).toNat*12)).block,(ad1.add ((x4_1).toNat*12)).off+5,none⟩=some (.int .i64 ((rd_T79 l0 x4_1).f3.f0))∧w'.cell? ⟨(ad1.add ((x4_1).toNat*12)).block,(ad1.add ((x4_1).toNat*12)).off+6,none⟩=some (.int .i64 ((rd_T79 l0 x4_1).f3.f1))∧w'.cell? ⟨(ad1.add ((x4_1).toNat*12)).block,(ad1.add ((x4_1).toNat*12)).off+7,none⟩=some (.int .i64 ((rd_T79 l0 x4_1).f3.f2))∧w'.cell? ⟨(ad1.add ((x4_1).toNat*12)).block,(ad1.add ((x4_1).toNat*12)).off+8,none⟩=some (.int .i64 ((rd_T79 l0 x4_1).f4.f0))∧w'.cell? ⟨(ad1.add ((x4_1).toNat*12)).block,(ad1.add ((x4_1).toNat*12)).off+9,none⟩=some (.int .i64 ((rd_T79 l0 x4_1).f4.f1))∧w'.cell? ⟨(ad1.add ((x4_1).toNat*12)).block,(ad1.add ((x4_1).toNat*12)).off+10,none⟩=some (.int .i64 ((rd_T79 l0 x4_1).f4.f2))∧w'.cell? ⟨(ad1.add ((x4_1).toNat*12)).block,(ad1.add ((x4_1).toNat*12)).off+11,none⟩=some (.int .i64 ((rd_T79 l0 x4_1).f5))) (ds:=[]) (bt_ 25 0) (by kernel_rfl) rfl rfl ⟨(zx_ HB hw1_0:),(zx_ HB hw1_1:),(zx_ HB hw1_2:),(zx_ HB hw1_3:),(zx_ HB hw1_4:),(zx_ HB hw1_5:),(zx_ HB hw1_6:),(zx_ HB hw1_7:),(zx_ HB hw1_8:),(zx_ HB hw1_9:),(zx_ HB hw1_10:),(zx_ HB hw1_11:),(zx_ HB hw2_0:),(zx_ HB hw2_1:),(zx_ HB hw2_2:),(zx_ HB hw2_3:),(zx_ HB hw2_4:),(zx_ HB hw2_5:),(zx_ HB hw2_6:),(zx_ HB hw2_7:),(zx_ HB hw2_8:),(zx_ HB hw2_9:),(zx_ HB hw2_10:),(zx_ HB hw2_11:),(zx_ HB hw3_0:),(zx_ HB hw3_1:),(zx_ HB hw3_2:),(zx_ HB hw3_3:),(zx_ HB hw3_4:),(zx_ HB hw3_5:),(zx_ HB hw3_6:),(zx_ HB hw3_7:),(zx_ HB hw3_8:),(zx_ HB hw3_9:),(zx_ HB hw3_10:),(zx_ HB hw3_11:),(zx_ HB hw4_0:),(zx_ HB hw4_1:),(zx_ HB hw4_2:),(zx_ HB hw4_3:),(zx_ HB hw4_4:),(zx_ HB hw4_5:),(zx_ HB hw4_6:),(zx_ HB hw4_7:),(zx_ HB hw4_8:),(zx_ HB hw4_9:),(zx_ HB hw4_10:),(zx_ HB hw4_11:)⟩ (fun hHeld=> ?_);refine with_tabW law18_Loose.tab5 law18_Loose.bits5 (fun HT_ HW_=> ?_)
   generalize wr.drew=w5 at HO_3 HB hx1_0 hx1_1 hx1_10 hx1_11 hx1_2 hx1_3 hx1_4 hx1_5 hx1_6 hx1_7 hx1_8 hx1_9 hx2_0 hx2_1 hx2_10 hx2_11 hx2_2 hx2_3 hx2_4 hx2_5 hx2_6 hx2_7 hx2_8 hx2_9 hx3_0 hx3_1 hx3_10 hx3_11 hx3_2 hx3_3 hx3_4 hx3_5 hx3_6 hx3_7 hx3_8 hx3_9 hx4_0 hx4_1 hx4_10 hx4_11 hx4_2 hx4_3 hx4_4 hx4_5 hx4_6 hx4_7 hx4_8 hx4_9 hHeld ⊢
   refine pu_ (i:=0) (N:=some 11) (bt_ 25 1) HT_ ?_
   refine pu_ (i:=1) (N:=some 12) (bt_ 25 3) HT_ ?_
   refine pu_ (i:=2) (N:=some 13) (bt_ 25 7) HT_ ?_
   refine pu_ (i:=3) (N:=some 14) (bt_ 25 15) HT_ ?_
   refine pu_ (i:=4) (N:=some 15) (bt_ 25 31) HT_ ?_
   refine pu_ (i:=6) (N:=some 17) (bt_ 25 95) HT_ ?_
   refine pu_ (i:=7) (N:=some 18) (bt_ 25 223) HT_ ?_
   refine pu_ (i:=8) (N:=some 19) (bt_ 25 479) HT_ ?_
   refine pu_ (i:=9) (N:=some 20) (bt_ 25 991) HT_ ?_
   refine pu_ (i:=11) (N:=some 22) (bt_ 25 3039) HT_ ?_
   refine pu_ (i:=12) (N:=some 23) (bt_ 25 7135) HT_ ?_
   refine pu_ (i:=13) (N:=some 24) (bt_ 25 15327) HT_ ?_
   refine pu_ (i:=14) (N:=some 25) (bt_ 25 31711) HT_ ?_
   refine pu_ (i:=16) (N:=some 27) (bt_ 25 97247) HT_ ?_
   refine pu_ (i:=17) (N:=some 28) (bt_ 25 228319) HT_ ?_
   refine pu_ (i:=18) (N:=some 29) (bt_ 25 490463) HT_ ?_
   refine pu_ (i:=19) (N:=some 30) (bt_ 25 1014751) HT_ ?_
   refine tk_ (i:=5) (N:=some 16) (bt_ 25 1014783) HT_ HW_ hHeld ?_
   refine tk_ (i:=10) (N:=some 21) (bt_ 25 1015807) HT_ HW_ hHeld ?_
   refine tk_ (i:=15) (N:=some 26) (bt_ 25 1048575) HT_ HW_ hHeld ?_
   refine tk_ (i:=20) (N:=some 31) (bt_ 25 2097151) HT_ HW_ hHeld ?_
   refine pu_ (i:=21) (N:=some 32) (bt_ 25 4194303) HT_ ?_
   refine on_ (i:=22) (N:=some 33) (bt_ 25 8388607) HT_ (fun K hK=> ?_)
   refine value_ (w1:= ?_) (v:= ?_) (by rfl) rfl ?_ ?_
   rotate_left 2
   ·go_simp
    constructor
    ·rfl
    rfl
   refine hK.out _ _ ⟨(World.cell?_alloc_lt _ _ _ (World.block_lt_of_cell? _ _ ((zx_ HB hw1_0)))).trans ((zx_ HB hw1_0)),(World.cell?_alloc_lt _ _ _ (World.block_lt_of_cell? _ _ ((zx_ HB hw1_1)))).trans ((zx_ HB hw1_1)),(World.cell?_alloc_lt _ _ _ (World.block_lt_of_cell? _ _ ((zx_ HB hw1_2)))).trans ((zx_ HB hw1_2)),(World.cell?_alloc_lt _ _ _ (World.block_lt_of_cell? _ _ ((zx_ HB hw1_3)))).trans ((zx_ HB hw1_3)),(World.cell?_alloc_lt _ _ _ (World.block_lt_of_cell? _ _ ((zx_ HB hw1_4)))).trans ((zx_ HB hw1_4)),(World.cell?_alloc_lt _ _ _ (World.block_lt_of_cell? _ _ ((zx_ HB hw1_5)))).trans ((zx_ HB hw1_5)),(World.cell?_alloc_lt _ _ _ (World.block_lt_of_cell? _ _ ((zx_ HB hw1_6)))).trans ((zx_ HB hw1_6)),(World.cell?_alloc_lt _ _ _ (World.block_lt_of_cell? _ _ ((zx_ HB hw1_7)))).trans ((zx_ HB hw1_7)),(World.cell?_alloc_lt _ _ _ (World.block_lt_of_cell? _ _ ((zx_ HB hw1_8)))).trans ((zx_ HB hw1_8)),(World.cell?_alloc_lt _ _ _ (World.block_lt_of_cell? _ _ ((zx_ HB hw1_9)))).trans ((zx_ HB hw1_9)),(World.cell?_alloc_lt _ _ _ (World.block_lt_of_cell? _ _ ((zx_ HB hw1_10)))).trans ((zx_ HB hw1_10)),(World.cell?_alloc_lt _ _ _ (World.block_lt_of_cell? _ _ ((zx_ HB hw1_11)))).trans ((zx_ HB hw1_11)),(World.cell?_alloc_lt _ _ _ (World.block_lt_of_cell? _ _ ((zx_ HB hw2_0)))).trans ((zx_ HB hw2_0)),(World.cell?_alloc_lt _ _ _ (World.block_lt_of_cell? _ _ ((zx_ HB hw2_1)))).trans ((zx_ HB hw2_1)),(World.cell?_alloc_lt _ _ _ (World.block_lt_of_cell? _ _ ((zx_ HB hw2_2)))).trans ((zx_ HB hw2_2)),(World.cell?_alloc_lt _ _ _ (World.block_lt_of_cell? _ _ ((zx_ HB hw2_3)))).trans ((zx_ HB hw2_3)),(World.cell?_alloc_lt _ _ _ (World.block_lt_of_cell? _ _ ((zx_ HB hw2_4)))).trans ((zx_ HB hw2_4)),(World.cell?_alloc_lt _ _ _ (World.block_lt_of_cell? _ _ ((zx_ HB hw2_5)))).trans ((zx_ HB hw2_5)),(World.cell?_alloc_lt _ _ _ (World.block_lt_of_cell? _ _ ((zx_ HB hw2_6)))).trans ((zx_ HB hw2_6)),(World.cell?_alloc_lt _ _ _ (World.block_lt_of_cell? _ _ ((zx_ HB hw2_7)))).trans ((zx_ HB hw2_7)),(World.cell?_alloc_lt _ _ _ (World.block_lt_of_cell? _ _ ((zx_ HB hw2_8)))).trans ((zx_ HB hw2_8)),(World.cell?_alloc_lt _ _ _ (World.block_lt_of_cell? _ _ ((zx_ HB hw2_9)))).trans ((zx_ HB hw2_9)),(World.cell?_alloc_lt _ _ _ (World.block_lt_of_cell? _ _ ((zx_ HB hw2_10)))).trans ((zx_ HB hw2_10)),(World.cell?_alloc_lt _ _ _ (World.block_lt_of_cell? _ _ ((zx_ HB hw2_11)))).trans ((zx_ HB hw2_11)),(World.cell?_alloc_lt _ _ _ (World.block_lt_of_cell? _ _ ((zx_ HB hw3_0)))).trans ((zx_ HB hw3_0)),(World.cell?_alloc_lt _ _ _ (World.block_lt_of_cell? _ _ ((zx_ HB hw3_1)))).trans ((zx_ HB hw3_1)),(World.cell?_alloc_lt _ _ _ (World.block_lt_of_cell? _ _ ((zx_ HB hw3_2)))).trans ((zx_ HB hw3_2)),(World.cell?_alloc_lt _ _ _ (World.block_lt_of_cell? _ _ ((zx_ HB hw3_3)))).trans ((zx_ HB hw3_3)),(World.cell?_alloc_lt _ _ _ (World.block_lt_of_cell? _ _ ((zx_ HB hw3_4)))).trans ((zx_ HB hw3_4)),(World.cell?_alloc_lt _ _ _ (World.block_lt_of_cell? _ _ ((zx_ HB hw3_5)))).trans ((zx_ HB hw3_5)),(World.cell?_alloc_lt _ _ _ (World.block_lt_of_cell? _ _ ((zx_ HB hw3_6)))).trans ((zx_ HB hw3_6)),(World.cell?_alloc_lt _ _ _ (World.block_lt_of_cell? _ _ ((zx_ HB hw3_7)))).trans ((zx_ HB hw3_7)),(World.cell?_alloc_lt _ _ _ (World.block_lt_of_cell? _ _ ((zx_ HB hw3_8)))).trans ((zx_ HB hw3_8)),(World.cell?_alloc_lt _ _ _ (World.block_lt_of_cell? _ _ ((zx_ HB hw3_9)))).trans ((zx_ HB hw3_9)),(World.cell?_alloc_lt _ _ _ (World.block_lt_of_cell? _ _ ((zx_ HB hw3_10)))).trans ((zx_ HB hw3_10)),(World.cell?_alloc_lt _ _ _ (World.block_lt_of_cell? _ _ ((zx_ HB hw3_11)))).trans ((zx_ HB hw3_11)),(World.cell?_alloc_lt _ _ _ (World.block_lt_of_cell? _ _ ((zx_ HB hw4_0)))).trans ((zx_ HB hw4_0)),(World.cell?_alloc_lt _ _ _ (World.block_lt_of_cell? _ _ ((zx_ HB hw4_1)))).trans ((zx_ HB hw4_1)),(World.cell?_alloc_lt _ _ _ (World.block_lt_of_cell? _ _ ((zx_ HB hw4_2)))).trans ((zx_ HB hw4_2)),(World.cell?_alloc_lt _ _ _ (World.block_lt_of_cell? _ _ ((zx_ HB hw4_3)))).trans ((zx_ HB hw4_3)),(World.cell?_alloc_lt _ _ _ (World.block_lt_of_cell? _ _ ((zx_ HB hw4_4)))).trans ((zx_ HB hw4_4)),(World.cell?_alloc_lt _ _ _ (World.block_lt_of_cell? _ _ ((zx_ HB hw4_5)))).trans ((zx_ HB hw4_5)),(World.cell?_alloc_lt _ _ _ (World.block_lt_of_cell? _ _ ((zx_ HB hw4_6)))).trans ((zx_ HB hw4_6)),(World.cell?_alloc_lt _ _ _ (World.block_lt_of_cell? _ _ ((zx_ HB hw4_7)))).trans ((zx_ HB hw4_7)),(World.cell?_alloc_lt _ _ _ (World.block_lt_of_cell? _ _ ((zx_ HB hw4_8)))).trans ((zx_ HB hw4_8)),(World.cell?_alloc_lt _ _ _ (World.block_lt_of_cell? _ _ ((zx_ HB hw4_9)))).trans ((zx_ HB hw4_9)),(World.cell?_alloc_lt _ _ _ (World.block_lt_of_cell? _ _ ((zx_ HB hw4_10)))).trans ((zx_ HB hw4_10)),(World.cell?_alloc_lt _ _ _ (World.block_lt_of_cell? _ _ ((zx_ HB hw4_11)))).trans ((zx_ HB hw4_11))⟩ (fun hHeld=> ?_)
   clear hK K
   refine no_ (N:=some 33) ?_
   refine on_ (i:=23) (N:=some 34) (bt_ 25 16777215) HT_ (fun K hK=> ?_)
   refine Kd.R_append_step k84 (w0:=w) w.heap.size (by rfl) (.tmp 11) (.tmp 33) 53 84 (.agg #[(.string ⟨#[]⟩),(.string ⟨#[]⟩),(.int .i64 0),(.int .i64 0),(.int .i64 0),(.int .i64 0)]) 64 rfl Try.underlying53 info84 rfl (by decide) (by omega) u3 x3_1 (⟨(rd_T79 l0 x4_1).f0,(rd_T79 l0 x4_1).f1,(⟨(rd_T79 l0 x4_1).f2.f0,(rd_T79 l0 x4_1).f2.f1,(rd_T79 l0 x4_1).f2.f2⟩:S37),(rd_T79 l0 x4_1).f5⟩:S84) [.string ((rd_T79 l0 x4_1).f0), .string ((rd_T79 l0 x4_1).f1), .int .i64 ((rd_T79 l0 x4_1).f2.f0), .int .i64 ((rd_T79 l0 x4_1).f2.f1), .int .i64 ((rd_T79 l0 x4_1).f2.f2), .int .i64 ((rd_T79 l0 x4_1).f5)] (fun _=>True) (fun _=>False) rfl rfl ?aP (fun _ hk=>hk.elim) ?aF ?aO ?aB ?aS ?aL ?_
   (case aP=>exact k84_mkM _ _ _ (⟨(rd_T79 l0 x4_1).f0,(rd_T79 l0 x4_1).f1,(⟨(rd_T79 l0 x4_1).f2.f0,(rd_T79 l0 x4_1).f2.f1,(rd_T79 l0 x4_1).f2.f2⟩:S37),(rd_T79 l0 x4_1).f5⟩:S84))
   (case aB=>exact (zl0_ HB))
   (case aF=>exact (fun _ _=>trivial))
   (case aO=>exact (zr_ HO_3))
   (case aS=>exact (below_size (zl0_ HB)))
   (case aL=>have:=LMc4.out;omega)
   intro v6 w6 ho hb hg hat
   rw [←Ny5.out] at ho
   have n0_:=am_ (hb)
   have n1_:=am_ (ho)
   clear HB
   clear HO_3
   have HB:=n0_
   have HO7:=n1_
   clear n0_ n1_
   clear ho hb hg hat
   refine hK.out _ _ ⟨(zx_ HB hw1_0:),(zx_ HB hw1_1:),(zx_ HB hw1_2:),(zx_ HB hw1_3:),(zx_ HB hw1_4:),(zx_ HB hw1_5:),(zx_ HB hw1_6:),(zx_ HB hw1_7:),(zx_ HB hw1_8:),(zx_ HB hw1_9:),(zx_ HB hw1_10:),(zx_ HB hw1_11:),(zx_ HB hw2_0:),(zx_ HB hw2_1:),(zx_ HB hw2_2:),(zx_ HB hw2_3:),(zx_ HB hw2_4:),(zx_ HB hw2_5:),(zx_ HB hw2_6:),(zx_ HB hw2_7:),(zx_ HB hw2_8:),(zx_ HB hw2_9:),(zx_ HB hw2_10:),(zx_ HB hw2_11:),(zx_ HB hw3_0:),(zx_ HB hw3_1:),(zx_ HB hw3_2:),(zx_ HB hw3_3:),(zx_ HB hw3_4:),(zx_ HB hw3_5:),(zx_ HB hw3_6:),(zx_ HB hw3_7:),(zx_ HB hw3_8:),(zx_ HB hw3_9:),(zx_ HB hw3_10:),(zx_ HB hw3_11:),(zx_ HB hw4_0:),(zx_ HB hw4_1:),(zx_ HB hw4_2:),(zx_ HB hw4_3:),(zx_ HB hw4_4:),(zx_ HB hw4_5:),(zx_ HB hw4_6:),(zx_ HB hw4_7:),(zx_ HB hw4_8:),(zx_ HB hw4_9:),(zx_ HB hw4_10:),(zx_ HB hw4_11:)⟩ (fun hHeld=> ?_)
   clear hK K
   refine no_ (N:=some 34) ?_
   refine pu_ (i:=24) (N:=some 3) (bt_ 25 33554431) HT_ ?_
   refine done_ (done_of HT_.out (by kernel_rfl)) ?_
   try go_wp2
   go_roundg k1
   case measure=>have:=HK1.out;omega
   case rel=>exact ⟨(y5),(wrap64 (x4_1+1)),(by first|rfl|(simp;done)|(simp [*];done)),H',⟨by have:=HK1.out;omega⟩,⟨by (with_reducible repeat (first|apply Kd.R_alloc|apply Kd.R_drewN|apply Kd.R_drew));exact HO7.out⟩,⟨zl0_ HB⟩⟩
theorem eqA76 (d:Nat) (w:World) (x0 y0:Int) (x1 y1:ByteArray) (x2 y2:ByteArray) (x3 y3:Int) (x4 y4:Int) (x5 y5:Int):
  (Op.equalIn (d+3) 76 (.agg #[.int .i64 x0, .string x1, .string x2, .int .i64 x3, .int .i64 x4, .int .i64 x5]) (.agg #[.int .i64 y0, .string y1, .string y2, .int .i64 y3, .int .i64 y4, .int .i64 y5])).run Try.prog w= .ok (x0==y0 && (x1.toList==y1.toList && (x2.toList==y2.toList && ((x3==y3 && (x4==y4 && (x5==y5))))))) w:=by
 refine eqA_of Try.underlying76 (by kernel_rfl) ?_
 refine eqf_cons (by rfl) (by go_simp;rfl) (by go_simp;rfl) (by go_simp) ?_
 refine eqf_cons (by rfl) (by go_simp;rfl) (by go_simp;rfl) (by go_simp) ?_
 refine eqf_cons (by rfl) (by go_simp;rfl) (by go_simp;rfl) (by go_simp) ?_
 exact eqf_last (by rfl) (by go_simp) (by go_simp) (eqA37 (d+0) w _ _ _ _ _ _)
end Go.Proofs.Ytahidkjncljkaaa.Print
