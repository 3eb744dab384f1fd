/- PlanAll: a part -/
import Derived.Laws.Cover1
import Derived.Shelf.Abstract
import Derived.Laws.Strings
import Derived.Maps.OwnOps
import Derived.Maps.Views
import Derived.Test.YtahidkjncljkaaaBPlanAll0
import Derived.Test.YtahidkjncljkaaaBPlanAll1
set_option linter.unusedVariables false
set_option linter.unusedSimpArgs false
namespace Go.Proofs.Ytahidkjncljkaaa.Print
open Go.RowKit Go.Proofs.YtahidkjncljkaaaW.PrintWords Go.Proofs.YtahidkjncljkaaaW.PrintLast Go.Proofs.YtahidkjncljkaaaW.PrintMore
attribute [local go_sem] max2_int min2_int max_two min_two max_three min_three max_four min_four

attribute [local go_sem high] eqA37
mutual
def r16_Steps.l0:Nat→List (S39)→List (S84)→List (S79)→List (S39)→Bool→Int→Option ((List (S76))×Int)
 |0,_,_,_,_,_,_=>none
 |k+1,x0,x1,x2,x8,x9,x10=>if x10<(x8.length:Int) then (if 0≤x10 then ((r10_Find.f k x2 ((rd_T39 x8 x10).f0)).bind fun t7=>(if t7≥0 then ((r16_marked.f k x1 ((rd_T39 x8 x10).f0)).bind fun t9=>(if t9<0 then (some (([]:List (S76)),3)) else (if x9=true then (r16_Steps.l0 k x0 x1 x2 x8 true (wrap64 (x10+1))) else (if 0≤t7 then (if t7<(x2.length:Int) then (r16_Steps.l0 k x0 x1 x2 x8 (((rd_T79 x2 t7).f1).toList !=((rd_T39 x8 x10).f1).toList) (wrap64 (x10+1))) else (none)) else (none))))) else (if x9=true then (r16_Steps.l0 k x0 x1 x2 x8 true (wrap64 (x10+1))) else (r16_Steps.l0 k x0 x1 x2 x8 false (wrap64 (x10+1)))))) else (none)) else (r16_Steps.l1 k x0 x1 x2 x8 x9 ([]:List (S76)) 0)
def r16_Steps.l1:Nat→List (S39)→List (S84)→List (S79)→List (S39)→Bool→List (S76)→Int→Option ((List (S76))×Int)
 |0,_,_,_,_,_,_,_=>none
 |k+1,x0,x1,x2,x8,x9,x12,x13=>if x13<(x8.length:Int) then (if 0≤x13 then ((r10_Find.f k x2 ((rd_T39 x8 x13).f0)).bind fun t14=>((r16_up.f k ((rd_T39 x8 x13).f0) ((rd_T39 x8 x13).f1) ((rd_T39 x8 x13).f2.f0) ((rd_T39 x8 x13).f2.f1) ((rd_T39 x8 x13).f2.f2) x2 x9).bind fun bt15=>(if t14<0 then (if x12.length<2199023255552 then (r16_Steps.l1 k x0 x1 x2 x8 x9 (x12++ [(⟨1,(rd_T39 x8 x13).f0,(rd_T39 x8 x13).f1,(⟨bt15.1,bt15.2.1,bt15.2.2⟩:S37)⟩:S76)]) (wrap64 (x13+1))) else (none)) else (if 0≤t14 then (if t14<(x2.length:Int) then (if (!(((rd_T79 x2 t14).f2.f0)==bt15.1)||(!(((rd_T79 x2 t14).f2.f1)==bt15.2.1)||(!(((rd_T79 x2 t14).f2.f2)==bt15.2.2))))=true then (if x12.length<2199023255552 then (r16_Steps.l1 k x0 x1 x2 x8 x9 (x12++ [(⟨2,(rd_T39 x8 x13).f0,(⟨#[]⟩:ByteArray),(⟨bt15.1,bt15.2.1,bt15.2.2⟩:S37)⟩:S76)]) (wrap64 (x13+1))) else (none)) else (r16_Steps.l1 k x0 x1 x2 x8 x9 x12 (wrap64 (x13+1)))) else (none)) else (none))))) else (none)) else (r16_Steps.l2 k x0 x1 x2 x8 x9 x12 0)
def r16_Steps.l2:Nat→List (S39)→List (S84)→List (S79)→List (S39)→Bool→List (S76)→Int→Option ((List (S76))×Int)
 |0,_,_,_,_,_,_,_=>none
 |k+1,x0,x1,x2,x8,x9,x12,x17=>if x17<(x8.length:Int) then (if 0≤x17 then ((r10_Find.f k x2 ((rd_T39 x8 x17).f0)).bind fun t27=>(if t27≥0 then (if 0≤t27 then (if t27<(x2.length:Int) then (if ((rd_T79 x2 t27).f1).toList=((rd_T39 x8 x17).f1).toList then (r16_Steps.l2 k x0 x1 x2 x8 x9 x12 (wrap64 (x17+1))) else (if x12.length<2199023255552 then (r16_Steps.l2 k x0 x1 x2 x8 x9 (x12++ [(⟨3,(rd_T39 x8 x17).f0,(rd_T39 x8 x17).f1,(⟨0,0,0⟩:S37)⟩:S76)]) (wrap64 (x17+1))) else (none))) else (none)) else (none)) else (r16_Steps.l2 k x0 x1 x2 x8 x9 x12 (wrap64 (x17+1))))) else (none)) else (r16_Steps.l3 k x0 x1 x2 x8 x9 x12 (wrap64 ((x8.length:Int) - 1)))
def r16_Steps.l3:Nat→List (S39)→List (S84)→List (S79)→List (S39)→Bool→List (S76)→Int→Option ((List (S76))×Int)
 |0,_,_,_,_,_,_,_=>none
 |k+1,x0,x1,x2,x8,x9,x12,x19=>if x19≥0 then (if 0≤x19 then (if x19<(x8.length:Int) then ((r16_up.f k ((rd_T39 x8 x19).f0) ((rd_T39 x8 x19).f1) ((rd_T39 x8 x19).f2.f0) ((rd_T39 x8 x19).f2.f1) ((rd_T39 x8 x19).f2.f2) x2 x9).bind fun bt36=>(if (!(bt36.1==((rd_T39 x8 x19).f2.f0))||(!(bt36.2.1==((rd_T39 x8 x19).f2.f1))||(!(bt36.2.2==((rd_T39 x8 x19).f2.f2)))))=true then (if x12.length<2199023255552 then (r16_Steps.l3 k x0 x1 x2 x8 x9 (x12++ [(⟨2,(rd_T39 x8 x19).f0,(⟨#[]⟩:ByteArray),(⟨(rd_T39 x8 x19).f2.f0,(rd_T39 x8 x19).f2.f1,(rd_T39 x8 x19).f2.f2⟩:S37)⟩:S76)]) (wrap64 (x19 - 1))) else (none)) else (r16_Steps.l3 k x0 x1 x2 x8 x9 x12 (wrap64 (x19 - 1))))) else (none)) else (none)) else ((r16_goes.f k x0 x1 x2).bind fun t45=>(r16_Steps.l4 k x12 t45 0))
def r16_Steps.l4:Nat→List (S76)→List ByteArray→Int→Option ((List (S76))×Int)
 |0,_,_,_=>none
 |k+1,x12,x20,x21=>if x21<(x20.length:Int) then (if 0≤x21 then (if x12.length<2199023255552 then (r16_Steps.l4 k (x12++ [(⟨4,rdOf ByteArray.empty x20 x21,(⟨#[]⟩:ByteArray),(⟨0,0,0⟩:S37)⟩:S76)]) x20 (wrap64 (x21+1))) else (none)) else (none)) else (some (x12,0))
end
def r16_Steps.f (k:Nat) (l0:List (S39)) (l1:List (S84)) (l2:List (S79)):Option ((List (S76))×Int):=(r10_Check.f k l0).bind fun t2=>(if t2=0 then ((r10_Top.f k l0).bind fun t3=>(r16_Steps.l0 k l0 l1 l2 t3 false 0)) else (some (([]:List (S76)),t2)))
theorem r16_Steps.mono_l: ∀k,(∀y0 y1 y2 y3 y4 y5,LeO (r16_Steps.l0 k y0 y1 y2 y3 y4 y5) (r16_Steps.l0 (k+1) y0 y1 y2 y3 y4 y5))∧(∀y0 y1 y2 y3 y4 y5 y6,LeO (r16_Steps.l1 k y0 y1 y2 y3 y4 y5 y6) (r16_Steps.l1 (k+1) y0 y1 y2 y3 y4 y5 y6))∧(∀y0 y1 y2 y3 y4 y5 y6,LeO (r16_Steps.l2 k y0 y1 y2 y3 y4 y5 y6) (r16_Steps.l2 (k+1) y0 y1 y2 y3 y4 y5 y6))∧(∀y0 y1 y2 y3 y4 y5 y6,LeO (r16_Steps.l3 k y0 y1 y2 y3 y4 y5 y6) (r16_Steps.l3 (k+1) y0 y1 y2 y3 y4 y5 y6))∧(∀y0 y1 y2,LeO (r16_Steps.l4 k y0 y1 y2) (r16_Steps.l4 (k+1) y0 y1 y2))
 |0=>⟨fun _ _ _ _ _ _ r h=>by simp [r16_Steps.l0] at h,fun _ _ _ _ _ _ _ r h=>by simp [r16_Steps.l1] at h,fun _ _ _ _ _ _ _ r h=>by simp [r16_Steps.l2] at h,fun _ _ _ _ _ _ _ r h=>by simp [r16_Steps.l3] at h,fun _ _ _ r h=>by simp [r16_Steps.l4] at h⟩
 |k+1=>by
  obtain ⟨ih0,ih1,ih2,ih3,ih4⟩:=r16_Steps.mono_l k;refine ⟨?_, ?_, ?_, ?_, ?_⟩<;>(intros;first|unfold r16_Steps.l0|unfold r16_Steps.l1|unfold r16_Steps.l2|unfold r16_Steps.l3|unfold r16_Steps.l4)<;>repeat' with_reducible first|apply ih0|apply ih1|apply ih2|apply ih3|apply ih4|apply r10_Check.mono|apply r10_Find.mono|apply r10_Top.mono|apply r16_goes.mono|apply r16_marked.mono|apply r16_up.mono|apply LeO.refl|apply LeO.none|apply LeO.ite|refine LeO.bind ?_ fun _=> ?_
theorem r16_Steps.mono: ∀a0 a1 a2 k,LeO (r16_Steps.f k a0 a1 a2) (r16_Steps.f (k+1) a0 a1 a2):=by
 intro a0 a1 a2 k;obtain ⟨ih0,ih1,ih2,ih3,ih4⟩:=r16_Steps.mono_l k;unfold r16_Steps.f
 repeat' with_reducible first|apply ih0|apply ih1|apply ih2|apply ih3|apply ih4|apply r10_Check.mono|apply r10_Find.mono|apply r10_Top.mono|apply r16_goes.mono|apply r16_marked.mono|apply r16_up.mono|apply LeO.refl|apply LeO.none|apply LeO.ite|refine LeO.bind ?_ fun _=> ?_
def r16_Steps.T12:Bool×List (List Nat×List Nat):=(true,[([],[]),([0],[0]),([1],[1]),([2,1],[1,2]),([3,1,1],[1,3]),([4],[4]),([4],[4]),([5,6,4],[4,5,6]),([7,4],[4,7]),([8,4],[4,8]),([4],[4]),([4],[4]),([10,11,4],[4,10,11]),([12,4],[4,12]),([13,4],[4,13]),([9,14,4],[4,9,14]),([4,15,1],[1,4,15]),([1,16],[1,16]),([17,4,0,1,2,3,4,5,6,7,8,9,10,11,12,13,14,15,16,17],[0,17])])
def r16_Steps.B12:List Nat:=[0,1,3,7,15,31,31,127,255,511,31,31,3103,7199,15391,32767,65535,131071,262143]
theorem r16_Steps.tab12:rtab .any (opsOf Try.f39 12)=r16_Steps.T12:=by kernel_rfl
theorem r16_Steps.bits12:waitsOk r16_Steps.T12.2 r16_Steps.B12=true:=by kernel_rfl
def r16_Steps.T28:Bool×List (List Nat×List Nat):=(true,[([],[]),([0],[0]),([1],[1]),([2],[2]),([2],[2]),([3,4,2],[2,3,4]),([5,2],[2,5]),([6,2],[2,6]),([2],[2]),([2],[2]),([8,9,2],[2,8,9]),([10,2],[2,10]),([11,2],[2,11]),([7,12,2],[2,7,12]),([2,13],[2,13])])
def r16_Steps.B28:List Nat:=[0,1,3,7,7,31,63,127,7,7,775,1799,3847,8191,16383]
theorem r16_Steps.tab28:rtab .any (opsOf Try.f39 28)=r16_Steps.T28:=by kernel_rfl
theorem r16_Steps.bits28:waitsOk r16_Steps.T28.2 r16_Steps.B28=true:=by kernel_rfl
def r16_Steps.T29:Bool×List (List Nat×List Nat):=(true,[([],[]),([],[]),([],[]),([1,2],[1,2]),([3],[3]),([4],[4]),([],[]),([],[]),([6,7],[6,7]),([8],[8]),([9],[9]),([5,10],[5,10]),([11],[11]),([0,12],[0,12]),([13,13,0,1,2,3,4,5,6,7,8,9,10,11,12,13],[0,13])])
def r16_Steps.B29:List Nat:=[0,0,0,6,14,30,0,0,192,448,960,2046,4094,8191,16383]
theorem r16_Steps.tab29:rtab .any (opsOf Try.f39 29)=r16_Steps.T29:=by kernel_rfl
theorem r16_Steps.bits29:waitsOk r16_Steps.T29.2 r16_Steps.B29=true:=by kernel_rfl
def r16_Steps.T33:Bool×List (List Nat×List Nat):=(true,[([],[]),([],[]),([0,1],[0,1]),([2],[2]),([],[]),([],[]),([3,4,5],[3,4,5]),([],[]),([],[]),([7,8],[7,8]),([9],[9]),([10],[10]),([6,11],[6,11])])
def r16_Steps.B33:List Nat:=[0,0,3,7,0,0,63,0,0,384,896,1920,4095]
theorem r16_Steps.tab33:rtab .any (opsOf Try.f39 33)=r16_Steps.T33:=by kernel_rfl
theorem r16_Steps.bits33:waitsOk r16_Steps.T33.2 r16_Steps.B33=true:=by kernel_rfl
def r16_Steps.T34:Bool×List (List Nat×List Nat):=(true,[([],[]),([],[]),([],[]),([1,2],[1,2]),([3],[3]),([4],[4]),([],[]),([],[]),([6,7],[6,7]),([8],[8]),([9],[9]),([5,10],[5,10]),([11],[11]),([0,12],[0,12]),([13,13,0,1,2,3,4,5,6,7,8,9,10,11,12,13],[0,13])])
def r16_Steps.B34:List Nat:=[0,0,0,6,14,30,0,0,192,448,960,2046,4094,8191,16383]
theorem r16_Steps.tab34:rtab .any (opsOf Try.f39 34)=r16_Steps.T34:=by kernel_rfl
theorem r16_Steps.bits34:waitsOk r16_Steps.T34.2 r16_Steps.B34=true:=by kernel_rfl
set_option maxHeartbeats 8000000 in
set_option maxRecDepth 100000 in
theorem r16_Steps.calls (k:Nat) (A0:Option Addr) (c0:Nat) (l0:List (S39)) (A1:Option Addr) (c1:Nat) (l1:List (S84)) (A2:Option Addr) (c2:Nat) (l2:List (S79)) (r1:List (S76)) (r2:Int) (w:World) (hr0:Kd.C k39 w A0 l0.length l0) (hc0:l0.length≤c0) (hr1:Kd.C k84 w A1 l1.length l1) (hc1:l1.length≤c1) (hr2:Kd.C k79 w A2 l2.length l2) (hc2:l2.length≤c2) (h:r16_Steps.f k l0 l1 l2=some (r1,r2)):
  Calls Try.prog 39 #[.slice A0 l0.length c0, .slice A1 l1.length c1, .slice A2 l2.length c2] w fun e w'=> ∃v0_:Value,e= .returned (.agg #[v0_, .int .i64 r2])∧Kd.R k76 76 w' w.heap.size (fun _=>True) v0_ r1∧Below w.heap.size w w':=by
 have hu51:=Try.underlying51;have hu39:=Try.underlying39;have hu37:=Try.underlying37;have hu76:=Try.underlying76;have HR0:=Aside0.mk hr0;have HC0:=Aside0.mk hc0;clear hr0 hc0;have HR1:=Aside0.mk hr1;have HC1:=Aside0.mk hc1;clear hr1 hc1;have HR2:=Aside0.mk hr2;have HC2:=Aside0.mk hc2;clear hr2 hc2;have HB:=am_ (Below.refl w.heap.size w);have H:((r10_Check.f k l0).bind fun t2=>(if t2=0 then ((r10_Top.f k l0).bind fun t3=>(r16_Steps.l0 k l0 l1 l2 t3 false 0)) else (some (([]:List (S76)),t2))))=some (r1,r2):=h;clear h;replace H:=zbd_ H;obtain ⟨t2,A4,H⟩:=H;try dsimp only at H
 by_cases c5:t2=0;rotate_left
 ·rw [if_neg c5] at H;have c5b0:=beq_eq_false_iff_ne.mpr c5;have c5b1:=bne_iff_ne.mpr c5;simp only [Option.some.injEq,Prod.mk.injEq] at H;obtain ⟨rfl,rfl⟩:=H;go_enter Try.func39,Try.ntmps39;go_wp2_with (first|((with_reducible refine gate_dst (N:=6) rfl ?_);refine bx_ (N:=6) (cs:=#[.slice none 0 0, .int .i64 0]) (t:=51) ?_;intro gb1 hg w109 hbox hb;have BK1:=am_ (hbox);have GE1:=am_ ((zg0_ HB hg:w.heap.size≤gb1));replace HB:=am_ (below_step (zl0_ HB) hb);clear hb hbox hg)|((with_reducible refine gate_callee (f:=24) rfl ?_);refine gl_ (some 23) Try.func24 #[.slice A0 l0.length c0] ?_;(with_reducible refine (r10_Check.calls k _ _ l0 t2 _ ?side1 ?side2 A4.out).mono ?_);(case side1=>exact zc_ (Kd.C_below HR0.out HB.out));(case side2=>exact HC0.out);rintro e w110 ⟨rfl,hb⟩;refine ⟨_,rfl, ?_⟩;replace BK1:=bb_ BK1 hb;replace HB:=am_ (below_step (zl1_ HB GE1) hb);(try clear hb);obtain ⟨hcz111_0,hcz111_1⟩:=x2_ BK1;have hfz111_0:=blk_frozen BK1.out 0;have hfz111_1:=blk_frozen BK1.out 1))
  refine bodyPost_ret (results_cell_row rfl _ _ gb1 51 #[.slice none 0 0, .int .i64 t2] (0,0) _ rfl (zw_ BK1) Try.underlying51 rfl (by kernel_rfl)) rfl ?_;exact ⟨_,by first|rfl|(simp [errW_none,errW_some]<;>rfl)|(simp [*,errW_none,errW_some]<;>rfl),by first|exact Kd.R_nil _ _ _ _ _|exact Kd.N_nil _ _ _ _ _|exact Kd.V_nil _ _ _ _ _|exact Kd.Q_nil _ _ _ _ _|exact Kd.S_nil _ _ _ _ _,zl1_ HB GE1⟩

 rw [if_pos c5] at H;have c5b0:=beq_iff_eq.mpr c5;have c5b1:=bne_eq_false_iff_eq.mpr c5;clear c5;replace H:=zbd_ H;obtain ⟨t3,A6,H⟩:=H;try dsimp only at H
 have H':=Aside0.mk H;clear H;go_enter Try.func39,Try.ntmps39;go_wp2_with (first|((with_reducible refine gate_dst (N:=6) rfl ?_);refine bx_ (N:=6) (cs:=#[.slice none 0 0, .int .i64 0]) (t:=51) ?_;intro gb1 hg w7 hbox hb;have BK1:=am_ (hbox);have GE1:=am_ ((zg0_ HB hg:w.heap.size≤gb1));replace HB:=am_ (below_step (zl0_ HB) hb);clear hb hbox hg)|((with_reducible refine gate_callee (f:=24) rfl ?_);refine gl_ (some 23) Try.func24 #[.slice A0 l0.length c0] ?_;(with_reducible refine (r10_Check.calls k _ _ l0 t2 _ ?side1 ?side2 A4.out).mono ?_);(case side1=>exact zc_ (Kd.C_below HR0.out HB.out));(case side2=>exact HC0.out);rintro e w8 ⟨rfl,hb⟩;refine ⟨_,rfl, ?_⟩;replace BK1:=bb_ BK1 hb;replace HB:=am_ (below_step (zl1_ HB GE1) hb);(try clear hb))|((with_reducible refine gate_callee (f:=31) rfl ?_);refine gl_ (some 29) Try.func31 #[.slice A0 l0.length c0] ?_;(with_reducible refine (r10_Top.calls k _ _ l0 t3 _ ?side1 ?side2 A6.out).mono ?_);(case side1=>exact zc_ (Kd.C_below HR0.out HB.out));(case side2=>exact HC0.out);rintro e w9 ⟨v4,rfl,ho0,hb⟩;refine ⟨_,rfl, ?_⟩;have HO5:=am_ (Kd.R_lower ho0 (below_size (zl1_ HB GE1)));replace BK1:=bb_ BK1 hb;replace HB:=am_ (below_step (zl1_ HB GE1) hb);(try clear hb ho0)))
 go_loopg [9,10] k (fun kq v9 v10 w'=> ∃(x9_1:Bool) (x10_1:Int) (x2001_1:Int),v9= .bool x9_1∧v10= .int .i64 x10_1∧Aside0 (r16_Steps.l0 kq l0 l1 l2 t3 x9_1 x10_1=some (r1,r2))∧Aside0 (kq≤k)∧Aside0 (Kd.R k39 39 w' w.heap.size (fun _=>True) v4 t3)∧Aside0 (w'.heap[gb1]?=some (.cells #[(.slice none 0 0), .int .i64 x2001_1] 51 (0,0)))∧Aside0 (Below w.heap.size w w'))
 case atStart=>exact ⟨(false),(0),(0),rf_,rf_,H',⟨Nat.le_refl _⟩,am_ (zr_ HO5),am_ (zb_ BK1),⟨zl1_ HB GE1⟩⟩
 case round=>
  clear H';obtain ⟨x9_1,x10_1,x2001_1,rfl,rfl,HA,HK1,HO_8,BK1,HB⟩:=hrel
  cases gk with
  |zero=>exact absurd HA.out (by simp [r16_Steps.l0])
  |succ k1=>
   have H:=HA.out;clear HA;simp only [r16_Steps.l0] at H;by_cases c10:x10_1<(t3.length:Int)
   ·rw [if_pos c10] at H;have c10b0:=decide_eq_true c10;clear c10;replace H:=zif_ H;obtain ⟨c11,H⟩:=H;have c11b0:=decide_eq_true c11;clear c11;replace H:=zbd_ H;obtain ⟨t7,A12,H⟩:=H;try dsimp only at H
    by_cases c13:t7≥0;rotate_left
    ·rw [if_neg c13] at H;have c13b0:decide (0≤t7)=false:=decide_eq_false c13;clear c13;by_cases c25:x9_1=true
     ·subst c25;rw [if_pos rfl] at H;have H':=Aside0.mk H;clear H;obtain ⟨Ao26,co26,eo26⟩:=Kd.R_slice HO_8.out;subst eo26;obtain ⟨p6,q6,ad6,e6,hx6_0,hx6_1,hx6_2,hx6_3,hx6_4⟩:=zat_ (at_T39 (Kd.R_reads' HO_8.out).2.2 x10_1);cases e6;try go_wp2_with (first|((with_reducible refine gate_callee (f:=52) rfl ?_);refine gl_ (some 42) Try.func52 #[.slice A2 l2.length c2, .string ((rd_T39 t3 x10_1).f0)] ?_;(with_reducible refine (r10_Find.calls k1 _ _ l2 ((rd_T39 t3 x10_1).f0) t7 _ ?side1 ?side2 A12.out).mono ?_);(case side1=>exact zc_ (Kd.C_below HR2.out HB.out));(case side2=>exact HC2.out);rintro e w' ⟨rfl,⟨nd,rfl⟩⟩;refine ⟨_,rfl, ?_⟩))
      (try (rw [drewN_self wr];generalize hq_:World.drewN wr _=wr;replace HO_8:=am_ (qr_ hq_ HO_8.out);replace BK1:=am_ (qb_ hq_ BK1.out);replace HB:=am_ (ql_ hq_ HB.out);clear hq_));replace HO_8:=am_ (Kd.R_drew HO_8.out);replace BK1:=am_ (blk_drew BK1.out);replace HB:=am_ (below_drew1 HB.out);refine start_ (n:=19) (S:=fun w'=>True) (ds:=[]) (bs_ 19 0) (by kernel_rfl) rfl rfl trivial (fun hHeld=> ?_);refine with_tabW r16_Steps.tab12 r16_Steps.bits12 (fun HT_ HW_=> ?_);generalize wr.drew=w27 at HO_8 BK1 HB hHeld ⊢;(iterate 19 first|refine qn_ HT_ ?_|refine qu_ HT_ ?_);refine done_ (done_of HT_.out (by kernel_rfl)) ?_;try go_wp2
      go_roundg k1
      case measure=>have:=HK1.out;omega
      case rel=>exact ⟨(true),(wrap64 (x10_1+1)),(x2001_1),rf_,rf_,H',⟨by have:=HK1.out;omega⟩,am_ (zr_ HO_8),am_ (zb_ BK1),⟨zl1_ HB GE1⟩⟩
     replace c25:=Bool.eq_false_iff.mpr c25;subst c25;rw [if_neg (show¬(false=true) by decide)] at H;have H':=Aside0.mk H;clear H;obtain ⟨Ao28,co28,eo28⟩:=Kd.R_slice HO_8.out;subst eo28;obtain ⟨p6,q6,ad6,e6,hx6_0,hx6_1,hx6_2,hx6_3,hx6_4⟩:=zat_ (at_T39 (Kd.R_reads' HO_8.out).2.2 x10_1);cases e6;try go_wp2_with (first|((with_reducible refine gate_callee (f:=52) rfl ?_);refine gl_ (some 42) Try.func52 #[.slice A2 l2.length c2, .string ((rd_T39 t3 x10_1).f0)] ?_;(with_reducible refine (r10_Find.calls k1 _ _ l2 ((rd_T39 t3 x10_1).f0) t7 _ ?side1 ?side2 A12.out).mono ?_);(case side1=>exact zc_ (Kd.C_below HR2.out HB.out));(case side2=>exact HC2.out);rintro e w' ⟨rfl,⟨nd,rfl⟩⟩;refine ⟨_,rfl, ?_⟩))
     (try (rw [drewN_self wr];generalize hq_:World.drewN wr _=wr;replace HO_8:=am_ (qr_ hq_ HO_8.out);replace BK1:=am_ (qb_ hq_ BK1.out);replace HB:=am_ (ql_ hq_ HB.out);clear hq_));replace HO_8:=am_ (Kd.R_drew HO_8.out);replace BK1:=am_ (blk_drew BK1.out);replace HB:=am_ (below_drew1 HB.out);refine start_ (n:=19) (S:=fun w'=>True) (ds:=[]) (bs_ 19 0) (by kernel_rfl) rfl rfl trivial (fun hHeld=> ?_);refine with_tabW r16_Steps.tab12 r16_Steps.bits12 (fun HT_ HW_=> ?_);generalize wr.drew=w29 at HO_8 BK1 HB hHeld ⊢;(iterate 19 first|refine qn_ HT_ ?_|refine qu_ HT_ ?_);refine done_ (done_of HT_.out (by kernel_rfl)) ?_;try go_wp2
     go_roundg k1
     case measure=>have:=HK1.out;omega
     case rel=>exact ⟨(false),(wrap64 (x10_1+1)),(x2001_1),rf_,rf_,H',⟨by have:=HK1.out;omega⟩,am_ (zr_ HO_8),am_ (zb_ BK1),⟨zl1_ HB GE1⟩⟩
    rw [if_pos c13] at H;have c13b0:decide (0≤t7)=true:=decide_eq_true c13;clear c13;replace H:=zbd_ H;obtain ⟨t9,A14,H⟩:=H;try dsimp only at H
    by_cases c15:t9<0
    ·rw [if_pos c15] at H;have c15b0:=decide_eq_true c15;clear c15;simp only [Option.some.injEq,Prod.mk.injEq] at H;obtain ⟨rfl,rfl⟩:=H;obtain ⟨Ao16,co16,eo16⟩:=Kd.R_slice HO_8.out;subst eo16;obtain ⟨p6,q6,ad6,e6,hx6_0,hx6_1,hx6_2,hx6_3,hx6_4⟩:=zat_ (at_T39 (Kd.R_reads' HO_8.out).2.2 x10_1);cases e6
     go_wp2_with (first|((with_reducible refine gate_callee (f:=52) rfl ?_);refine gl_ (some 42) Try.func52 #[.slice A2 l2.length c2, .string ((rd_T39 t3 x10_1).f0)] ?_;(with_reducible refine (r10_Find.calls k1 _ _ l2 ((rd_T39 t3 x10_1).f0) t7 _ ?side1 ?side2 A12.out).mono ?_);(case side1=>exact zc_ (Kd.C_below HR2.out HB.out));(case side2=>exact HC2.out);rintro e w' ⟨rfl,⟨nd,rfl⟩⟩;refine ⟨_,rfl, ?_⟩;(try (rw [drewN_self wr];generalize hq_:World.drewN wr _=wr;replace HO_8:=am_ (qr_ hq_ HO_8.out);replace BK1:=am_ (qb_ hq_ BK1.out);replace HB:=am_ (ql_ hq_ HB.out);clear hq_));have p8:0≤(x10_1:Int):=of_decide_eq_true zq_;have q8:x10_1<(t3.length:Int):=of_decide_eq_true zq_;obtain ⟨ad8,e8,hx8_0,hx8_1,hx8_2,hx8_3,hx8_4⟩:=at_T39 (Kd.R_reads' HO_8.out).2.2 x10_1 p8 q8;obtain rfl:ad6=ad8:=(by injection e8);replace p8:=eq_true p8;replace q8:=eq_true q8)|(go_at_call 85;(with_reducible refine (r16_marked.calls k1 _ _ l1 ((rd_T39 t3 x10_1).f0) t9 _ ?side1 ?side2 A14.out).mono ?_);(case side1=>exact zc_ (Kd.C_below HR1.out HB.out));(case side2=>exact HC1.out);rintro e w' ⟨rfl,⟨nd,rfl⟩⟩;(try (rw [drewN_self wr];generalize hq_:World.drewN wr _=wr;replace HO_8:=am_ (qr_ hq_ HO_8.out);replace BK1:=am_ (qb_ hq_ BK1.out);replace HB:=am_ (ql_ hq_ HB.out);clear hq_));obtain ⟨hcz17_0,hcz17_1⟩:=x2_ BK1;have hfz17_0:=blk_frozen BK1.out 0;have hfz17_1:=blk_frozen BK1.out 1))
     refine bodyPost_ret (results_cell_row rfl _ _ gb1 51 #[.slice none 0 0, .int .i64 3] (0,0) _ rfl (zw_ BK1) Try.underlying51 rfl (by kernel_rfl)) rfl ?_;exact ⟨_,by first|rfl|(simp [errW_none,errW_some]<;>rfl)|(simp [*,errW_none,errW_some]<;>rfl),by first|exact Kd.R_nil _ _ _ _ _|exact Kd.N_nil _ _ _ _ _|exact Kd.V_nil _ _ _ _ _|exact Kd.Q_nil _ _ _ _ _|exact Kd.S_nil _ _ _ _ _,zl1_ HB GE1⟩
    rw [if_neg c15] at H;have c15b0:=decide_eq_false c15;clear c15;by_cases c18:x9_1=true
    ·subst c18;rw [if_pos rfl] at H;have H':=Aside0.mk H;clear H;obtain ⟨Ao19,co19,eo19⟩:=Kd.R_slice HO_8.out;subst eo19;obtain ⟨p6,q6,ad6,e6,hx6_0,hx6_1,hx6_2,hx6_3,hx6_4⟩:=zat_ (at_T39 (Kd.R_reads' HO_8.out).2.2 x10_1);cases e6;try go_wp2_with (first|((with_reducible refine gate_callee (f:=52) rfl ?_);refine gl_ (some 42) Try.func52 #[.slice A2 l2.length c2, .string ((rd_T39 t3 x10_1).f0)] ?_;(with_reducible refine (r10_Find.calls k1 _ _ l2 ((rd_T39 t3 x10_1).f0) t7 _ ?side1 ?side2 A12.out).mono ?_);(case side1=>exact zc_ (Kd.C_below HR2.out HB.out));(case side2=>exact HC2.out);rintro e w' ⟨rfl,⟨nd,rfl⟩⟩;refine ⟨_,rfl, ?_⟩;have p8:0≤(x10_1:Int):=of_decide_eq_true zq_;have q8:x10_1<(t3.length:Int):=of_decide_eq_true zq_;obtain ⟨ad8,e8,hx8_0,hx8_1,hx8_2,hx8_3,hx8_4⟩:=at_T39 (Kd.R_reads' HO_8.out).2.2 x10_1 p8 q8;obtain rfl:ad6=ad8:=(by injection e8);replace p8:=eq_true p8;replace q8:=eq_true q8)|(go_at_call 85;(with_reducible refine (r16_marked.calls k1 _ _ l1 ((rd_T39 t3 x10_1).f0) t9 _ ?side1 ?side2 A14.out).mono ?_);(case side1=>repeat (first|exact (Kd.C_below HR1.out (zl1_ HB GE1))|(with_reducible refine Kd.C_alloc ?_ _)|(with_reducible refine Kd.C_drewN ?_ _)|(with_reducible refine Kd.C_drew ?_)));(case side2=>exact HC1.out);rintro e w' ⟨rfl,⟨nd,rfl⟩⟩))
     (try (rw [drewN_self wr];generalize hq_:World.drewN wr _=wr;replace HO_8:=am_ (qr_ hq_ HO_8.out);replace BK1:=am_ (qb_ hq_ BK1.out);replace HB:=am_ (ql_ hq_ HB.out);clear hq_));replace HO_8:=am_ (Kd.R_drew HO_8.out);replace BK1:=am_ (blk_drew BK1.out);replace HB:=am_ (below_drew1 HB.out);refine start_ (n:=19) (S:=fun w'=>True) (ds:=[]) (bs_ 19 0) (by kernel_rfl) rfl rfl trivial (fun hHeld=> ?_);refine with_tabW r16_Steps.tab12 r16_Steps.bits12 (fun HT_ HW_=> ?_);generalize wr.drew=w20 at HO_8 BK1 HB hHeld ⊢;(iterate 19 first|refine qn_ HT_ ?_|refine qu_ HT_ ?_);refine done_ (done_of HT_.out (by kernel_rfl)) ?_;try go_wp2
     go_roundg k1
     case measure=>have:=HK1.out;omega
     case rel=>exact ⟨(true),(wrap64 (x10_1+1)),(x2001_1),rf_,rf_,H',⟨by have:=HK1.out;omega⟩,am_ (zr_ HO_8),am_ (zb_ BK1),⟨zl1_ HB GE1⟩⟩
    replace c18:=Bool.eq_false_iff.mpr c18;subst c18;rw [if_neg (show¬(false=true) by decide)] at H;replace H:=zif_ H;obtain ⟨c21,H⟩:=H;have c21b0:=decide_eq_true c21;clear c21;replace H:=zif_ H;obtain ⟨c22,H⟩:=H;have c22b0:=decide_eq_true c22;clear c22;have H':=Aside0.mk H;clear H;obtain ⟨Ao23,co23,eo23⟩:=Kd.R_slice HO_8.out;subst eo23;obtain ⟨p6,q6,ad6,e6,hx6_0,hx6_1,hx6_2,hx6_3,hx6_4⟩:=zat_ (at_T39 (Kd.R_reads' HO_8.out).2.2 x10_1);cases e6;try go_wp2_with (first|((with_reducible refine gate_callee (f:=52) rfl ?_);refine gl_ (some 42) Try.func52 #[.slice A2 l2.length c2, .string ((rd_T39 t3 x10_1).f0)] ?_;(with_reducible refine (r10_Find.calls k1 _ _ l2 ((rd_T39 t3 x10_1).f0) t7 _ ?side1 ?side2 A12.out).mono ?_);(case side1=>exact zc_ (Kd.C_below HR2.out HB.out));(case side2=>exact HC2.out);rintro e w' ⟨rfl,⟨nd,rfl⟩⟩;refine ⟨_,rfl, ?_⟩;have p8:0≤(x10_1:Int):=of_decide_eq_true zq_;have q8:x10_1<(t3.length:Int):=of_decide_eq_true zq_;obtain ⟨ad8,e8,hx8_0,hx8_1,hx8_2,hx8_3,hx8_4⟩:=at_T39 (Kd.R_reads' HO_8.out).2.2 x10_1 p8 q8;obtain rfl:ad6=ad8:=(by injection e8);replace p8:=eq_true p8;replace q8:=eq_true q8)|(go_at_call 85;(with_reducible refine (r16_marked.calls k1 _ _ l1 ((rd_T39 t3 x10_1).f0) t9 _ ?side1 ?side2 A14.out).mono ?_);(case side1=>repeat (first|exact (Kd.C_below HR1.out (zl1_ HB GE1))|(with_reducible refine Kd.C_alloc ?_ _)|(with_reducible refine Kd.C_drewN ?_ _)|(with_reducible refine Kd.C_drew ?_)));(case side2=>exact HC1.out);rintro e w' ⟨rfl,⟨nd,rfl⟩⟩))
    (try (rw [drewN_self wr];generalize hq_:World.drewN wr _=wr;replace HO_8:=am_ (qr_ hq_ HO_8.out);replace BK1:=am_ (qb_ hq_ BK1.out);replace HB:=am_ (ql_ hq_ HB.out);clear hq_));replace HO_8:=am_ (Kd.R_drew HO_8.out);replace BK1:=am_ (blk_drew BK1.out);replace HB:=am_ (below_drew1 HB.out);have p10:0≤(t7:Int):=of_decide_eq_true zq_;have q10:t7<(l2.length:Int):=of_decide_eq_true zq_;obtain ⟨ad10,e10,hx10_0,hx10_1,hx10_2,hx10_3,hx10_4,hx10_5,hx10_6,hx10_7,hx10_8,hx10_9,hx10_10,hx10_11⟩:=at_T79 HR2.out t7 p10 q10;have hw10_1:=hx10_1;cases e10;replace hx10_0:=zx12_ HB hx10_0 hx10_1 hx10_2 hx10_3 hx10_4 hx10_5 hx10_6 hx10_7 hx10_8 hx10_9 hx10_10 hx10_11;clear hx10_1 hx10_2 hx10_3 hx10_4 hx10_5 hx10_6 hx10_7 hx10_8 hx10_9 hx10_10 hx10_11;obtain ⟨hx10_0,hx10_1,hx10_2,hx10_3,hx10_4,hx10_5,hx10_6,hx10_7,hx10_8,hx10_9,hx10_10,hx10_11⟩:=hx10_0;replace p10:=eq_true p10;replace q10:=eq_true q10;obtain ⟨p11,q11,ad11,e11,hx11_0,hx11_1,hx11_2,hx11_3,hx11_4⟩:=zat_ (at_T39 (Kd.R_reads' HO_8.out).2.2 x10_1);obtain rfl:ad6=ad11:=(by injection e11);refine start_ (n:=19) (S:=fun w'=>w'.cell? ⟨(ad10.add ((t7).toNat*12)).block,(ad10.add ((t7).toNat*12)).off+1,none⟩=some (.string ((rd_T79 l2 t7).f1))∧w'.cell? ⟨(ad6.add ((x10_1).toNat*5)).block,(ad6.add ((x10_1).toNat*5)).off+1,none⟩=some (.string ((rd_T39 t3 x10_1).f1))) (ds:=[]) (bt_ 19 0) (by kernel_rfl) rfl rfl ⟨(zx_ HB hw10_1:),hx11_1⟩ (fun hHeld=> ?_);refine with_tabW r16_Steps.tab12 r16_Steps.bits12 (fun HT_ HW_=> ?_)
    generalize wr.drew=w24 at HO_8 BK1 HB hx10_0 hx10_1 hx10_10 hx10_11 hx10_2 hx10_3 hx10_4 hx10_5 hx10_6 hx10_7 hx10_8 hx10_9 hx11_0 hx11_1 hx11_2 hx11_3 hx11_4 hHeld ⊢;refine ru_ 0 HT_ ?_;refine ru_ 1 HT_ ?_;refine ru_ 2 HT_ ?_;refine ru_ 3 HT_ ?_;refine ru_ 4 HT_ ?_;refine ru_ 5 HT_ ?_;refine ru_ 6 HT_ ?_;refine ru_ 7 HT_ ?_;refine ru_ 8 HT_ ?_;refine ru_ 10 HT_ ?_;refine ru_ 11 HT_ ?_;refine ru_ 12 HT_ ?_;refine ru_ 13 HT_ ?_;refine rk_ 9 HT_ HW_ hHeld ?_;refine rk_ 14 HT_ HW_ hHeld ?_;refine ru_ 15 HT_ ?_;refine ru_ 16 HT_ ?_;refine ru_ 17 HT_ ?_;refine ru_ 18 HT_ ?_;refine done_ (done_of HT_.out (by kernel_rfl)) ?_;try go_wp2
    go_roundg k1
    case measure=>have:=HK1.out;omega
    case rel=>exact ⟨((((rd_T79 l2 t7).f1).toList !=((rd_T39 t3 x10_1).f1).toList)),(wrap64 (x10_1+1)),(x2001_1),rf_,rf_,H',⟨by have:=HK1.out;omega⟩,am_ (zr_ HO_8),am_ (zb_ BK1),⟨zl1_ HB GE1⟩⟩
   rw [if_neg c10] at H;have c10b0:=decide_eq_false c10;clear c10;have H':=Aside0.mk H;clear H;obtain ⟨Ao30,co30,eo30⟩:=Kd.R_slice HO_8.out;subst eo30;go_wp2
   go_loopg [12,13] k1 (fun kq v12 v13 w'=> ∃(x12_2:List (S76)) (x13_2:Int),v13= .int .i64 x13_2∧Aside0 (r16_Steps.l1 kq l0 l1 l2 t3 x9_1 x12_2 x13_2=some (r1,r2))∧Aside0 (kq≤k1)∧Aside0 (Kd.R k39 39 w' w.heap.size (fun _=>True) (.slice Ao30 t3.length co30) t3)∧Aside0 (Kd.R k76 76 w' w.heap.size (fun _=>True) v12 x12_2)∧Aside0 (w'.heap[gb1]?=some (.cells #[(.slice none 0 0), .int .i64 x2001_1] 51 (0,0)))∧Aside0 (Below w.heap.size w w'))
   case atStart=>exact ⟨(([]:List (S76))),(0),rf_,H',⟨Nat.le_refl _⟩,am_ (zr_ HO_8),⟨by first|exact Kd.R_nil _ _ _ _ _|exact Kd.N_nil _ _ _ _ _|exact Kd.V_nil _ _ _ _ _|exact Kd.Q_nil _ _ _ _ _|exact Kd.S_nil _ _ _ _ _⟩,am_ (zb_ BK1),⟨zl1_ HB GE1⟩⟩
   case round=>
    clear H';obtain ⟨x12_2,x13_2,rfl,HA,HK2,HO_8,HO_12,BK1,HB⟩:=hrel
    cases gk with
    |zero=>exact absurd HA.out (by simp [r16_Steps.l1])
    |succ k2=>
     have H:=HA.out;clear HA;simp only [r16_Steps.l1] at H;by_cases c31:x13_2<(t3.length:Int)
     ·rw [if_pos c31] at H;have c31b0:=decide_eq_true c31;clear c31;replace H:=zif_ H;obtain ⟨c32,H⟩:=H;have c32b0:=decide_eq_true c32;clear c32;replace H:=zbd_ H;obtain ⟨t14,A33,H⟩:=H;try dsimp only at H
      replace H:=zbd_ H;obtain ⟨⟨t15,t16,t17⟩,A34,H⟩:=H;try dsimp only at H
      by_cases c35:t14<0
      ·rw [if_pos c35] at H;have c35b0:=decide_eq_true c35;clear c35;replace H:=zif_ H;obtain ⟨c36,H⟩:=H;have LMc36:=Aside0.mk c36;clear c36;obtain ⟨y19,hy19⟩: ∃y_:List (S76),y_=(x12_2++ [(⟨1,(rd_T39 t3 x13_2).f0,(rd_T39 t3 x13_2).f1,(⟨t15,t16,t17⟩:S37)⟩:S76)]):=⟨_,rfl⟩;(first|replace H:=zsb_ hy19 H|rw [←hy19] at H);have Ny19:=Aside0.mk hy19;clear hy19;have H':=Aside0.mk H;clear H;obtain ⟨p12,q12,ad12,e12,hx12_0,hx12_1,hx12_2,hx12_3,hx12_4⟩:=zat_ (at_T39 (Kd.R_reads' HO_8.out).2.2 x13_2);cases e12
       go_wp2_with (first|((with_reducible refine gate_dst (N:=14) rfl ?_);refine bx_ (N:=14) (cs:=#[.string (⟨#[]⟩:ByteArray), .string (⟨#[]⟩:ByteArray), .int .i64 0, .int .i64 0, .int .i64 0]) (t:=39) ?_;intro gb13 hg w37 hbox hb;replace HO_8:=am_ (Kd.R_below (Kd.R_elderB (zr_ HO_8) gb13 (Nat.le_of_eq hg.symm)) hb);replace HO_12:=ob_ HO_12 hb;have BK13:=am_ (hbox);have GE13:=am_ ((zg1_ HB GE1 hg:w.heap.size≤gb13));replace HB:=am_ (below_step (zl1_ HB GE1) hb);have NB1_13:=am_ ((zn_ BK1 hg:gb1≠gb13));have NB13_1:=am_ ((zm_ BK1 hg:gb13≠gb1));replace BK1:=bb_ BK1 hb;clear hb hbox hg;have hnb38:=NB13_1.out;have hnc38:=NB1_13.out;obtain ⟨hcz39_0,hcz39_1,hcz39_2,hcz39_3,hcz39_4⟩:=x5_ BK13;have hfz39_0:=blk_frozen BK13.out 0;have hfz39_1:=blk_frozen BK13.out 1;have hfz39_2:=blk_frozen BK13.out 2;have hfz39_3:=blk_frozen BK13.out 3;have hfz39_4:=blk_frozen BK13.out 4)|((with_reducible refine gate_callee (f:=52) rfl ?_);refine gl_ (some 87) Try.func52 #[.slice A2 l2.length c2, .string ((rd_T39 t3 x13_2).f0)] ?_;(with_reducible refine (r10_Find.calls k2 _ _ l2 ((rd_T39 t3 x13_2).f0) t14 _ ?side1 ?side2 A33.out).mono ?_);(case side1=>exact Kd.C_below HR2.out (zl2_ HB GE1 GE13));(case side2=>exact HC2.out);rintro e w' ⟨rfl,⟨nd,rfl⟩⟩;refine ⟨_,rfl, ?_⟩)|((with_reducible refine gate_callee (f:=86) rfl ?_);refine gl_ (some 91) Try.func86 #[.agg #[.string ((rd_T39 t3 x13_2).f0), .string ((rd_T39 t3 x13_2).f1), .int .i64 ((rd_T39 t3 x13_2).f2.f0), .int .i64 ((rd_T39 t3 x13_2).f2.f1), .int .i64 ((rd_T39 t3 x13_2).f2.f2)], .slice A2 l2.length c2, .bool x9_1] ?_;(with_reducible refine (r16_up.calls k2 ((rd_T39 t3 x13_2).f0) ((rd_T39 t3 x13_2).f1) ((rd_T39 t3 x13_2).f2.f0) ((rd_T39 t3 x13_2).f2.f1) ((rd_T39 t3 x13_2).f2.f2) _ _ l2 x9_1 t15 t16 t17 _ ?side1 ?side2 A34.out).mono ?_);(case side1=>exact Kd.C_below HR2.out (zl2_ HB GE1 GE13));(case side2=>exact HC2.out);rintro e w40 ⟨rfl,hb⟩;refine ⟨_,rfl, ?_⟩;replace HO_8:=am_ (Kd.R_below (by refine zt_ ?_;exact (zu2_ gb13 HO_8)) hb);replace HO_12:=am_ (Kd.R_below (by refine zt_ ?_;exact (zv2_ HO_12 BK13)) hb);replace BK1:=am_ (blk_below (g:=gb1) (o:= .cells #[.slice none 0 0, .int .i64 x2001_1] 51 (0,0)) (zw_ BK1) hb);replace BK13:=am_ (blk_below (g:=gb13) (o:= .cells #[.string ((rd_T39 t3 x13_2).f0), .string ((rd_T39 t3 x13_2).f1), .int .i64 ((rd_T39 t3 x13_2).f2.f0), .int .i64 ((rd_T39 t3 x13_2).f2.f1), .int .i64 ((rd_T39 t3 x13_2).f2.f2)] 39 (0,0)) (zw_ BK13) hb);replace HB:=am_ (below_step (zl2_ HB GE1 GE13) hb);(try clear hb))|((with_reducible refine gate_dst (N:=16) rfl ?_);refine bx_ (N:=16) (cs:=#[.int .i64 0, .int .i64 0, .int .i64 0]) (t:=37) ?_;intro gb18 hg w41 hbox hb;replace HO_8:=ob_ HO_8 hb;replace HO_12:=ob_ HO_12 hb;have BK18:=am_ (hbox);have GE18:=am_ ((zg2_ HB GE1 GE13 hg:w.heap.size≤gb18));replace HB:=am_ (below_step (zl2_ HB GE1 GE13) hb);have NB1_18:=am_ ((zn_ BK1 hg:gb1≠gb18));have NB18_1:=am_ ((zm_ BK1 hg:gb18≠gb1));replace BK1:=bb_ BK1 hb;have NB13_18:=am_ ((zn_ BK13 hg:gb13≠gb18));have NB18_13:=am_ ((zm_ BK13 hg:gb18≠gb13));replace BK13:=bb_ BK13 hb;clear hb hbox hg;have hnb42:=NB18_1.out;have hnc42:=NB1_18.out;have hnb43:=NB18_13.out;have hnc43:=NB13_18.out;obtain ⟨hcz44_0,hcz44_1,hcz44_2,hfz44_0,hfz44_1,hfz44_2⟩:=y3_ BK18;obtain ⟨hcz45_0,hcz45_1,hcz45_2,hcz45_3,hcz45_4⟩:=x5_ BK13;have hfz45_0:=blk_frozen BK13.out 0;have hfz45_1:=blk_frozen BK13.out 1;have hfz45_2:=blk_frozen BK13.out 2;have hfz45_3:=blk_frozen BK13.out 3;have hfz45_4:=blk_frozen BK13.out 4)|((with_reducible refine gate_builtin (b:= .append) (xs:=#[.tmp 94, .tmp 101]) rfl ?_);at_builtin;refine Kd.R_append k76 (w0:=w) w.heap.size rfl (.tmp 94) (.tmp 101) 49 76 (.agg #[(.int .i64 0),(.string ⟨#[]⟩),(.string ⟨#[]⟩),(.int .i64 0),(.int .i64 0),(.int .i64 0)]) 64 rfl Try.underlying49 info76 rfl (by decide) (by omega) u12 x12_2 (⟨1,(rd_T39 t3 x13_2).f0,(rd_T39 t3 x13_2).f1,(⟨t15,t16,t17⟩:S37)⟩:S76) [.int .i64 1, .string ((rd_T39 t3 x13_2).f0), .string ((rd_T39 t3 x13_2).f1), .int .i64 t15, .int .i64 t16, .int .i64 t17] (fun _=>True) (fun _=>False) rfl (by first|(go_simp;done)|(go_simp;rfl)) ?aP (fun _ hk=>hk.elim) ?aF ?aO ?aB ?aS ?aL ?_;(case aP=>exact k76_mkM _ _ _ (⟨1,(rd_T39 t3 x13_2).f0,(rd_T39 t3 x13_2).f1,(⟨t15,t16,t17⟩:S37)⟩:S76));(case aB=>exact (zl3_ HB GE1 GE13 GE18));(case aF=>exact (fun _ _=>trivial));(case aO=>exact (by refine zt_ ?_;exact zy_ HO_12 BK18));(case aS=>exact (below_size (zl3_ HB GE1 GE13 GE18)));(case aL=>have:=LMc36.out;omega);intro v20 w46 ho hb hg hat;rw [←Ny19.out] at ho;have n0_:=am_ (Kd.R_over' (by refine zt_ ?_;exact (zv2_ HO_8 BK18)) (Kd.R_typed (by refine zt_ ?_;exact (zv2_ HO_12 BK18))) (by decide) hg);have n1_:=am_ (blk_grown (g:=gb1) (o:= .cells #[.slice none 0 0, .int .i64 x2001_1] 51 (0,0)) (zw_ BK1) hg (Kd.R_ne HO_12.out BK1.out (by decide)));have n2_:=am_ (blk_grown (g:=gb13) (o:= .cells #[.string ((rd_T39 t3 x13_2).f0), .string ((rd_T39 t3 x13_2).f1), .int .i64 ((rd_T39 t3 x13_2).f2.f0), .int .i64 ((rd_T39 t3 x13_2).f2.f1), .int .i64 ((rd_T39 t3 x13_2).f2.f2)] 39 (0,0)) (zw_ BK13) hg (Kd.R_ne HO_12.out BK13.out (by decide)));have n3_:=am_ (blk_grown (g:=gb18) (o:= .cells #[.int .i64 t15, .int .i64 t16, .int .i64 t17] 37 (0,0)) (zw_ BK18) hg (Kd.R_ne HO_12.out BK18.out (by decide)));have n4_:=am_ (hb);have n5_:=am_ (ho);clear HO_8;clear BK1;clear BK13;clear BK18;clear HB;clear HO_12;have HO_8:=n0_;have BK1:=n1_;have BK13:=n2_;have BK18:=n3_;have HB:=n4_;have HO21:=n5_;clear n0_ n1_ n2_ n3_ n4_ n5_;clear ho hb hg hat))
       go_roundg k2
       case measure=>have:=HK1.out;have:=HK2.out;omega
       case rel=>exact ⟨(y19),(wrap64 (x13_2+1)),rf_,H',⟨by have:=HK1.out;have:=HK2.out;omega⟩,⟨by (with_reducible repeat (first|apply Kd.R_alloc|apply Kd.R_drewN|apply Kd.R_drew));exact Kd.R_mono HO_8.out (fun _ hk=>trivial)⟩,am_ (zr_ HO21),am_ (zb_ BK1),⟨zl3_ HB GE1 GE13 GE18⟩⟩
      rw [if_neg c35] at H;have c35b0:=decide_eq_false c35;clear c35;replace H:=zif_ H;obtain ⟨c47,H⟩:=H;have c47b0:=decide_eq_true c47;clear c47;replace H:=zif_ H;obtain ⟨c48,H⟩:=H;have c48b0:=decide_eq_true c48;clear c48;by_cases c49:(!(((rd_T79 l2 t14).f2.f0)==t15)||(!(((rd_T79 l2 t14).f2.f1)==t16)||(!(((rd_T79 l2 t14).f2.f2)==t17))))=true;rotate_left
      ·rw [if_neg c49] at H;have c49b0:(!(((rd_T79 l2 t14).f2.f0)==t15)||(!(((rd_T79 l2 t14).f2.f1)==t16)||(!(((rd_T79 l2 t14).f2.f2)==t17))))=false:=by simpa using c49
       clear c49;have H':=Aside0.mk H;clear H;obtain ⟨p12,q12,ad12,e12,hx12_0,hx12_1,hx12_2,hx12_3,hx12_4⟩:=zat_ (at_T39 (Kd.R_reads' HO_8.out).2.2 x13_2);cases e12
       try go_wp2_with (first|((with_reducible refine gate_dst (N:=14) rfl ?_);refine bx_ (N:=14) (cs:=#[.string (⟨#[]⟩:ByteArray), .string (⟨#[]⟩:ByteArray), .int .i64 0, .int .i64 0, .int .i64 0]) (t:=39) ?_;intro gb13 hg w64 hbox hb;replace HO_8:=am_ (Kd.R_below (Kd.R_elderB (zr_ HO_8) gb13 (Nat.le_of_eq hg.symm)) hb);replace HO_12:=ob_ HO_12 hb;have BK13:=am_ (hbox);have GE13:=am_ ((zg1_ HB GE1 hg:w.heap.size≤gb13));replace HB:=am_ (below_step (zl1_ HB GE1) hb);have NB1_13:=am_ ((zn_ BK1 hg:gb1≠gb13));have NB13_1:=am_ ((zm_ BK1 hg:gb13≠gb1));replace BK1:=bb_ BK1 hb;clear hb hbox hg;have hnb65:=NB13_1.out;have hnc65:=NB1_13.out;obtain ⟨hcz66_0,hcz66_1,hcz66_2,hcz66_3,hcz66_4⟩:=x5_ BK13;have hfz66_0:=blk_frozen BK13.out 0;have hfz66_1:=blk_frozen BK13.out 1;have hfz66_2:=blk_frozen BK13.out 2;have hfz66_3:=blk_frozen BK13.out 3;have hfz66_4:=blk_frozen BK13.out 4)|((with_reducible refine gate_callee (f:=52) rfl ?_);refine gl_ (some 87) Try.func52 #[.slice A2 l2.length c2, .string ((rd_T39 t3 x13_2).f0)] ?_;(with_reducible refine (r10_Find.calls k2 _ _ l2 ((rd_T39 t3 x13_2).f0) t14 _ ?side1 ?side2 A33.out).mono ?_);(case side1=>exact Kd.C_below HR2.out (zl2_ HB GE1 GE13));(case side2=>exact HC2.out);rintro e w' ⟨rfl,⟨nd,rfl⟩⟩;refine ⟨_,rfl, ?_⟩)|((with_reducible refine gate_callee (f:=86) rfl ?_);refine gl_ (some 91) Try.func86 #[.agg #[.string ((rd_T39 t3 x13_2).f0), .string ((rd_T39 t3 x13_2).f1), .int .i64 ((rd_T39 t3 x13_2).f2.f0), .int .i64 ((rd_T39 t3 x13_2).f2.f1), .int .i64 ((rd_T39 t3 x13_2).f2.f2)], .slice A2 l2.length c2, .bool x9_1] ?_;(with_reducible refine (r16_up.calls k2 ((rd_T39 t3 x13_2).f0) ((rd_T39 t3 x13_2).f1) ((rd_T39 t3 x13_2).f2.f0) ((rd_T39 t3 x13_2).f2.f1) ((rd_T39 t3 x13_2).f2.f2) _ _ l2 x9_1 t15 t16 t17 _ ?side1 ?side2 A34.out).mono ?_);(case side1=>exact Kd.C_below HR2.out (zl2_ HB GE1 GE13));(case side2=>exact HC2.out);rintro e w67 ⟨rfl,hb⟩;refine ⟨_,rfl, ?_⟩;replace HO_8:=am_ (Kd.R_below (by refine zt_ ?_;exact (zu2_ gb13 HO_8)) hb);replace HO_12:=am_ (Kd.R_below (by refine zt_ ?_;exact (zv2_ HO_12 BK13)) hb);replace BK1:=am_ (blk_below (g:=gb1) (o:= .cells #[.slice none 0 0, .int .i64 x2001_1] 51 (0,0)) (zw_ BK1) hb);replace BK13:=am_ (blk_below (g:=gb13) (o:= .cells #[.string ((rd_T39 t3 x13_2).f0), .string ((rd_T39 t3 x13_2).f1), .int .i64 ((rd_T39 t3 x13_2).f2.f0), .int .i64 ((rd_T39 t3 x13_2).f2.f1), .int .i64 ((rd_T39 t3 x13_2).f2.f2)] 39 (0,0)) (zw_ BK13) hb);replace HB:=am_ (below_step (zl2_ HB GE1 GE13) hb);(try clear hb))|((with_reducible refine gate_dst (N:=16) rfl ?_);refine bx_ (N:=16) (cs:=#[.int .i64 0, .int .i64 0, .int .i64 0]) (t:=37) ?_;intro gb18 hg w68 hbox hb;replace HO_8:=ob_ HO_8 hb;replace HO_12:=ob_ HO_12 hb;have BK18:=am_ (hbox);have GE18:=am_ ((zg2_ HB GE1 GE13 hg:w.heap.size≤gb18));replace HB:=am_ (below_step (zl2_ HB GE1 GE13) hb);have NB1_18:=am_ ((zn_ BK1 hg:gb1≠gb18));have NB18_1:=am_ ((zm_ BK1 hg:gb18≠gb1));replace BK1:=bb_ BK1 hb;have NB13_18:=am_ ((zn_ BK13 hg:gb13≠gb18));have NB18_13:=am_ ((zm_ BK13 hg:gb18≠gb13));replace BK13:=bb_ BK13 hb;clear hb hbox hg;have hnb69:=NB18_1.out;have hnc69:=NB1_18.out;have hnb70:=NB18_13.out;have hnc70:=NB13_18.out;obtain ⟨hcz71_0,hcz71_1,hcz71_2⟩:=x3_ BK18;have hfz71_0:=blk_frozen BK18.out 0;have hfz71_1:=blk_frozen BK18.out 1;have hfz71_2:=blk_frozen BK18.out 2))
       have n0_:Aside0 (Kd.R k39 39 (((w68.setCell ⟨gb18,0,none⟩ (.int .i64 t15)).setCell ⟨gb18,1,none⟩ (.int .i64 t16)).setCell ⟨gb18,2,none⟩ (.int .i64 t17)) w.heap.size (fun k_=>k_≠gb13) (.slice (some ad12) t3.length co30) t3):=⟨by (with_reducible repeat (first|apply Kd.R_alloc|apply Kd.R_drewN|apply Kd.R_drew));exact Kd.R_mono (Kd.R_far (p:=⟨gb18,2,none⟩) (Kd.R_far (p:=⟨gb18,1,none⟩) (Kd.R_far (p:=⟨gb18,0,none⟩) (Kd.R_types HO_8.out BK18.out (by decide)) (fun _ hk=>hk.2) (.int .i64 t15)) (fun _ hk=>hk.2) (.int .i64 t16)) (fun _ hk=>hk.2) (.int .i64 t17)) (fun _ hk=>hk.1.2)⟩;have n1_:Aside0 (Kd.R k76 76 (((w68.setCell ⟨gb18,0,none⟩ (.int .i64 t15)).setCell ⟨gb18,1,none⟩ (.int .i64 t16)).setCell ⟨gb18,2,none⟩ (.int .i64 t17)) w.heap.size (fun _=>True) u12 x12_2):=⟨zy_ HO_12 BK18⟩;have n2_:Aside0 ((((w68.setCell ⟨gb18,0,none⟩ (.int .i64 t15)).setCell ⟨gb18,1,none⟩ (.int .i64 t16)).setCell ⟨gb18,2,none⟩ (.int .i64 t17)).heap[gb1]?=some (.cells #[.slice none 0 0, .int .i64 x2001_1] 51 (0,0))):=⟨zw_ BK1⟩;have n3_:Aside0 ((((w68.setCell ⟨gb18,0,none⟩ (.int .i64 t15)).setCell ⟨gb18,1,none⟩ (.int .i64 t16)).setCell ⟨gb18,2,none⟩ (.int .i64 t17)).heap[gb13]?=some (.cells #[.string ((rd_T39 t3 x13_2).f0), .string ((rd_T39 t3 x13_2).f1), .int .i64 ((rd_T39 t3 x13_2).f2.f0), .int .i64 ((rd_T39 t3 x13_2).f2.f1), .int .i64 ((rd_T39 t3 x13_2).f2.f2)] 39 (0,0))):=⟨zw_ BK13⟩
       have n4_:Aside0 ((((w68.setCell ⟨gb18,0,none⟩ (.int .i64 t15)).setCell ⟨gb18,1,none⟩ (.int .i64 t16)).setCell ⟨gb18,2,none⟩ (.int .i64 t17)).heap[gb18]?=some (.cells #[.int .i64 t15, .int .i64 t16, .int .i64 t17] 37 (0,0))):=⟨zw_ BK18⟩;have n5_:Aside0 (Below w.heap.size w (((w68.setCell ⟨gb18,0,none⟩ (.int .i64 t15)).setCell ⟨gb18,1,none⟩ (.int .i64 t16)).setCell ⟨gb18,2,none⟩ (.int .i64 t17))):=⟨zl3_ HB GE1 GE13 GE18⟩;generalize (((w68.setCell ⟨gb18,0,none⟩ (.int .i64 t15)).setCell ⟨gb18,1,none⟩ (.int .i64 t16)).setCell ⟨gb18,2,none⟩ (.int .i64 t17))=w72 at n0_ n1_ n2_ n3_ n4_ n5_ ⊢;have HO_8:=n0_;have HO_12:=n1_;have BK1:=n2_;have BK13:=n3_;have BK18:=n4_;have HB:=n5_;clear n0_ n1_ n2_ n3_ n4_ n5_;replace HO_8:=am_ (Kd.R_drew HO_8.out);replace HO_12:=am_ (Kd.R_drew HO_12.out);replace BK1:=am_ (blk_drew BK1.out);replace BK13:=am_ (blk_drew BK13.out);replace BK18:=am_ (blk_drew BK18.out);replace HB:=am_ (below_drew1 HB.out);have p22:0≤(t14:Int):=of_decide_eq_true zq_;have q22:t14<(l2.length:Int):=of_decide_eq_true zq_;obtain ⟨ad22,e22,hx22_0,hx22_1,hx22_2,hx22_3,hx22_4,hx22_5,hx22_6,hx22_7,hx22_8,hx22_9,hx22_10,hx22_11⟩:=at_T79 HR2.out t14 p22 q22;have hw22_11:=hx22_11;have hw22_10:=hx22_10;have hw22_9:=hx22_9;have hw22_8:=hx22_8;have hw22_7:=hx22_7;have hw22_6:=hx22_6;have hw22_5:=hx22_5;have hw22_4:=hx22_4;have hw22_3:=hx22_3;have hw22_2:=hx22_2;have hw22_1:=hx22_1;have hw22_0:=hx22_0;cases e22
       replace hx22_0:=zx12_ HB hx22_0 hx22_1 hx22_2 hx22_3 hx22_4 hx22_5 hx22_6 hx22_7 hx22_8 hx22_9 hx22_10 hx22_11;clear hx22_1 hx22_2 hx22_3 hx22_4 hx22_5 hx22_6 hx22_7 hx22_8 hx22_9 hx22_10 hx22_11;obtain ⟨hx22_0,hx22_1,hx22_2,hx22_3,hx22_4,hx22_5,hx22_6,hx22_7,hx22_8,hx22_9,hx22_10,hx22_11⟩:=hx22_0;replace p22:=eq_true p22;replace q22:=eq_true q22
       refine start_ (n:=7) (S:=fun w'=>w'.cell? ⟨gb18,0,none⟩=some (.int .i64 t15)∧w'.cell? ⟨gb18,1,none⟩=some (.int .i64 t16)∧w'.cell? ⟨gb18,2,none⟩=some (.int .i64 t17)∧w'.cell? (ad22.add ((t14).toNat*12))=some (.string ((rd_T79 l2 t14).f0))∧w'.cell? ⟨(ad22.add ((t14).toNat*12)).block,(ad22.add ((t14).toNat*12)).off+1,none⟩=some (.string ((rd_T79 l2 t14).f1))∧w'.cell? ⟨(ad22.add ((t14).toNat*12)).block,(ad22.add ((t14).toNat*12)).off+2,none⟩=some (.int .i64 ((rd_T79 l2 t14).f2.f0))∧w'.cell? ⟨(ad22.add ((t14).toNat*12)).block,(ad22.add ((t14).toNat*12)).off+3,none⟩=some (.int .i64 ((rd_T79 l2 t14).f2.f1))∧w'.cell? ⟨(ad22.add ((t14).toNat*12)).block,(ad22.add ((t14).toNat*12)).off+4,none⟩=some (.int .i64 ((rd_T79 l2 t14).f2.f2))∧w'.cell? ⟨(ad22.add ((t14).toNat*12)).block,(ad22.add ((t14).toNat*12)).off+5,none⟩=some (.int .i64 ((rd_T79 l2 t14).f3.f0))∧w'.cell? ⟨(ad22.add ((t14).toNat*12)).block,(ad22.add ((t14).toNat*12)).off+6,none⟩=some (.int .i64 ((rd_T79 l2 t14).f3.f1))∧w'.cell? ⟨(ad22.add ((t14).toNat*12)).block,(ad22.add ((t14).toNat*12)).off+7,none⟩=some (.int .i64 ((rd_T79 l2 t14).f3.f2))∧w'.cell? ⟨(ad22.add ((t14).toNat*12)).block,(ad22.add ((t14).toNat*12)).off+8,none⟩=some (.int .i64 ((rd_T79 l2 t14).f4.f0))∧w'.cell? ⟨(ad22.add ((t14).toNat*12)).block,(ad22.add ((t14).toNat*12)).off+9,none⟩=some (.int .i64 ((rd_T79 l2 t14).f4.f1))∧w'.cell? ⟨(ad22.add ((t14).toNat*12)).block,(ad22.add ((t14).toNat*12)).off+10,none⟩=some (.int .i64 ((rd_T79 l2 t14).f4.f2))∧w'.cell? ⟨(ad22.add ((t14).toNat*12)).block,(ad22.add ((t14).toNat*12)).off+11,none⟩=some (.int .i64 ((rd_T79 l2 t14).f5))) (ds:=[]) (bt_ 7 0) (by kernel_rfl) rfl rfl ⟨(blk_cell BK18.out 0).trans rfl,(blk_cell BK18.out 1).trans rfl,(blk_cell BK18.out 2).trans rfl,(zx_ HB hw22_0:),(zx_ HB hw22_1:),(zx_ HB hw22_2:),(zx_ HB hw22_3:),(zx_ HB hw22_4:),(zx_ HB hw22_5:),(zx_ HB hw22_6:),(zx_ HB hw22_7:),(zx_ HB hw22_8:),(zx_ HB hw22_9:),(zx_ HB hw22_10:),(zx_ HB hw22_11:)⟩ (fun hHeld=> ?_)
       generalize w72.drew=w73 at HO_8 HO_12 BK1 BK13 BK18 HB hx22_0 hx22_1 hx22_10 hx22_11 hx22_2 hx22_3 hx22_4 hx22_5 hx22_6 hx22_7 hx22_8 hx22_9 hHeld ⊢;refine pure_ (i:=0) (N:=some 103) (v:= ?_) (a':= ?_) (bt_ 7 1) rfl rfl (by kernel_rfl) (fun _ _ _ h=>h) (Or.inl ⟨by rfl, ?_⟩) ?_ ?_;rotate_left
       ·intro w';go_simp
        with_reducible rfl
       rotate_left
       ·simp only [Act.put,List.setIfInBounds_toArray,List.set_cons_zero,List.set_cons_succ,i64_w,i32_w]
        rfl
       refine pure_ (i:=1) (N:=some 104) (v:= ?_) (a':= ?_) (bt_ 7 3) rfl rfl (by kernel_rfl) (fun _ _ _ h=>h) (Or.inl ⟨by rfl, ?_⟩) ?_ ?_;rotate_left
       ·intro w';go_simp
        with_reducible rfl
       rotate_left
       ·simp only [Act.put,List.setIfInBounds_toArray,List.set_cons_zero,List.set_cons_succ,i64_w,i32_w]
        rfl
       refine pure_ (i:=2) (N:=some 105) (v:= ?_) (a':= ?_) (bt_ 7 7) rfl rfl (by kernel_rfl) (fun _ _ _ h=>h) (Or.inl ⟨by rfl, ?_⟩) ?_ ?_;rotate_left
       ·intro w';go_simp
        with_reducible rfl
       rotate_left
       ·simp only [Act.put,List.setIfInBounds_toArray,List.set_cons_zero,List.set_cons_succ,i64_w,i32_w]
        rfl
       refine pure_ (i:=3) (N:=some 106) (v:= ?_) (a':= ?_) (bt_ 7 15) rfl rfl (by kernel_rfl) (fun _ _ _ h=>h) (Or.inl ⟨by rfl, ?_⟩) ?_ ?_;rotate_left
       ·intro w';go_simp
        with_reducible rfl
       rotate_left
       ·simp only [Act.put,List.setIfInBounds_toArray,List.set_cons_zero,List.set_cons_succ,i64_w,i32_w]
        rfl
       refine take_ (i:=4) (N:=some 107) (v:= ?_) (a':= ?_) (bt_ 7 31) rfl rfl (by kernel_rfl) (fun _ _ _ h=>h) (Or.inl ⟨by rfl, ?_⟩) hHeld ?_ ?_;rotate_left
       ·rintro w' ⟨s0,s1,s2,s3,s4,s5,s6,s7,s8,s9,s10,s11,s12,s13,s14⟩;go_simp
        with_reducible rfl
       rotate_left
       ·simp only [Act.put,List.setIfInBounds_toArray,List.set_cons_zero,List.set_cons_succ,i64_w,i32_w]
        rfl
       refine take_ (i:=5) (N:=some 108) (v:= ?_) (a':= ?_) (bt_ 7 63) rfl rfl (by kernel_rfl) (fun _ _ _ h=>h) (Or.inl ⟨by rfl, ?_⟩) hHeld ?_ ?_;rotate_left
       ·rintro w' ⟨s0,s1,s2,s3,s4,s5,s6,s7,s8,s9,s10,s11,s12,s13,s14⟩;go_simp
        with_reducible rfl
       rotate_left
       ·simp only [Act.put,List.setIfInBounds_toArray,List.set_cons_zero,List.set_cons_succ,i64_w,i32_w]
        rfl
       refine pure_ (i:=6) (N:=some 109) (v:= ?_) (a':= ?_) (bt_ 7 127) rfl rfl (by kernel_rfl) (fun _ _ _ h=>h) (Or.inl ⟨by rfl, ?_⟩) ?_ ?_;rotate_left
       ·intro w';go_simp
        with_reducible rfl
       rotate_left
       ·simp only [Act.put,List.setIfInBounds_toArray,List.set_cons_zero,List.set_cons_succ,i64_w,i32_w]
        rfl
       refine done_ (by kernel_rfl) ?_;try go_wp2
       go_roundg k2
       case measure=>have:=HK1.out;have:=HK2.out;omega
       case rel=>exact ⟨(x12_2),(wrap64 (x13_2+1)),rf_,H',⟨by have:=HK1.out;have:=HK2.out;omega⟩,⟨by (with_reducible repeat (first|apply Kd.R_alloc|apply Kd.R_drewN|apply Kd.R_drew));exact Kd.R_mono HO_8.out (fun _ hk=>trivial)⟩,am_ (zr_ HO_12),am_ (zb_ BK1),⟨zl3_ HB GE1 GE13 GE18⟩⟩
      rw [if_pos c49] at H;have c49b0:(!(((rd_T79 l2 t14).f2.f0)==t15)||(!(((rd_T79 l2 t14).f2.f1)==t16)||(!(((rd_T79 l2 t14).f2.f2)==t17))))=true:=c49;clear c49;replace H:=zif_ H;obtain ⟨c50,H⟩:=H;have LMc50:=Aside0.mk c50;clear c50;obtain ⟨y23,hy23⟩: ∃y_:List (S76),y_=(x12_2++ [(⟨2,(rd_T39 t3 x13_2).f0,(⟨#[]⟩:ByteArray),(⟨t15,t16,t17⟩:S37)⟩:S76)]):=⟨_,rfl⟩;(first|replace H:=zsb_ hy23 H|rw [←hy23] at H);have Ny23:=Aside0.mk hy23;clear hy23;have H':=Aside0.mk H;clear H;obtain ⟨p12,q12,ad12,e12,hx12_0,hx12_1,hx12_2,hx12_3,hx12_4⟩:=zat_ (at_T39 (Kd.R_reads' HO_8.out).2.2 x13_2);cases e12
      try go_wp2_with (first|((with_reducible refine gate_dst (N:=14) rfl ?_);refine bx_ (N:=14) (cs:=#[.string (⟨#[]⟩:ByteArray), .string (⟨#[]⟩:ByteArray), .int .i64 0, .int .i64 0, .int .i64 0]) (t:=39) ?_;intro gb13 hg w51 hbox hb;replace HO_8:=am_ (Kd.R_below (Kd.R_elderB (zr_ HO_8) gb13 (Nat.le_of_eq hg.symm)) hb);replace HO_12:=ob_ HO_12 hb;have BK13:=am_ (hbox);have GE13:=am_ ((zg1_ HB GE1 hg:w.heap.size≤gb13));replace HB:=am_ (below_step (zl1_ HB GE1) hb);have NB1_13:=am_ ((zn_ BK1 hg:gb1≠gb13));have NB13_1:=am_ ((zm_ BK1 hg:gb13≠gb1));replace BK1:=bb_ BK1 hb;clear hb hbox hg;have hnb52:=NB13_1.out;have hnc52:=NB1_13.out;obtain ⟨hcz53_0,hcz53_1,hcz53_2,hcz53_3,hcz53_4⟩:=x5_ BK13;have hfz53_0:=blk_frozen BK13.out 0;have hfz53_1:=blk_frozen BK13.out 1;have hfz53_2:=blk_frozen BK13.out 2;have hfz53_3:=blk_frozen BK13.out 3;have hfz53_4:=blk_frozen BK13.out 4)|((with_reducible refine gate_callee (f:=52) rfl ?_);refine gl_ (some 87) Try.func52 #[.slice A2 l2.length c2, .string ((rd_T39 t3 x13_2).f0)] ?_;(with_reducible refine (r10_Find.calls k2 _ _ l2 ((rd_T39 t3 x13_2).f0) t14 _ ?side1 ?side2 A33.out).mono ?_);(case side1=>exact Kd.C_below HR2.out (zl2_ HB GE1 GE13));(case side2=>exact HC2.out);rintro e w' ⟨rfl,⟨nd,rfl⟩⟩;refine ⟨_,rfl, ?_⟩)|((with_reducible refine gate_callee (f:=86) rfl ?_);refine gl_ (some 91) Try.func86 #[.agg #[.string ((rd_T39 t3 x13_2).f0), .string ((rd_T39 t3 x13_2).f1), .int .i64 ((rd_T39 t3 x13_2).f2.f0), .int .i64 ((rd_T39 t3 x13_2).f2.f1), .int .i64 ((rd_T39 t3 x13_2).f2.f2)], .slice A2 l2.length c2, .bool x9_1] ?_;(with_reducible refine (r16_up.calls k2 ((rd_T39 t3 x13_2).f0) ((rd_T39 t3 x13_2).f1) ((rd_T39 t3 x13_2).f2.f0) ((rd_T39 t3 x13_2).f2.f1) ((rd_T39 t3 x13_2).f2.f2) _ _ l2 x9_1 t15 t16 t17 _ ?side1 ?side2 A34.out).mono ?_);(case side1=>exact Kd.C_below HR2.out (zl2_ HB GE1 GE13));(case side2=>exact HC2.out);rintro e w54 ⟨rfl,hb⟩;refine ⟨_,rfl, ?_⟩;replace HO_8:=am_ (Kd.R_below (by refine zt_ ?_;exact (zu2_ gb13 HO_8)) hb);replace HO_12:=am_ (Kd.R_below (by refine zt_ ?_;exact (zv2_ HO_12 BK13)) hb);replace BK1:=am_ (blk_below (g:=gb1) (o:= .cells #[.slice none 0 0, .int .i64 x2001_1] 51 (0,0)) (zw_ BK1) hb);replace BK13:=am_ (blk_below (g:=gb13) (o:= .cells #[.string ((rd_T39 t3 x13_2).f0), .string ((rd_T39 t3 x13_2).f1), .int .i64 ((rd_T39 t3 x13_2).f2.f0), .int .i64 ((rd_T39 t3 x13_2).f2.f1), .int .i64 ((rd_T39 t3 x13_2).f2.f2)] 39 (0,0)) (zw_ BK13) hb);replace HB:=am_ (below_step (zl2_ HB GE1 GE13) hb);(try clear hb))|((with_reducible refine gate_dst (N:=16) rfl ?_);refine bx_ (N:=16) (cs:=#[.int .i64 0, .int .i64 0, .int .i64 0]) (t:=37) ?_;intro gb18 hg w55 hbox hb;replace HO_8:=ob_ HO_8 hb;replace HO_12:=ob_ HO_12 hb;have BK18:=am_ (hbox);have GE18:=am_ ((zg2_ HB GE1 GE13 hg:w.heap.size≤gb18));replace HB:=am_ (below_step (zl2_ HB GE1 GE13) hb);have NB1_18:=am_ ((zn_ BK1 hg:gb1≠gb18));have NB18_1:=am_ ((zm_ BK1 hg:gb18≠gb1));replace BK1:=bb_ BK1 hb;have NB13_18:=am_ ((zn_ BK13 hg:gb13≠gb18));have NB18_13:=am_ ((zm_ BK13 hg:gb18≠gb13));replace BK13:=bb_ BK13 hb;clear hb hbox hg;have hnb56:=NB18_1.out;have hnc56:=NB1_18.out;have hnb57:=NB18_13.out;have hnc57:=NB13_18.out;obtain ⟨hcz58_0,hcz58_1,hcz58_2⟩:=x3_ BK18;have hfz58_0:=blk_frozen BK18.out 0;have hfz58_1:=blk_frozen BK18.out 1;have hfz58_2:=blk_frozen BK18.out 2))
      have n0_:Aside0 (Kd.R k39 39 (((w55.setCell ⟨gb18,0,none⟩ (.int .i64 t15)).setCell ⟨gb18,1,none⟩ (.int .i64 t16)).setCell ⟨gb18,2,none⟩ (.int .i64 t17)) w.heap.size (fun k_=>k_≠gb13) (.slice (some ad12) t3.length co30) t3):=⟨by (with_reducible repeat (first|apply Kd.R_alloc|apply Kd.R_drewN|apply Kd.R_drew));exact Kd.R_mono (Kd.R_far (p:=⟨gb18,2,none⟩) (Kd.R_far (p:=⟨gb18,1,none⟩) (Kd.R_far (p:=⟨gb18,0,none⟩) (Kd.R_types HO_8.out BK18.out (by decide)) (fun _ hk=>hk.2) (.int .i64 t15)) (fun _ hk=>hk.2) (.int .i64 t16)) (fun _ hk=>hk.2) (.int .i64 t17)) (fun _ hk=>hk.1.2)⟩;have n1_:Aside0 (Kd.R k76 76 (((w55.setCell ⟨gb18,0,none⟩ (.int .i64 t15)).setCell ⟨gb18,1,none⟩ (.int .i64 t16)).setCell ⟨gb18,2,none⟩ (.int .i64 t17)) w.heap.size (fun _=>True) u12 x12_2):=⟨zy_ HO_12 BK18⟩;have n2_:Aside0 ((((w55.setCell ⟨gb18,0,none⟩ (.int .i64 t15)).setCell ⟨gb18,1,none⟩ (.int .i64 t16)).setCell ⟨gb18,2,none⟩ (.int .i64 t17)).heap[gb1]?=some (.cells #[.slice none 0 0, .int .i64 x2001_1] 51 (0,0))):=⟨zw_ BK1⟩;have n3_:Aside0 ((((w55.setCell ⟨gb18,0,none⟩ (.int .i64 t15)).setCell ⟨gb18,1,none⟩ (.int .i64 t16)).setCell ⟨gb18,2,none⟩ (.int .i64 t17)).heap[gb13]?=some (.cells #[.string ((rd_T39 t3 x13_2).f0), .string ((rd_T39 t3 x13_2).f1), .int .i64 ((rd_T39 t3 x13_2).f2.f0), .int .i64 ((rd_T39 t3 x13_2).f2.f1), .int .i64 ((rd_T39 t3 x13_2).f2.f2)] 39 (0,0))):=⟨zw_ BK13⟩
      have n4_:Aside0 ((((w55.setCell ⟨gb18,0,none⟩ (.int .i64 t15)).setCell ⟨gb18,1,none⟩ (.int .i64 t16)).setCell ⟨gb18,2,none⟩ (.int .i64 t17)).heap[gb18]?=some (.cells #[.int .i64 t15, .int .i64 t16, .int .i64 t17] 37 (0,0))):=⟨zw_ BK18⟩;have n5_:Aside0 (Below w.heap.size w (((w55.setCell ⟨gb18,0,none⟩ (.int .i64 t15)).setCell ⟨gb18,1,none⟩ (.int .i64 t16)).setCell ⟨gb18,2,none⟩ (.int .i64 t17))):=⟨zl3_ HB GE1 GE13 GE18⟩;generalize (((w55.setCell ⟨gb18,0,none⟩ (.int .i64 t15)).setCell ⟨gb18,1,none⟩ (.int .i64 t16)).setCell ⟨gb18,2,none⟩ (.int .i64 t17))=w59 at n0_ n1_ n2_ n3_ n4_ n5_ ⊢;have HO_8:=n0_;have HO_12:=n1_;have BK1:=n2_;have BK13:=n3_;have BK18:=n4_;have HB:=n5_;clear n0_ n1_ n2_ n3_ n4_ n5_;replace HO_8:=am_ (Kd.R_drew HO_8.out);replace HO_12:=am_ (Kd.R_drew HO_12.out);replace BK1:=am_ (blk_drew BK1.out);replace BK13:=am_ (blk_drew BK13.out);replace BK18:=am_ (blk_drew BK18.out);replace HB:=am_ (below_drew1 HB.out);have p22:0≤(t14:Int):=of_decide_eq_true zq_;have q22:t14<(l2.length:Int):=of_decide_eq_true zq_;obtain ⟨ad22,e22,hx22_0,hx22_1,hx22_2,hx22_3,hx22_4,hx22_5,hx22_6,hx22_7,hx22_8,hx22_9,hx22_10,hx22_11⟩:=at_T79 HR2.out t14 p22 q22;have hw22_11:=hx22_11;have hw22_10:=hx22_10;have hw22_9:=hx22_9;have hw22_8:=hx22_8;have hw22_7:=hx22_7;have hw22_6:=hx22_6;have hw22_5:=hx22_5;have hw22_4:=hx22_4;have hw22_3:=hx22_3;have hw22_2:=hx22_2;have hw22_1:=hx22_1;have hw22_0:=hx22_0;cases e22
      replace hx22_0:=zx12_ HB hx22_0 hx22_1 hx22_2 hx22_3 hx22_4 hx22_5 hx22_6 hx22_7 hx22_8 hx22_9 hx22_10 hx22_11;clear hx22_1 hx22_2 hx22_3 hx22_4 hx22_5 hx22_6 hx22_7 hx22_8 hx22_9 hx22_10 hx22_11;obtain ⟨hx22_0,hx22_1,hx22_2,hx22_3,hx22_4,hx22_5,hx22_6,hx22_7,hx22_8,hx22_9,hx22_10,hx22_11⟩:=hx22_0;replace p22:=eq_true p22;replace q22:=eq_true q22
      refine start_ (n:=7) (S:=fun w'=>w'.cell? ⟨gb18,0,none⟩=some (.int .i64 t15)∧w'.cell? ⟨gb18,1,none⟩=some (.int .i64 t16)∧w'.cell? ⟨gb18,2,none⟩=some (.int .i64 t17)∧w'.cell? (ad22.add ((t14).toNat*12))=some (.string ((rd_T79 l2 t14).f0))∧w'.cell? ⟨(ad22.add ((t14).toNat*12)).block,(ad22.add ((t14).toNat*12)).off+1,none⟩=some (.string ((rd_T79 l2 t14).f1))∧w'.cell? ⟨(ad22.add ((t14).toNat*12)).block,(ad22.add ((t14).toNat*12)).off+2,none⟩=some (.int .i64 ((rd_T79 l2 t14).f2.f0))∧w'.cell? ⟨(ad22.add ((t14).toNat*12)).block,(ad22.add ((t14).toNat*12)).off+3,none⟩=some (.int .i64 ((rd_T79 l2 t14).f2.f1))∧w'.cell? ⟨(ad22.add ((t14).toNat*12)).block,(ad22.add ((t14).toNat*12)).off+4,none⟩=some (.int .i64 ((rd_T79 l2 t14).f2.f2))∧w'.cell? ⟨(ad22.add ((t14).toNat*12)).block,(ad22.add ((t14).toNat*12)).off+5,none⟩=some (.int .i64 ((rd_T79 l2 t14).f3.f0))∧w'.cell? ⟨(ad22.add ((t14).toNat*12)).block,(ad22.add ((t14).toNat*12)).off+6,none⟩=some (.int .i64 ((rd_T79 l2 t14).f3.f1))∧w'.cell? ⟨(ad22.add ((t14).toNat*12)).block,(ad22.add ((t14).toNat*12)).off+7,none⟩=some (.int .i64 ((rd_T79 l2 t14).f3.f2))∧w'.cell? ⟨(ad22.add ((t14).toNat*12)).block,(ad22.add ((t14).toNat*12)).off+8,none⟩=some (.int .i64 ((rd_T79 l2 t14).f4.f0))∧w'.cell? ⟨(ad22.add ((t14).toNat*12)).block,(ad22.add ((t14).toNat*12)).off+9,none⟩=some (.int .i64 ((rd_T79 l2 t14).f4.f1))∧w'.cell? ⟨(ad22.add ((t14).toNat*12)).block,(ad22.add ((t14).toNat*12)).off+10,none⟩=some (.int .i64 ((rd_T79 l2 t14).f4.f2))∧w'.cell? ⟨(ad22.add ((t14).toNat*12)).block,(ad22.add ((t14).toNat*12)).off+11,none⟩=some (.int .i64 ((rd_T79 l2 t14).f5))) (ds:=[]) (bt_ 7 0) (by kernel_rfl) rfl rfl ⟨(blk_cell BK18.out 0).trans rfl,(blk_cell BK18.out 1).trans rfl,(blk_cell BK18.out 2).trans rfl,(zx_ HB hw22_0:),(zx_ HB hw22_1:),(zx_ HB hw22_2:),(zx_ HB hw22_3:),(zx_ HB hw22_4:),(zx_ HB hw22_5:),(zx_ HB hw22_6:),(zx_ HB hw22_7:),(zx_ HB hw22_8:),(zx_ HB hw22_9:),(zx_ HB hw22_10:),(zx_ HB hw22_11:)⟩ (fun hHeld=> ?_)
      generalize w59.drew=w60 at HO_8 HO_12 BK1 BK13 BK18 HB hx22_0 hx22_1 hx22_10 hx22_11 hx22_2 hx22_3 hx22_4 hx22_5 hx22_6 hx22_7 hx22_8 hx22_9 hHeld ⊢;refine pure_ (i:=0) (N:=some 103) (v:= ?_) (a':= ?_) (bt_ 7 1) rfl rfl (by kernel_rfl) (fun _ _ _ h=>h) (Or.inl ⟨by rfl, ?_⟩) ?_ ?_;rotate_left
      ·intro w';go_simp
       with_reducible rfl
      rotate_left
      ·simp only [Act.put,List.setIfInBounds_toArray,List.set_cons_zero,List.set_cons_succ,i64_w,i32_w]
       rfl
      refine pure_ (i:=1) (N:=some 104) (v:= ?_) (a':= ?_) (bt_ 7 3) rfl rfl (by kernel_rfl) (fun _ _ _ h=>h) (Or.inl ⟨by rfl, ?_⟩) ?_ ?_;rotate_left
      ·intro w';go_simp
       with_reducible rfl
      rotate_left
      ·simp only [Act.put,List.setIfInBounds_toArray,List.set_cons_zero,List.set_cons_succ,i64_w,i32_w]
       rfl
      refine pure_ (i:=2) (N:=some 105) (v:= ?_) (a':= ?_) (bt_ 7 7) rfl rfl (by kernel_rfl) (fun _ _ _ h=>h) (Or.inl ⟨by rfl, ?_⟩) ?_ ?_;rotate_left
      ·intro w';go_simp
       with_reducible rfl
      rotate_left
      ·simp only [Act.put,List.setIfInBounds_toArray,List.set_cons_zero,List.set_cons_succ,i64_w,i32_w]
       rfl
      refine pure_ (i:=3) (N:=some 106) (v:= ?_) (a':= ?_) (bt_ 7 15) rfl rfl (by kernel_rfl) (fun _ _ _ h=>h) (Or.inl ⟨by rfl, ?_⟩) ?_ ?_;rotate_left
      ·intro w';go_simp
       with_reducible rfl
      rotate_left
      ·simp only [Act.put,List.setIfInBounds_toArray,List.set_cons_zero,List.set_cons_succ,i64_w,i32_w]
       rfl
      refine take_ (i:=4) (N:=some 107) (v:= ?_) (a':= ?_) (bt_ 7 31) rfl rfl (by kernel_rfl) (fun _ _ _ h=>h) (Or.inl ⟨by rfl, ?_⟩) hHeld ?_ ?_;rotate_left
      ·rintro w' ⟨s0,s1,s2,s3,s4,s5,s6,s7,s8,s9,s10,s11,s12,s13,s14⟩;go_simp
       with_reducible rfl
      rotate_left
      ·simp only [Act.put,List.setIfInBounds_toArray,List.set_cons_zero,List.set_cons_succ,i64_w,i32_w]
       rfl
      refine take_ (i:=5) (N:=some 108) (v:= ?_) (a':= ?_) (bt_ 7 63) rfl rfl (by kernel_rfl) (fun _ _ _ h=>h) (Or.inl ⟨by rfl, ?_⟩) hHeld ?_ ?_;rotate_left
      ·rintro w' ⟨s0,s1,s2,s3,s4,s5,s6,s7,s8,s9,s10,s11,s12,s13,s14⟩;go_simp
       with_reducible rfl
      rotate_left
      ·simp only [Act.put,List.setIfInBounds_toArray,List.set_cons_zero,List.set_cons_succ,i64_w,i32_w]
       rfl
      refine pure_ (i:=6) (N:=some 109) (v:= ?_) (a':= ?_) (bt_ 7 127) rfl rfl (by kernel_rfl) (fun _ _ _ h=>h) (Or.inl ⟨by rfl, ?_⟩) ?_ ?_;rotate_left
      ·intro w';go_simp
       with_reducible rfl
      rotate_left
      ·simp only [Act.put,List.setIfInBounds_toArray,List.set_cons_zero,List.set_cons_succ,i64_w,i32_w]
       rfl
      refine done_ (by kernel_rfl) ?_;obtain ⟨hcz61_0,hcz61_1,hcz61_2,hcz61_3,hcz61_4,hfz61_0,hfz61_1,hfz61_2,hfz61_3,hfz61_4⟩:=y5_ BK13;obtain ⟨hcz62_0,hcz62_1,hcz62_2,hfz62_0,hfz62_1,hfz62_2⟩:=y3_ BK18
      try go_wp2_with (first|((with_reducible refine gate_builtin (b:= .append) (xs:=#[.tmp 110, .tmp 115]) rfl ?_);at_builtin;refine Kd.R_append k76 (w0:=w) w.heap.size rfl (.tmp 110) (.tmp 115) 49 76 (.agg #[(.int .i64 0),(.string ⟨#[]⟩),(.string ⟨#[]⟩),(.int .i64 0),(.int .i64 0),(.int .i64 0)]) 64 rfl Try.underlying49 info76 rfl (by decide) (by omega) u12 x12_2 (⟨2,(rd_T39 t3 x13_2).f0,(⟨#[]⟩:ByteArray),(⟨t15,t16,t17⟩:S37)⟩:S76) [.int .i64 2, .string ((rd_T39 t3 x13_2).f0), .string (⟨#[]⟩:ByteArray), .int .i64 t15, .int .i64 t16, .int .i64 t17] (fun _=>True) (fun _=>False) rfl rfl ?aP (fun _ hk=>hk.elim) ?aF ?aO ?aB ?aS ?aL ?_;(case aP=>exact k76_mkM _ _ _ (⟨2,(rd_T39 t3 x13_2).f0,(⟨#[]⟩:ByteArray),(⟨t15,t16,t17⟩:S37)⟩:S76));(case aB=>exact (zl3_ HB GE1 GE13 GE18));(case aF=>exact (fun _ _=>trivial));(case aO=>exact (zr_ HO_12));(case aS=>exact (below_size (zl3_ HB GE1 GE13 GE18)));(case aL=>have:=LMc50.out;omega);intro v24 w63 ho hb hg hat;rw [←Ny23.out] at ho;have n0_:=am_ (Kd.R_over' (zr_ HO_8) (Kd.R_typed (zr_ HO_12)) (by decide) hg);have n1_:=am_ (blk_grown (zb_ BK1) hg (Kd.R_ne HO_12.out BK1.out (by decide)));have n2_:=am_ (blk_grown (zb_ BK13) hg (Kd.R_ne HO_12.out BK13.out (by decide)));have n3_:=am_ (blk_grown (zb_ BK18) hg (Kd.R_ne HO_12.out BK18.out (by decide)));have n4_:=am_ (hb);have n5_:=am_ (ho);clear HO_8;clear BK1;clear BK13;clear BK18;clear HB;clear HO_12;have HO_8:=n0_;have BK1:=n1_;have BK13:=n2_;have BK18:=n3_;have HB:=n4_;have HO25:=n5_;clear n0_ n1_ n2_ n3_ n4_ n5_;clear ho hb hg hat))
      go_roundg k2
      case measure=>have:=HK1.out;have:=HK2.out;omega
      case rel=>exact ⟨(y23),(wrap64 (x13_2+1)),rf_,H',⟨by have:=HK1.out;have:=HK2.out;omega⟩,⟨by (with_reducible repeat (first|apply Kd.R_alloc|apply Kd.R_drewN|apply Kd.R_drew));exact Kd.R_mono HO_8.out (fun _ hk=>trivial)⟩,am_ (zr_ HO25),am_ (zb_ BK1),⟨zl3_ HB GE1 GE13 GE18⟩⟩
     rw [if_neg c31] at H;have c31b0:=decide_eq_false c31;clear c31;have H':=Aside0.mk H;clear H;go_wp2
     go_loopg [12,17] k2 (fun kq v12 v17 w'=> ∃(x12_3:List (S76)) (x17_3:Int),v17= .int .i64 x17_3∧Aside0 (r16_Steps.l2 kq l0 l1 l2 t3 x9_1 x12_3 x17_3=some (r1,r2))∧Aside0 (kq≤k2)∧Aside0 (Kd.R k39 39 w' w.heap.size (fun _=>True) (.slice Ao30 t3.length co30) t3)∧Aside0 (Kd.R k76 76 w' w.heap.size (fun _=>True) v12 x12_3)∧Aside0 (w'.heap[gb1]?=some (.cells #[(.slice none 0 0), .int .i64 x2001_1] 51 (0,0)))∧Aside0 (Below w.heap.size w w'))
     case atStart=>exact ⟨(x12_2),(0),rf_,H',⟨Nat.le_refl _⟩,am_ (zr_ HO_8),am_ (zr_ HO_12),am_ (zb_ BK1),⟨zl1_ HB GE1⟩⟩
     case round=>
      clear H';obtain ⟨x12_3,x17_3,rfl,HA,HK3,HO_8,HO_12,BK1,HB⟩:=hrel
      cases gk with
      |zero=>exact absurd HA.out (by simp [r16_Steps.l2])
      |succ k3=>
       have H:=HA.out;clear HA;simp only [r16_Steps.l2] at H;by_cases c74:x17_3<(t3.length:Int)
       ·rw [if_pos c74] at H;have c74b0:=decide_eq_true c74;clear c74;replace H:=zif_ H;obtain ⟨c75,H⟩:=H;have c75b0:=decide_eq_true c75;clear c75;replace H:=zbd_ H;obtain ⟨t27,A76,H⟩:=H;try dsimp only at H
        by_cases c77:t27≥0;rotate_left
        ·rw [if_neg c77] at H;have c77b0:decide (0≤t27)=false:=decide_eq_false c77;clear c77;have H':=Aside0.mk H;clear H;obtain ⟨p26,q26,ad26,e26,hx26_0,hx26_1,hx26_2,hx26_3,hx26_4⟩:=zat_ (at_T39 (Kd.R_reads' HO_8.out).2.2 x17_3);cases e26;try go_wp2_with (first|((with_reducible refine gate_callee (f:=52) rfl ?_);refine gl_ (some 129) Try.func52 #[.slice A2 l2.length c2, .string ((rd_T39 t3 x17_3).f0)] ?_;(with_reducible refine (r10_Find.calls k3 _ _ l2 ((rd_T39 t3 x17_3).f0) t27 _ ?side1 ?side2 A76.out).mono ?_);(case side1=>exact zc_ (Kd.C_below HR2.out HB.out));(case side2=>exact HC2.out);rintro e w' ⟨rfl,⟨nd,rfl⟩⟩;refine ⟨_,rfl, ?_⟩))
         (try (rw [drewN_self wr];generalize hq_:World.drewN wr _=wr;replace HO_12:=am_ (qr_ hq_ HO_12.out);replace HO_8:=am_ (qr_ hq_ HO_8.out);replace BK1:=am_ (qb_ hq_ BK1.out);replace HB:=am_ (ql_ hq_ HB.out);clear hq_));replace HO_8:=am_ (Kd.R_drew HO_8.out);replace HO_12:=am_ (Kd.R_drew HO_12.out);replace BK1:=am_ (blk_drew BK1.out);replace HB:=am_ (below_drew1 HB.out);refine start_ (n:=15) (S:=fun w'=>True) (ds:=[]) (bs_ 15 0) (by kernel_rfl) rfl rfl trivial (fun hHeld=> ?_);refine with_tabW r16_Steps.tab28 r16_Steps.bits28 (fun HT_ HW_=> ?_);generalize wr.drew=w86 at HO_8 HO_12 BK1 HB hHeld ⊢;(iterate 15 first|refine qn_ HT_ ?_|refine qu_ HT_ ?_);refine done_ (done_of HT_.out (by kernel_rfl)) ?_;try go_wp2
         go_roundg k3
         case measure=>have:=HK1.out;have:=HK2.out;have:=HK3.out;omega
         case rel=>exact ⟨(x12_3),(wrap64 (x17_3+1)),rf_,H',⟨by have:=HK1.out;have:=HK2.out;have:=HK3.out;omega⟩,am_ (zr_ HO_8),am_ (zr_ HO_12),am_ (zb_ BK1),⟨zl1_ HB GE1⟩⟩
        rw [if_pos c77] at H;have c77b0:decide (0≤t27)=true:=decide_eq_true c77;clear c77;replace H:=zif_ H;obtain ⟨c78,H⟩:=H;have c78b0:=decide_eq_true c78;clear c78;replace H:=zif_ H;obtain ⟨c79,H⟩:=H;have c79b0:=decide_eq_true c79;clear c79;by_cases c80:((rd_T79 l2 t27).f1).toList=((rd_T39 t3 x17_3).f1).toList
        ·rw [if_pos c80] at H;have c80b0:=beq_iff_eq.mpr c80;have c80b1:=bne_eq_false_iff_eq.mpr c80;clear c80;have H':=Aside0.mk H;clear H;obtain ⟨p26,q26,ad26,e26,hx26_0,hx26_1,hx26_2,hx26_3,hx26_4⟩:=zat_ (at_T39 (Kd.R_reads' HO_8.out).2.2 x17_3);cases e26;try go_wp2_with (first|((with_reducible refine gate_callee (f:=52) rfl ?_);refine gl_ (some 129) Try.func52 #[.slice A2 l2.length c2, .string ((rd_T39 t3 x17_3).f0)] ?_;(with_reducible refine (r10_Find.calls k3 _ _ l2 ((rd_T39 t3 x17_3).f0) t27 _ ?side1 ?side2 A76.out).mono ?_);(case side1=>exact zc_ (Kd.C_below HR2.out HB.out));(case side2=>exact HC2.out);rintro e w' ⟨rfl,⟨nd,rfl⟩⟩;refine ⟨_,rfl, ?_⟩))
         (try (rw [drewN_self wr];generalize hq_:World.drewN wr _=wr;replace HO_12:=am_ (qr_ hq_ HO_12.out);replace HO_8:=am_ (qr_ hq_ HO_8.out);replace BK1:=am_ (qb_ hq_ BK1.out);replace HB:=am_ (ql_ hq_ HB.out);clear hq_));replace HO_8:=am_ (Kd.R_drew HO_8.out);replace HO_12:=am_ (Kd.R_drew HO_12.out);replace BK1:=am_ (blk_drew BK1.out);replace HB:=am_ (below_drew1 HB.out);have p28:0≤(t27:Int):=of_decide_eq_true zq_;have q28:t27<(l2.length:Int):=of_decide_eq_true zq_;obtain ⟨ad28,e28,hx28_0,hx28_1,hx28_2,hx28_3,hx28_4,hx28_5,hx28_6,hx28_7,hx28_8,hx28_9,hx28_10,hx28_11⟩:=at_T79 HR2.out t27 p28 q28;have hw28_1:=hx28_1;cases e28;replace hx28_0:=zx12_ HB hx28_0 hx28_1 hx28_2 hx28_3 hx28_4 hx28_5 hx28_6 hx28_7 hx28_8 hx28_9 hx28_10 hx28_11;clear hx28_1 hx28_2 hx28_3 hx28_4 hx28_5 hx28_6 hx28_7 hx28_8 hx28_9 hx28_10 hx28_11;obtain ⟨hx28_0,hx28_1,hx28_2,hx28_3,hx28_4,hx28_5,hx28_6,hx28_7,hx28_8,hx28_9,hx28_10,hx28_11⟩:=hx28_0;replace p28:=eq_true p28;replace q28:=eq_true q28;obtain ⟨p29,q29,ad29,e29,hx29_0,hx29_1,hx29_2,hx29_3,hx29_4⟩:=zat_ (at_T39 (Kd.R_reads' HO_8.out).2.2 x17_3);obtain rfl:ad26=ad29:=(by injection e29)
         refine start_ (n:=15) (S:=fun w'=>w'.cell? ⟨(ad28.add ((t27).toNat*12)).block,(ad28.add ((t27).toNat*12)).off+1,none⟩=some (.string ((rd_T79 l2 t27).f1))∧w'.cell? (ad26.add ((x17_3).toNat*5))=some (.string ((rd_T39 t3 x17_3).f0))∧w'.cell? ⟨(ad26.add ((x17_3).toNat*5)).block,(ad26.add ((x17_3).toNat*5)).off+1,none⟩=some (.string ((rd_T39 t3 x17_3).f1))) (ds:=[]) (bt_ 15 0) (by kernel_rfl) rfl rfl ⟨(zx_ HB hw28_1:),hx29_0,hx29_1⟩ (fun hHeld=> ?_);refine with_tabW r16_Steps.tab28 r16_Steps.bits28 (fun HT_ HW_=> ?_);generalize wr.drew=w81 at HO_8 HO_12 BK1 HB hx28_0 hx28_1 hx28_10 hx28_11 hx28_2 hx28_3 hx28_4 hx28_5 hx28_6 hx28_7 hx28_8 hx28_9 hx29_0 hx29_1 hx29_2 hx29_3 hx29_4 hHeld ⊢;refine ru_ 0 HT_ ?_;refine ru_ 1 HT_ ?_;refine ru_ 2 HT_ ?_;refine ru_ 3 HT_ ?_;refine ru_ 4 HT_ ?_;refine ru_ 5 HT_ ?_;refine ru_ 6 HT_ ?_;refine ru_ 8 HT_ ?_;refine ru_ 9 HT_ ?_;refine ru_ 10 HT_ ?_;refine ru_ 11 HT_ ?_;refine rk_ 7 HT_ HW_ hHeld ?_;refine rk_ 12 HT_ HW_ hHeld ?_;refine ru_ 13 HT_ ?_;refine ru_ 14 HT_ ?_;refine done_ (done_of HT_.out (by kernel_rfl)) ?_;try go_wp2
         go_roundg k3
         case measure=>have:=HK1.out;have:=HK2.out;have:=HK3.out;omega
         case rel=>exact ⟨(x12_3),(wrap64 (x17_3+1)),rf_,H',⟨by have:=HK1.out;have:=HK2.out;have:=HK3.out;omega⟩,am_ (zr_ HO_8),am_ (zr_ HO_12),am_ (zb_ BK1),⟨zl1_ HB GE1⟩⟩
        rw [if_neg c80] at H;have c80b0:=beq_eq_false_iff_ne.mpr c80;have c80b1:=bne_iff_ne.mpr c80;replace H:=zif_ H;obtain ⟨c82,H⟩:=H;have LMc82:=Aside0.mk c82;clear c82;obtain ⟨y32,hy32⟩: ∃y_:List (S76),y_=(x12_3++ [(⟨3,(rd_T39 t3 x17_3).f0,(rd_T39 t3 x17_3).f1,(⟨0,0,0⟩:S37)⟩:S76)]):=⟨_,rfl⟩;(first|replace H:=zsb_ hy32 H|rw [←hy32] at H);have Ny32:=Aside0.mk hy32;clear hy32;have H':=Aside0.mk H;clear H;obtain ⟨p26,q26,ad26,e26,hx26_0,hx26_1,hx26_2,hx26_3,hx26_4⟩:=zat_ (at_T39 (Kd.R_reads' HO_8.out).2.2 x17_3);cases e26;try go_wp2_with (first|((with_reducible refine gate_callee (f:=52) rfl ?_);refine gl_ (some 129) Try.func52 #[.slice A2 l2.length c2, .string ((rd_T39 t3 x17_3).f0)] ?_;(with_reducible refine (r10_Find.calls k3 _ _ l2 ((rd_T39 t3 x17_3).f0) t27 _ ?side1 ?side2 A76.out).mono ?_);(case side1=>exact zc_ (Kd.C_below HR2.out HB.out));(case side2=>exact HC2.out);rintro e w' ⟨rfl,⟨nd,rfl⟩⟩;refine ⟨_,rfl, ?_⟩))
        (try (rw [drewN_self wr];generalize hq_:World.drewN wr _=wr;replace HO_12:=am_ (qr_ hq_ HO_12.out);replace HO_8:=am_ (qr_ hq_ HO_8.out);replace BK1:=am_ (qb_ hq_ BK1.out);replace HB:=am_ (ql_ hq_ HB.out);clear hq_));replace HO_8:=am_ (Kd.R_drew HO_8.out);replace HO_12:=am_ (Kd.R_drew HO_12.out);replace BK1:=am_ (blk_drew BK1.out);replace HB:=am_ (below_drew1 HB.out);have p28:0≤(t27:Int):=of_decide_eq_true zq_;have q28:t27<(l2.length:Int):=of_decide_eq_true zq_;obtain ⟨ad28,e28,hx28_0,hx28_1,hx28_2,hx28_3,hx28_4,hx28_5,hx28_6,hx28_7,hx28_8,hx28_9,hx28_10,hx28_11⟩:=at_T79 HR2.out t27 p28 q28;have hw28_1:=hx28_1;cases e28;replace hx28_0:=zx12_ HB hx28_0 hx28_1 hx28_2 hx28_3 hx28_4 hx28_5 hx28_6 hx28_7 hx28_8 hx28_9 hx28_10 hx28_11;clear hx28_1 hx28_2 hx28_3 hx28_4 hx28_5 hx28_6 hx28_7 hx28_8 hx28_9 hx28_10 hx28_11;obtain ⟨hx28_0,hx28_1,hx28_2,hx28_3,hx28_4,hx28_5,hx28_6,hx28_7,hx28_8,hx28_9,hx28_10,hx28_11⟩:=hx28_0;replace p28:=eq_true p28;replace q28:=eq_true q28;obtain ⟨p29,q29,ad29,e29,hx29_0,hx29_1,hx29_2,hx29_3,hx29_4⟩:=zat_ (at_T39 (Kd.R_reads' HO_8.out).2.2 x17_3);obtain rfl:ad26=ad29:=(by injection e29)
        refine start_ (n:=15) (S:=fun w'=>w'.cell? ⟨(ad28.add ((t27).toNat*12)).block,(ad28.add ((t27).toNat*12)).off+1,none⟩=some (.string ((rd_T79 l2 t27).f1))∧w'.cell? (ad26.add ((x17_3).toNat*5))=some (.string ((rd_T39 t3 x17_3).f0))∧w'.cell? ⟨(ad26.add ((x17_3).toNat*5)).block,(ad26.add ((x17_3).toNat*5)).off+1,none⟩=some (.string ((rd_T39 t3 x17_3).f1))) (ds:=[]) (bt_ 15 0) (by kernel_rfl) rfl rfl ⟨(zx_ HB hw28_1:),hx29_0,hx29_1⟩ (fun hHeld=> ?_);refine with_tabW r16_Steps.tab28 r16_Steps.bits28 (fun HT_ HW_=> ?_);generalize wr.drew=w83 at HO_8 HO_12 BK1 HB hx28_0 hx28_1 hx28_10 hx28_11 hx28_2 hx28_3 hx28_4 hx28_5 hx28_6 hx28_7 hx28_8 hx28_9 hx29_0 hx29_1 hx29_2 hx29_3 hx29_4 hHeld ⊢;refine ru_ 0 HT_ ?_;refine ru_ 1 HT_ ?_;refine ru_ 2 HT_ ?_;refine ru_ 3 HT_ ?_;refine ru_ 4 HT_ ?_;refine ru_ 5 HT_ ?_;refine ru_ 6 HT_ ?_;refine ru_ 8 HT_ ?_;refine ru_ 9 HT_ ?_;refine ru_ 10 HT_ ?_;refine ru_ 11 HT_ ?_;refine rk_ 7 HT_ HW_ hHeld ?_;refine rk_ 12 HT_ HW_ hHeld ?_;refine ru_ 13 HT_ ?_;refine ru_ 14 HT_ ?_;refine done_ (done_of HT_.out (by kernel_rfl)) ?_;try go_wp2
        replace HO_8:=am_ (Kd.R_drew HO_8.out);replace HO_12:=am_ (Kd.R_drew HO_12.out);replace BK1:=am_ (blk_drew BK1.out);replace HB:=am_ (below_drew1 HB.out);obtain ⟨p30,q30,ad30,e30,hx30_0,hx30_1,hx30_2,hx30_3,hx30_4⟩:=zat_ (at_T39 (Kd.R_reads' HO_8.out).2.2 x17_3);obtain rfl:ad26=ad30:=(by injection e30);obtain ⟨p31,q31,ad31,e31,hx31_0,hx31_1,hx31_2,hx31_3,hx31_4⟩:=zat_ (at_T39 (Kd.R_reads' HO_8.out).2.2 x17_3);obtain rfl:ad26=ad31:=(by injection e31);refine start_ (n:=15) (S:=fun w'=>w'.cell? (ad26.add ((x17_3).toNat*5))=some (.string ((rd_T39 t3 x17_3).f0))∧w'.cell? ⟨(ad26.add ((x17_3).toNat*5)).block,(ad26.add ((x17_3).toNat*5)).off+1,none⟩=some (.string ((rd_T39 t3 x17_3).f1))) (ds:=[12,13]) (bt_ 15 0) (by kernel_rfl) rfl rfl ⟨hx30_0,hx30_1⟩ (fun hHeld=> ?_);refine with_tabW r16_Steps.tab29 r16_Steps.bits29 (fun HT_ HW_=> ?_);generalize w83.drew=w84 at HO_8 HO_12 BK1 HB hx30_0 hx30_1 hx30_2 hx30_3 hx30_4 hx31_0 hx31_1 hx31_2 hx31_3 hx31_4 hHeld ⊢;refine ru_ 0 HT_ ?_;refine ru_ 1 HT_ ?_;refine ru_ 2 HT_ ?_;refine ru_ 3 HT_ ?_;refine ru_ 4 HT_ ?_;refine ru_ 6 HT_ ?_;refine ru_ 7 HT_ ?_;refine ru_ 8 HT_ ?_;refine ru_ 9 HT_ ?_;refine rk_ 5 HT_ HW_ hHeld ?_;refine rk_ 10 HT_ HW_ hHeld ?_;refine ru_ 11 HT_ ?_;refine last_ (i:=12) (N:=some 157) (bt_ 15 8191) rfl rfl (one_of HT_.out (by kernel_rfl)) (by decide) (fun K hK=> ?_);refine value_ (w1:= ?_) (v:= ?_) (by rfl) rfl ?_ ?_
        rotate_left 2
        ·go_simp
         constructor
         ·rfl
         rfl
        refine hK.out _ _ ?_;clear hK K;refine no_ (N:=some 157) ?_;refine last_ (i:=13) (N:=some 158) (bt_ 15 16383) rfl rfl (one_of HT_.out (by kernel_rfl)) (by decide) (fun K hK=> ?_);refine Kd.R_append_step k76 (w0:=w) w.heap.size (by rfl) (.tmp 145) (.tmp 157) 49 76 (.agg #[(.int .i64 0),(.string ⟨#[]⟩),(.string ⟨#[]⟩),(.int .i64 0),(.int .i64 0),(.int .i64 0)]) 64 rfl Try.underlying49 info76 rfl (by decide) (by omega) u12 x12_3 (⟨3,(rd_T39 t3 x17_3).f0,(rd_T39 t3 x17_3).f1,(⟨0,0,0⟩:S37)⟩:S76) [.int .i64 3, .string ((rd_T39 t3 x17_3).f0), .string ((rd_T39 t3 x17_3).f1), .int .i64 0, .int .i64 0, .int .i64 0] (fun _=>True) (fun _=>False) rfl rfl ?aP (fun _ hk=>hk.elim) ?aF ?aO ?aB ?aS ?aL ?_;(case aP=>exact k76_mkM _ _ _ (⟨3,(rd_T39 t3 x17_3).f0,(rd_T39 t3 x17_3).f1,(⟨0,0,0⟩:S37)⟩:S76));(case aB=>exact (zl1_ HB GE1));(case aF=>exact (fun _ _=>trivial));(case aO=>exact (zr_ HO_12));(case aS=>exact (below_size (zl1_ HB GE1)));(case aL=>have:=LMc82.out;omega);intro v33 w85 ho hb hg hat;rw [←Ny32.out] at ho;have n0_:=am_ (Kd.R_over' (zr_ HO_8) (Kd.R_typed (zr_ HO_12)) (by decide) hg);have n1_:=am_ (blk_grown (zb_ BK1) hg (Kd.R_ne HO_12.out BK1.out (by decide)));have n2_:=am_ (hb);have n3_:=am_ (ho);clear HO_8 BK1 HB HO_12;have HO_8:=n0_;have BK1:=n1_;have HB:=n2_;have HO34:=n3_;clear n0_ n1_ n2_ n3_ ho hb hg hat;refine hK.out _ _ ?_;clear hK K;refine no_ (N:=some 158) ?_;refine ru_ 14 HT_ ?_;refine done_ (done_of HT_.out (by kernel_rfl)) ?_;try go_wp2
        go_roundg k3
        case measure=>have:=HK1.out;have:=HK2.out;have:=HK3.out;omega
        case rel=>exact ⟨(y32),(wrap64 (x17_3+1)),rf_,H',⟨by have:=HK1.out;have:=HK2.out;have:=HK3.out;omega⟩,am_ (zr_ HO_8),am_ (zr_ HO34),am_ (zb_ BK1),⟨zl1_ HB GE1⟩⟩
       rw [if_neg c74] at H;have c74b0:=decide_eq_false c74;clear c74;have H':=Aside0.mk H;clear H;go_wp2
       go_loopg [12,19] k3 (fun kq v12 v19 w'=> ∃(x12_4:List (S76)) (x19_4:Int),v19= .int .i64 x19_4∧Aside0 (r16_Steps.l3 kq l0 l1 l2 t3 x9_1 x12_4 x19_4=some (r1,r2))∧Aside0 (kq≤k3)∧Aside0 (Kd.R k39 39 w' w.heap.size (fun _=>True) (.slice Ao30 t3.length co30) t3)∧Aside0 (Kd.R k76 76 w' w.heap.size (fun _=>True) v12 x12_4)∧Aside0 (w'.heap[gb1]?=some (.cells #[(.slice none 0 0), .int .i64 x2001_1] 51 (0,0)))∧Aside0 (Below w.heap.size w w'))
       case atStart=>exact ⟨(x12_3),(wrap64 ((t3.length:Int) - 1)),rf_,H',⟨Nat.le_refl _⟩,am_ (zr_ HO_8),am_ (zr_ HO_12),am_ (zb_ BK1),⟨zl1_ HB GE1⟩⟩
       case round=>
        clear H';obtain ⟨x12_4,x19_4,rfl,HA,HK4,HO_8,HO_12,BK1,HB⟩:=hrel
        cases gk with
        |zero=>exact absurd HA.out (by simp [r16_Steps.l3])
        |succ k4=>
         have H:=HA.out;clear HA;simp only [r16_Steps.l3] at H;by_cases c87:x19_4≥0;rotate_left
         ·rw [if_neg c87] at H;have c87b0:decide (0≤x19_4)=false:=decide_eq_false c87;clear c87;replace H:=zbd_ H;obtain ⟨t45,A99,H⟩:=H;try dsimp only at H
          have H':=Aside0.mk H;clear H;go_wp2_with (first|((with_reducible refine gate_callee (f:=87) rfl ?_);refine gl_ (some 196) Try.func87 #[.slice A0 l0.length c0, .slice A1 l1.length c1, .slice A2 l2.length c2] ?_;(with_reducible refine (r16_goes.calls k4 _ _ l0 _ _ l1 _ _ l2 t45 _ ?side1 ?side2 ?side3 ?side4 ?side5 ?side6 A99.out).mono ?_);(case side1=>exact zc_ (Kd.C_below HR0.out HB.out));(case side2=>exact HC0.out);(case side3=>exact zc_ (Kd.C_below HR1.out HB.out));(case side4=>exact HC1.out);(case side5=>exact zc_ (Kd.C_below HR2.out HB.out));(case side6=>exact HC2.out);rintro e w100 ⟨v46,rfl,ho0,hb⟩;refine ⟨_,rfl, ?_⟩;replace HO_8:=ob_ HO_8 hb;replace HO_12:=ob_ HO_12 hb;have HO47:=am_ (Kd.R_lower ho0 (below_size (zl1_ HB GE1)));replace BK1:=bb_ BK1 hb;replace HB:=am_ (below_step (zl1_ HB GE1) hb);(try clear hb ho0)))
          go_loopg [12,21] k4 (fun kq v12 v21 w'=> ∃(x12_5:List (S76)) (x21_5:Int),v21= .int .i64 x21_5∧Aside0 (r16_Steps.l4 kq x12_5 t45 x21_5=some (r1,r2))∧Aside0 (kq≤k4)∧Aside0 (Kd.R k76 76 w' w.heap.size (fun _=>True) v12 x12_5)∧Aside0 (Kd.R Kd.string 9 w' w.heap.size (fun _=>True) v46 t45)∧Aside0 (w'.heap[gb1]?=some (.cells #[(.slice none 0 0), .int .i64 x2001_1] 51 (0,0)))∧Aside0 (Below w.heap.size w w'))
          case atStart=>exact ⟨(x12_4),(0),rf_,H',⟨Nat.le_refl _⟩,am_ (zr_ HO_12),am_ (zr_ HO47),am_ (zb_ BK1),⟨zl1_ HB GE1⟩⟩
          case round=>
           clear H';obtain ⟨x12_5,x21_5,rfl,HA,HK5,HO_12,HO_20,BK1,HB⟩:=hrel
           cases gk with
           |zero=>exact absurd HA.out (by simp [r16_Steps.l4])
           |succ k5=>
            have H:=HA.out;clear HA;simp only [r16_Steps.l4] at H;by_cases c101:x21_5<(t45.length:Int);rotate_left
            ·rw [if_neg c101] at H;have c101b0:=decide_eq_false c101;clear c101;simp only [Option.some.injEq,Prod.mk.injEq] at H;obtain ⟨rfl,rfl⟩:=H;obtain ⟨Ao106,co106,eo106⟩:=Kd.R_slice HO_20.out;subst eo106;obtain ⟨Ao107,co107,eo107⟩:=Kd.R_slice HO_12.out;subst eo107;obtain ⟨hcz108_0,hcz108_1,hfz108_0,hfz108_1⟩:=y2_ BK1;go_wp2
             refine bodyPost_ret (results_cell_row rfl _ _ gb1 51 #[.slice Ao107 x12_5.length co107, .int .i64 0] (0,0) _ rfl (zw_ BK1) Try.underlying51 rfl (by kernel_rfl)) rfl ?_;exact ⟨_,by first|rfl|(simp [errW_none,errW_some]<;>rfl)|(simp [*,errW_none,errW_some]<;>rfl),zy_ HO_12 BK1,zl1_ HB GE1⟩
            rw [if_pos c101] at H;have c101b0:=decide_eq_true c101;clear c101;replace H:=zif_ H;obtain ⟨c102,H⟩:=H;have c102b0:=decide_eq_true c102;clear c102;replace H:=zif_ H;obtain ⟨c103,H⟩:=H;have LMc103:=Aside0.mk c103;clear c103;obtain ⟨y49,hy49⟩: ∃y_:List (S76),y_=(x12_5++ [(⟨4,rdOf ByteArray.empty t45 x21_5,(⟨#[]⟩:ByteArray),(⟨0,0,0⟩:S37)⟩:S76)]):=⟨_,rfl⟩;(first|replace H:=zsb_ hy49 H|rw [←hy49] at H);have Ny49:=Aside0.mk hy49;clear hy49;have H':=Aside0.mk H;clear H;obtain ⟨Ao104,co104,eo104⟩:=Kd.R_slice HO_20.out;subst eo104;obtain ⟨p48,q48,ad48,e48,hx48_0⟩:=zat_ (Kd.at_string (Kd.R_reads' HO_20.out).2.2 x21_5);cases e48
            go_wp2_with (first|((with_reducible refine gate_builtin (b:= .append) (xs:=#[.tmp 203, .tmp 209]) rfl ?_);at_builtin;refine Kd.R_append k76 (w0:=w) w.heap.size rfl (.tmp 203) (.tmp 209) 49 76 (.agg #[(.int .i64 0),(.string ⟨#[]⟩),(.string ⟨#[]⟩),(.int .i64 0),(.int .i64 0),(.int .i64 0)]) 64 rfl Try.underlying49 info76 rfl (by decide) (by omega) u12 x12_5 (⟨4,rdOf ByteArray.empty t45 x21_5,(⟨#[]⟩:ByteArray),(⟨0,0,0⟩:S37)⟩:S76) [.int .i64 4, .string (rdOf ByteArray.empty t45 x21_5), .string (⟨#[]⟩:ByteArray), .int .i64 0, .int .i64 0, .int .i64 0] (fun _=>True) (fun _=>False) rfl rfl ?aP (fun _ hk=>hk.elim) ?aF ?aO ?aB ?aS ?aL ?_;(case aP=>exact k76_mkM _ _ _ (⟨4,rdOf ByteArray.empty t45 x21_5,(⟨#[]⟩:ByteArray),(⟨0,0,0⟩:S37)⟩:S76));(case aB=>exact (zl1_ HB GE1));(case aF=>exact (fun _ _=>trivial));(case aO=>exact (zr_ HO_12));(case aS=>exact (below_size (zl1_ HB GE1)));(case aL=>have:=LMc103.out;omega);intro v50 w105 ho hb hg hat;rw [←Ny49.out] at ho;have n0_:=am_ (Kd.R_over' (zr_ HO_20) (Kd.R_typed (zr_ HO_12)) (by decide) hg);have n1_:=am_ (blk_grown (zb_ BK1) hg (Kd.R_ne HO_12.out BK1.out (by decide)));have n2_:=am_ (hb);have n3_:=am_ (ho);clear HO_20;clear BK1;clear HB;clear HO_12;have HO_20:=n0_;have BK1:=n1_;have HB:=n2_;have HO51:=n3_;clear n0_ n1_ n2_ n3_;clear ho hb hg hat))
            go_roundg k5
            case measure=>have:=HK1.out;have:=HK2.out;have:=HK3.out;have:=HK4.out;have:=HK5.out;omega
            case rel=>exact ⟨(y49),(wrap64 (x21_5+1)),rf_,H',⟨by have:=HK1.out;have:=HK2.out;have:=HK3.out;have:=HK4.out;have:=HK5.out;omega⟩,am_ (zr_ HO51),am_ (zr_ HO_20),am_ (zb_ BK1),⟨zl1_ HB GE1⟩⟩
         rw [if_pos c87] at H;have c87b0:decide (0≤x19_4)=true:=decide_eq_true c87;clear c87;replace H:=zif_ H;obtain ⟨c88,H⟩:=H;have c88b0:=decide_eq_true c88;clear c88;replace H:=zif_ H;obtain ⟨c89,H⟩:=H;have c89b0:=decide_eq_true c89;clear c89;replace H:=zbd_ H;obtain ⟨⟨t36,t37,t38⟩,A90,H⟩:=H;try dsimp only at H
         by_cases c91:(!(t36==((rd_T39 t3 x19_4).f2.f0))||(!(t37==((rd_T39 t3 x19_4).f2.f1))||(!(t38==((rd_T39 t3 x19_4).f2.f2)))))=true;rotate_left
         ·rw [if_neg c91] at H;have c91b0:(!(t36==((rd_T39 t3 x19_4).f2.f0))||(!(t37==((rd_T39 t3 x19_4).f2.f1))||(!(t38==((rd_T39 t3 x19_4).f2.f2)))))=false:=by simpa using c91
          clear c91;have H':=Aside0.mk H;clear H;try go_wp2
          replace HO_8:=am_ (Kd.R_drew HO_8.out);replace HO_12:=am_ (Kd.R_drew HO_12.out);replace BK1:=am_ (blk_drew BK1.out);replace HB:=am_ (below_drew1 HB.out);obtain ⟨p35,q35,ad35,e35,hx35_0,hx35_1,hx35_2,hx35_3,hx35_4⟩:=zat_ (at_T39 (Kd.R_reads' HO_8.out).2.2 x19_4);cases e35;obtain ⟨p39,q39,ad39,e39,hx39_0,hx39_1,hx39_2,hx39_3,hx39_4⟩:=zat_ (at_T39 (Kd.R_reads' HO_8.out).2.2 x19_4);obtain rfl:ad35=ad39:=(by injection e39);refine start_ (n:=13) (S:=fun w'=>w'.cell? (ad35.add ((x19_4).toNat*5))=some (.string ((rd_T39 t3 x19_4).f0))∧w'.cell? ⟨(ad35.add ((x19_4).toNat*5)).block,(ad35.add ((x19_4).toNat*5)).off+1,none⟩=some (.string ((rd_T39 t3 x19_4).f1))∧w'.cell? ⟨(ad35.add ((x19_4).toNat*5)).block,(ad35.add ((x19_4).toNat*5)).off+2,none⟩=some (.int .i64 ((rd_T39 t3 x19_4).f2.f0))∧w'.cell? ⟨(ad35.add ((x19_4).toNat*5)).block,(ad35.add ((x19_4).toNat*5)).off+3,none⟩=some (.int .i64 ((rd_T39 t3 x19_4).f2.f1))∧w'.cell? ⟨(ad35.add ((x19_4).toNat*5)).block,(ad35.add ((x19_4).toNat*5)).off+4,none⟩=some (.int .i64 ((rd_T39 t3 x19_4).f2.f2))) (ds:=[]) (bt_ 13 0) (by kernel_rfl) rfl rfl ⟨hx35_0,hx35_1,hx35_2,hx35_3,hx35_4⟩ (fun hHeld=> ?_);refine with_tabW r16_Steps.tab33 r16_Steps.bits33 (fun HT_ HW_=> ?_);generalize wr.drew=w97 at HO_8 HO_12 BK1 HB hx35_0 hx35_1 hx35_2 hx35_3 hx35_4 hx39_0 hx39_1 hx39_2 hx39_3 hx39_4 hHeld ⊢;refine ru_ 0 HT_ ?_;refine ru_ 1 HT_ ?_;refine ru_ 2 HT_ ?_;refine ru_ 4 HT_ ?_;refine ru_ 5 HT_ ?_;refine ru_ 7 HT_ ?_;refine ru_ 8 HT_ ?_
          refine ru_ 9 HT_ ?_;refine ru_ 10 HT_ ?_;refine rk_ 3 HT_ HW_ hHeld ?_;refine rk_ 11 HT_ HW_ hHeld ?_;refine on_ (i:=6) (N:=some 172) (bt_ 13 4095) HT_ (fun K hK=> ?_);refine gs_ Try.func86 #[.agg #[.string ((rd_T39 t3 x19_4).f0), .string ((rd_T39 t3 x19_4).f1), .int .i64 ((rd_T39 t3 x19_4).f2.f0), .int .i64 ((rd_T39 t3 x19_4).f2.f1), .int .i64 ((rd_T39 t3 x19_4).f2.f2)], .slice A2 l2.length c2, .bool x9_1] ?_
          with_reducible refine (r16_up.calls k4 ((rd_T39 t3 x19_4).f0) ((rd_T39 t3 x19_4).f1) ((rd_T39 t3 x19_4).f2.f0) ((rd_T39 t3 x19_4).f2.f1) ((rd_T39 t3 x19_4).f2.f2) _ _ l2 x9_1 t36 t37 t38 _ ?side1 ?side2 A90.out).mono ?_
          (case side1=>exact zc_ (Kd.C_below HR2.out HB.out));(case side2=>exact HC2.out);rintro e w98 ⟨rfl,hb⟩;have HS_:=And.intro hb hHeld;refine ⟨_,rfl, ?_⟩;replace HO_8:=ob_ HO_8 hb;replace HO_12:=ob_ HO_12 hb;replace BK1:=bb_ BK1 hb;replace HB:=am_ (below_step (zl1_ HB GE1) hb);(try clear hb);refine hK.out _ _ (hk_ HS_) (fun hHeld=> ?_);clear hK K;refine no_ (N:=some 172) ?_;refine ru_ 12 HT_ ?_;refine done_ (done_of HT_.out (by kernel_rfl)) ?_;try go_wp2
          go_roundg k4
          case measure=>have:=HK1.out;have:=HK2.out;have:=HK3.out;have:=HK4.out;omega
          case rel=>exact ⟨(x12_4),(wrap64 (x19_4 - 1)),rf_,H',⟨by have:=HK1.out;have:=HK2.out;have:=HK3.out;have:=HK4.out;omega⟩,am_ (zr_ HO_8),am_ (zr_ HO_12),am_ (zb_ BK1),⟨zl1_ HB GE1⟩⟩
         rw [if_pos c91] at H;have c91b0:(!(t36==((rd_T39 t3 x19_4).f2.f0))||(!(t37==((rd_T39 t3 x19_4).f2.f1))||(!(t38==((rd_T39 t3 x19_4).f2.f2)))))=true:=c91;clear c91;replace H:=zif_ H;obtain ⟨c92,H⟩:=H;have LMc92:=Aside0.mk c92;clear c92;obtain ⟨y42,hy42⟩: ∃y_:List (S76),y_=(x12_4++ [(⟨2,(rd_T39 t3 x19_4).f0,(⟨#[]⟩:ByteArray),(⟨(rd_T39 t3 x19_4).f2.f0,(rd_T39 t3 x19_4).f2.f1,(rd_T39 t3 x19_4).f2.f2⟩:S37)⟩:S76)]):=⟨_,rfl⟩;(first|replace H:=zsb_ hy42 H|rw [←hy42] at H);have Ny42:=Aside0.mk hy42;clear hy42;have H':=Aside0.mk H;clear H;try go_wp2
         replace HO_8:=am_ (Kd.R_drew HO_8.out);replace HO_12:=am_ (Kd.R_drew HO_12.out);replace BK1:=am_ (blk_drew BK1.out);replace HB:=am_ (below_drew1 HB.out);obtain ⟨p35,q35,ad35,e35,hx35_0,hx35_1,hx35_2,hx35_3,hx35_4⟩:=zat_ (at_T39 (Kd.R_reads' HO_8.out).2.2 x19_4);cases e35;obtain ⟨p39,q39,ad39,e39,hx39_0,hx39_1,hx39_2,hx39_3,hx39_4⟩:=zat_ (at_T39 (Kd.R_reads' HO_8.out).2.2 x19_4);obtain rfl:ad35=ad39:=(by injection e39);refine start_ (n:=13) (S:=fun w'=>w'.cell? (ad35.add ((x19_4).toNat*5))=some (.string ((rd_T39 t3 x19_4).f0))∧w'.cell? ⟨(ad35.add ((x19_4).toNat*5)).block,(ad35.add ((x19_4).toNat*5)).off+1,none⟩=some (.string ((rd_T39 t3 x19_4).f1))∧w'.cell? ⟨(ad35.add ((x19_4).toNat*5)).block,(ad35.add ((x19_4).toNat*5)).off+2,none⟩=some (.int .i64 ((rd_T39 t3 x19_4).f2.f0))∧w'.cell? ⟨(ad35.add ((x19_4).toNat*5)).block,(ad35.add ((x19_4).toNat*5)).off+3,none⟩=some (.int .i64 ((rd_T39 t3 x19_4).f2.f1))∧w'.cell? ⟨(ad35.add ((x19_4).toNat*5)).block,(ad35.add ((x19_4).toNat*5)).off+4,none⟩=some (.int .i64 ((rd_T39 t3 x19_4).f2.f2))) (ds:=[]) (bt_ 13 0) (by kernel_rfl) rfl rfl ⟨hx35_0,hx35_1,hx35_2,hx35_3,hx35_4⟩ (fun hHeld=> ?_);refine with_tabW r16_Steps.tab33 r16_Steps.bits33 (fun HT_ HW_=> ?_);generalize wr.drew=w93 at HO_8 HO_12 BK1 HB hx35_0 hx35_1 hx35_2 hx35_3 hx35_4 hx39_0 hx39_1 hx39_2 hx39_3 hx39_4 hHeld ⊢;refine ru_ 0 HT_ ?_;refine ru_ 1 HT_ ?_;refine ru_ 2 HT_ ?_;refine ru_ 4 HT_ ?_;refine ru_ 5 HT_ ?_;refine ru_ 7 HT_ ?_;refine ru_ 8 HT_ ?_
         refine ru_ 9 HT_ ?_;refine ru_ 10 HT_ ?_;refine rk_ 3 HT_ HW_ hHeld ?_;refine rk_ 11 HT_ HW_ hHeld ?_;refine on_ (i:=6) (N:=some 172) (bt_ 13 4095) HT_ (fun K hK=> ?_);refine gs_ Try.func86 #[.agg #[.string ((rd_T39 t3 x19_4).f0), .string ((rd_T39 t3 x19_4).f1), .int .i64 ((rd_T39 t3 x19_4).f2.f0), .int .i64 ((rd_T39 t3 x19_4).f2.f1), .int .i64 ((rd_T39 t3 x19_4).f2.f2)], .slice A2 l2.length c2, .bool x9_1] ?_
         with_reducible refine (r16_up.calls k4 ((rd_T39 t3 x19_4).f0) ((rd_T39 t3 x19_4).f1) ((rd_T39 t3 x19_4).f2.f0) ((rd_T39 t3 x19_4).f2.f1) ((rd_T39 t3 x19_4).f2.f2) _ _ l2 x9_1 t36 t37 t38 _ ?side1 ?side2 A90.out).mono ?_
         (case side1=>exact zc_ (Kd.C_below HR2.out HB.out));(case side2=>exact HC2.out);rintro e w94 ⟨rfl,hb⟩;have HS_:=And.intro hb hHeld;refine ⟨_,rfl, ?_⟩;replace HO_8:=ob_ HO_8 hb;replace HO_12:=ob_ HO_12 hb;replace BK1:=bb_ BK1 hb;replace HB:=am_ (below_step (zl1_ HB GE1) hb);(try clear hb);refine hK.out _ _ (hk_ HS_) (fun hHeld=> ?_);clear hK K;refine no_ (N:=some 172) ?_;refine ru_ 12 HT_ ?_;refine done_ (done_of HT_.out (by kernel_rfl)) ?_;try go_wp2
         replace HO_8:=am_ (Kd.R_drew HO_8.out);replace HO_12:=am_ (Kd.R_drew HO_12.out);replace BK1:=am_ (blk_drew BK1.out);replace HB:=am_ (below_drew1 HB.out);obtain ⟨p40,q40,ad40,e40,hx40_0,hx40_1,hx40_2,hx40_3,hx40_4⟩:=zat_ (at_T39 (Kd.R_reads' HO_8.out).2.2 x19_4);obtain rfl:ad35=ad40:=(by injection e40);obtain ⟨p41,q41,ad41,e41,hx41_0,hx41_1,hx41_2,hx41_3,hx41_4⟩:=zat_ (at_T39 (Kd.R_reads' HO_8.out).2.2 x19_4);obtain rfl:ad35=ad41:=(by injection e41);refine start_ (n:=15) (S:=fun w'=>w'.cell? (ad35.add ((x19_4).toNat*5))=some (.string ((rd_T39 t3 x19_4).f0))∧w'.cell? ⟨(ad35.add ((x19_4).toNat*5)).block,(ad35.add ((x19_4).toNat*5)).off+2,none⟩=some (.int .i64 ((rd_T39 t3 x19_4).f2.f0))∧w'.cell? ⟨(ad35.add ((x19_4).toNat*5)).block,(ad35.add ((x19_4).toNat*5)).off+3,none⟩=some (.int .i64 ((rd_T39 t3 x19_4).f2.f1))∧w'.cell? ⟨(ad35.add ((x19_4).toNat*5)).block,(ad35.add ((x19_4).toNat*5)).off+4,none⟩=some (.int .i64 ((rd_T39 t3 x19_4).f2.f2))) (ds:=[12,13]) (bt_ 15 0) (by kernel_rfl) rfl rfl ⟨hx40_0,hx40_2,hx40_3,hx40_4⟩ (fun hHeld=> ?_);refine with_tabW r16_Steps.tab34 r16_Steps.bits34 (fun HT_ HW_=> ?_);generalize w94.drew=w95 at HO_8 HO_12 BK1 HB hx40_0 hx40_1 hx40_2 hx40_3 hx40_4 hx41_0 hx41_1 hx41_2 hx41_3 hx41_4 hHeld ⊢;refine ru_ 0 HT_ ?_;refine ru_ 1 HT_ ?_;refine ru_ 2 HT_ ?_;refine ru_ 3 HT_ ?_;refine ru_ 4 HT_ ?_;refine ru_ 6 HT_ ?_;refine ru_ 7 HT_ ?_;refine ru_ 8 HT_ ?_;refine ru_ 9 HT_ ?_;refine rk_ 5 HT_ HW_ hHeld ?_;refine rk_ 10 HT_ HW_ hHeld ?_
         refine ru_ 11 HT_ ?_;refine last_ (i:=12) (N:=some 191) (bt_ 15 8191) rfl rfl (one_of HT_.out (by kernel_rfl)) (by decide) (fun K hK=> ?_);refine value_ (w1:= ?_) (v:= ?_) (by rfl) rfl ?_ ?_
         rotate_left 2
         ·go_simp
          constructor
          ·rfl
          rfl
         refine hK.out _ _ ?_;clear hK K;refine no_ (N:=some 191) ?_;refine last_ (i:=13) (N:=some 192) (bt_ 15 16383) rfl rfl (one_of HT_.out (by kernel_rfl)) (by decide) (fun K hK=> ?_);refine Kd.R_append_step k76 (w0:=w) w.heap.size (by rfl) (.tmp 179) (.tmp 191) 49 76 (.agg #[(.int .i64 0),(.string ⟨#[]⟩),(.string ⟨#[]⟩),(.int .i64 0),(.int .i64 0),(.int .i64 0)]) 64 rfl Try.underlying49 info76 rfl (by decide) (by omega) u12 x12_4 (⟨2,(rd_T39 t3 x19_4).f0,(⟨#[]⟩:ByteArray),(⟨(rd_T39 t3 x19_4).f2.f0,(rd_T39 t3 x19_4).f2.f1,(rd_T39 t3 x19_4).f2.f2⟩:S37)⟩:S76) [.int .i64 2, .string ((rd_T39 t3 x19_4).f0), .string (⟨#[]⟩:ByteArray), .int .i64 ((rd_T39 t3 x19_4).f2.f0), .int .i64 ((rd_T39 t3 x19_4).f2.f1), .int .i64 ((rd_T39 t3 x19_4).f2.f2)] (fun _=>True) (fun _=>False) rfl rfl ?aP (fun _ hk=>hk.elim) ?aF ?aO ?aB ?aS ?aL ?_;(case aP=>exact k76_mkM _ _ _ (⟨2,(rd_T39 t3 x19_4).f0,(⟨#[]⟩:ByteArray),(⟨(rd_T39 t3 x19_4).f2.f0,(rd_T39 t3 x19_4).f2.f1,(rd_T39 t3 x19_4).f2.f2⟩:S37)⟩:S76));(case aB=>exact (zl1_ HB GE1));(case aF=>exact (fun _ _=>trivial));(case aO=>exact (zr_ HO_12));(case aS=>exact (below_size (zl1_ HB GE1)));(case aL=>have:=LMc92.out;omega);intro v43 w96 ho hb hg hat;rw [←Ny42.out] at ho;have n0_:=am_ (Kd.R_over' (zr_ HO_8) (Kd.R_typed (zr_ HO_12)) (by decide) hg);have n1_:=am_ (blk_grown (zb_ BK1) hg (Kd.R_ne HO_12.out BK1.out (by decide)));have n2_:=am_ (hb);have n3_:=am_ (ho);clear HO_8 BK1 HB HO_12;have HO_8:=n0_;have BK1:=n1_;have HB:=n2_;have HO44:=n3_
         clear n0_ n1_ n2_ n3_ ho hb hg hat;refine hK.out _ _ ?_;clear hK K;refine no_ (N:=some 192) ?_;refine ru_ 14 HT_ ?_;refine done_ (done_of HT_.out (by kernel_rfl)) ?_;try go_wp2
         go_roundg k4
         case measure=>have:=HK1.out;have:=HK2.out;have:=HK3.out;have:=HK4.out;omega
         case rel=>exact ⟨(y42),(wrap64 (x19_4 - 1)),rf_,H',⟨by have:=HK1.out;have:=HK2.out;have:=HK3.out;have:=HK4.out;omega⟩,am_ (zr_ HO_8),am_ (zr_ HO44),am_ (zb_ BK1),⟨zl1_ HB GE1⟩⟩
attribute [local go_sem high] eqA37
mutual
def r10_Right.l0:Nat→List (S79)→Int→Option (Bool)
 |0,_,_=>none
 |k+1,x0,x3=>if x3<(x0.length:Int) then (if 0≤x3 then ((r10_MayName.f ((rd_T79 x0 x3).f0)).bind fun t3=>(if t3=true then (if x3>0 then (if 0≤(wrap64 (x3 - 1)) then (if (wrap64 (x3 - 1))<(x0.length:Int) then (if ((Op.bytesLess (((rd_T79 x0 (wrap64 (x3 - 1))).f0).toList) (((rd_T79 x0 x3).f0).toList))=true) then ((r10_MayVec.f ((rd_T79 x0 x3).f2.f0) ((rd_T79 x0 x3).f2.f1) ((rd_T79 x0 x3).f2.f2)).bind fun t5=>(if t5=true then ((r10_MayVec.f ((rd_T79 x0 x3).f3.f0) ((rd_T79 x0 x3).f3.f1) ((rd_T79 x0 x3).f3.f2)).bind fun t6=>(if t6=true then (if ((rd_T79 x0 x3).f1).toList=([]:List UInt8) then (if ((rd_T79 x0 x3).f5)<1 then (some false) else (if ((rd_T79 x0 x3).f5)>9007199254740992 then (some false) else ((r10_Le.f ((rd_T79 x0 x3).f4.f0) ((rd_T79 x0 x3).f4.f1) ((rd_T79 x0 x3).f4.f2) ((rd_T79 x0 x3).f2.f0) ((rd_T79 x0 x3).f2.f1) ((rd_T79 x0 x3).f2.f2)).bind fun t7=>(if t7=true then ((r10_MayVec.f ((rd_T79 x0 x3).f4.f0) ((rd_T79 x0 x3).f4.f1) ((rd_T79 x0 x3).f4.f2)).bind fun t8=>(if t8=true then (r10_Right.l0 k x0 (wrap64 (x3+1))) else (some false))) else (some false))))) else ((r10_Find.f k x0 ((rd_T79 x0 x3).f1)).bind fun t9=>(if t9<0 then (some false) else (if ((rd_T79 x0 x3).f5)<1 then (some false) else (if ((rd_T79 x0 x3).f5)>9007199254740992 then (some false) else ((r10_Le.f ((rd_T79 x0 x3).f4.f0) ((rd_T79 x0 x3).f4.f1) ((rd_T79 x0 x3).f4.f2) ((rd_T79 x0 x3).f2.f0) ((rd_T79 x0 x3).f2.f1) ((rd_T79 x0 x3).f2.f2)).bind fun t10=>(if t10=true then ((r10_MayVec.f ((rd_T79 x0 x3).f4.f0) ((rd_T79 x0 x3).f4.f1) ((rd_T79 x0 x3).f4.f2)).bind fun t11=>(if t11=true then (r10_Right.l0 k x0 (wrap64 (x3+1))) else (some false))) else (some false)))))))) else (some false))) else (some false))) else (some false)) else (none)) else (none)) else ((r10_MayVec.f ((rd_T79 x0 x3).f2.f0) ((rd_T79 x0 x3).f2.f1) ((rd_T79 x0 x3).f2.f2)).bind fun t12=>(if t12=true then ((r10_MayVec.f ((rd_T79 x0 x3).f3.f0) ((rd_T79 x0 x3).f3.f1) ((rd_T79 x0 x3).f3.f2)).bind fun t13=>(if t13=true then (if ((rd_T79 x0 x3).f1).toList=([]:List UInt8) then (if ((rd_T79 x0 x3).f5)<1 then (some false) else (if ((rd_T79 x0 x3).f5)>9007199254740992 then (some false) else ((r10_Le.f ((rd_T79 x0 x3).f4.f0) ((rd_T79 x0 x3).f4.f1) ((rd_T79 x0 x3).f4.f2) ((rd_T79 x0 x3).f2.f0) ((rd_T79 x0 x3).f2.f1) ((rd_T79 x0 x3).f2.f2)).bind fun t14=>(if t14=true then ((r10_MayVec.f ((rd_T79 x0 x3).f4.f0) ((rd_T79 x0 x3).f4.f1) ((rd_T79 x0 x3).f4.f2)).bind fun t15=>(if t15=true then (r10_Right.l0 k x0 (wrap64 (x3+1))) else (some false))) else (some false))))) else ((r10_Find.f k x0 ((rd_T79 x0 x3).f1)).bind fun t16=>(if t16<0 then (some false) else (if ((rd_T79 x0 x3).f5)<1 then (some false) else (if ((rd_T79 x0 x3).f5)>9007199254740992 then (some false) else ((r10_Le.f ((rd_T79 x0 x3).f4.f0) ((rd_T79 x0 x3).f4.f1) ((rd_T79 x0 x3).f4.f2) ((rd_T79 x0 x3).f2.f0) ((rd_T79 x0 x3).f2.f1) ((rd_T79 x0 x3).f2.f2)).bind fun t17=>(if t17=true then ((r10_MayVec.f ((rd_T79 x0 x3).f4.f0) ((rd_T79 x0 x3).f4.f1) ((rd_T79 x0 x3).f4.f2)).bind fun t18=>(if t18=true then (r10_Right.l0 k x0 (wrap64 (x3+1))) else (some false))) else (some false)))))))) else (some false))) else (some false)))) else (some false))) else (none)) else (r10_Right.l1 k x0 0)
def r10_Right.l1:Nat→List (S79)→Int→Option (Bool)
 |0,_,_=>none
 |k+1,x0,x5=>if x5<(x0.length:Int) then (if 0≤x5 then (r10_Right.l2 k x0 x5 0 ((rd_T79 x0 x5).f3.f0) ((rd_T79 x0 x5).f3.f1) ((rd_T79 x0 x5).f3.f2)) else (none)) else (some true)
def r10_Right.l2:Nat→List (S79)→Int→Int→Int→Int→Int→Option (Bool)
 |0,_,_,_,_,_,_=>none
 |k+1,x0,x5,x7,x21000,x21001,x21002=>if x7<(x0.length:Int) then (if 0≤x7 then (if 0≤x5 then (if x5<(x0.length:Int) then (if ((rd_T79 x0 x7).f1).toList=((rd_T79 x0 x5).f0).toList then ((r10_Add.f x21000 x21001 x21002 ((rd_T79 x0 x7).f4.f0) ((rd_T79 x0 x7).f4.f1) ((rd_T79 x0 x7).f4.f2)).bind fun bt24=>(r10_Right.l2 k x0 x5 (wrap64 (x7+1)) bt24.1 bt24.2.1 bt24.2.2)) else (r10_Right.l2 k x0 x5 (wrap64 (x7+1)) x21000 x21001 x21002)) else (none)) else (none)) else (none)) else (if 0≤x5 then (if x5<(x0.length:Int) then (if (!(x21000==((rd_T79 x0 x5).f4.f0))||(!(x21001==((rd_T79 x0 x5).f4.f1))||(!(x21002==((rd_T79 x0 x5).f4.f2)))))=true then (some false) else ((r10_Up.f k x0 ((rd_T79 x0 x5).f0)).bind fun t29=>(if (t29.length:Int)>(x0.length:Int) then (some false) else (r10_Right.l1 k x0 (wrap64 (x5+1)))))) else (none)) else (none))
end
def r10_Right.f (k:Nat) (l0:List (S79)):Option (Bool):=if (l0.length:Int)>120 then (some false) else (r10_Right.l0 k l0 0)
theorem r10_Right.mono_l: ∀k,(∀y0 y1,LeO (r10_Right.l0 k y0 y1) (r10_Right.l0 (k+1) y0 y1))∧(∀y0 y1,LeO (r10_Right.l1 k y0 y1) (r10_Right.l1 (k+1) y0 y1))∧(∀y0 y1 y2 y3 y4 y5,LeO (r10_Right.l2 k y0 y1 y2 y3 y4 y5) (r10_Right.l2 (k+1) y0 y1 y2 y3 y4 y5))
 |0=>⟨fun _ _ r h=>by simp [r10_Right.l0] at h,fun _ _ r h=>by simp [r10_Right.l1] at h,fun _ _ _ _ _ _ r h=>by simp [r10_Right.l2] at h⟩
 |k+1=>by
  obtain ⟨ih0,ih1,ih2⟩:=r10_Right.mono_l k;refine ⟨?_, ?_, ?_⟩<;>(intros;first|unfold r10_Right.l0|unfold r10_Right.l1|unfold r10_Right.l2)<;>repeat' with_reducible first|apply ih0|apply ih1|apply ih2|apply r10_Find.mono|apply r10_Up.mono|apply LeO.refl|apply LeO.none|apply LeO.ite|refine LeO.bind ?_ fun _=> ?_
theorem r10_Right.mono: ∀a0 k,LeO (r10_Right.f k a0) (r10_Right.f (k+1) a0):=by
 intro a0 k;obtain ⟨ih0,ih1,ih2⟩:=r10_Right.mono_l k;unfold r10_Right.f
 repeat' with_reducible first|apply ih0|apply ih1|apply ih2|apply r10_Find.mono|apply r10_Up.mono|apply LeO.refl|apply LeO.none|apply LeO.ite|refine LeO.bind ?_ fun _=> ?_
def r10_Right.T7:Bool×List (List Nat×List Nat):=(true,[([],[]),([0],[0]),([1],[1]),([2],[2]),([3,2],[3]),([4],[4]),([5,4],[4,5]),([6,4,4],[4,6]),([7],[7]),([7],[7]),([9,7],[7,9]),([8,10,7],[7,8,10]),([11,7],[7,11]),([12,7],[7,12]),([7],[7]),([14,7],[7,14]),([13,15,7],[7,13,15]),([7,16,4],[4,7,16]),([4,17],[4,17]),([18,7],[18]),([19],[19]),([20,19],[19,20]),([21,19,19],[19,21]),([22,19],[19,22]),([19,23],[19,23]),([24,22],[24]),([25],[25]),([26,25],[25,26]),([27,25,25],[25,27]),([28,25],[25,28]),([25,29],[25,29]),([30,28],[30]),([31],[31]),([32,31],[31,32]),([33,31],[31,33]),([34,31,31],[31,34]),([35],[35]),([35],[35]),([37,35],[35,37]),([36,38,35,35],[35,36,38]),([39,35],[35,39]),([35,40,31],[31,35,40]),([31,41],[31,41]),([42,39],[42]),([43],[43]),([44,43],[43,44]),([45,43],[43,45]),([43,46],[43,46]),([47,43],[47]),([48],[48]),([49,48],[48,49]),([50,48],[48,50]),([48,51],[48,51]),([52,48],[52]),([53],[53]),([54,53],[53,54]),([53],[53]),([56,53],[53,56]),([55,57,53,53],[53,55,57]),([58,53],[53,58]),([53,59],[53,59]),([60,58],[60]),([61],[61]),([62,61],[61,62]),([63,61,61],[61,63]),([64,61],[61,64]),([61,65],[61,65])])
def r10_Right.B7:List Nat:=[0,1,3,7,15,31,63,127,255,255,767,2047,4095,8191,255,16639,65535,131071,262143,524287,1048575,2097151,4194303,8388607,16777215,33554431,67108863,134217727,268435455,536870911,1073741823,2147483647,4294967295,8589934591,17179869183,34359738367,68719476735,68719476735,206158430207,549755813887,1099511627775,2199023255551,4398046511103,8796093022207,17592186044415,35184372088831,70368744177663,140737488355327,281474976710655,562949953421311,1125899906842623,2251799813685247,4503599627370495,9007199254740991,18014398509481983,36028797018963967,18014398509481983,90071992547409919,288230376151711743,576460752303423487,1152921504606846975,2305843009213693951,4611686018427387903,9223372036854775807,18446744073709551615,36893488147419103231,73786976294838206463]
theorem r10_Right.tab7:rtab .any (opsOf Try.f44 7)=r10_Right.T7:=by kernel_rfl
theorem r10_Right.bits7:waitsOk r10_Right.T7.2 r10_Right.B7=true:=by kernel_rfl
def r10_Right.T16:Bool×List (List Nat×List Nat):=(true,[([],[]),([],[]),([0,1],[0,1]),([2],[2]),([3],[3]),([],[]),([],[]),([5,6],[5,6]),([7],[7]),([8],[8]),([4,9],[4,9])])
def r10_Right.B16:List Nat:=[0,0,3,7,15,0,0,96,224,480,1023]
theorem r10_Right.tab16:rtab .any (opsOf Try.f44 16)=r10_Right.T16:=by kernel_rfl
theorem r10_Right.bits16:waitsOk r10_Right.T16.2 r10_Right.B16=true:=by kernel_rfl
def r10_Right.T17:Bool×List (List Nat×List Nat):=(true,[([],[]),([],[]),([],[]),([1,2],[1,2]),([3],[3]),([4],[4]),([0,5],[0,5]),([6,6,0,1,2,3,4,5,6],[6])])
def r10_Right.B17:List Nat:=[0,0,0,6,14,30,63,127]
theorem r10_Right.tab17:rtab .any (opsOf Try.f44 17)=r10_Right.T17:=by kernel_rfl
theorem r10_Right.bits17:waitsOk r10_Right.T17.2 r10_Right.B17=true:=by kernel_rfl
def r10_Right.T18:Bool×List (List Nat×List Nat):=(true,[([],[]),([],[]),([],[]),([1,2],[1,2]),([3],[3]),([4],[4]),([0,5],[0,5]),([6],[6]),([7],[7]),([7],[7]),([7],[7]),([9,10,7],[7,9,10]),([11,7],[7,11]),([12,7],[7,12]),([8,13,7,7],[7,8,13]),([14,7],[7,14]),([7],[7]),([16,7],[7,16]),([15,17,7],[7,15,17]),([7,18],[7,18])])
def r10_Right.B18:List Nat:=[0,0,0,6,14,30,63,127,255,255,255,1791,3839,7935,16383,32767,255,65791,262143,524287]
theorem r10_Right.tab18:rtab .any (opsOf Try.f44 18)=r10_Right.T18:=by kernel_rfl
theorem r10_Right.bits18:waitsOk r10_Right.T18.2 r10_Right.B18=true:=by kernel_rfl
def r10_Right.tk (k:Nat):Array Bool:=(List.replicate k true++List.replicate (67 - k) false).toArray
set_option maxHeartbeats 8000000 in
set_option maxRecDepth 100000 in
theorem r10_Right.calls (k:Nat) (A0:Option Addr) (c0:Nat) (l0:List (S79)) (r:Bool) (w:World) (hr0:Kd.C k79 w A0 l0.length l0) (hc0:l0.length≤c0) (h:r10_Right.f k l0=some r):
  Calls Try.prog 44 #[.slice A0 l0.length c0] w fun e w'=>e= .returned (.bool r)∧Below w.heap.size w w':=by
 have hu79:=Try.underlying79;have hu37:=Try.underlying37;have HR0:=Aside0.mk hr0;have HC0:=Aside0.mk hc0;clear hr0 hc0;have HB:=am_ (Below.refl w.heap.size w);have H:(if (l0.length:Int)>120 then (some false) else (r10_Right.l0 k l0 0))=some r:=h;clear h;by_cases c2:(l0.length:Int)>120
 ·rw [if_pos c2] at H;have c2b0:decide (120<(l0.length:Int))=true:=decide_eq_true c2;have c2b1:decide (120<l0.length)=true:=decide_eq_true (by omega);clear c2;obtain rfl:=Option.some.inj H;go_enter Try.func44,Try.ntmps44;go_wp2
  go_ret
  exact ⟨by first|rfl|(simp [errW_none,errW_some]<;>rfl)|(simp [*,errW_none,errW_some]<;>rfl),zl0_ HB⟩
 ·rw [if_neg c2] at H;have c2b0:decide (120<(l0.length:Int))=false:=decide_eq_false c2;have c2b1:decide (120<l0.length)=false:=decide_eq_false (by omega);clear c2;have H':=Aside0.mk H;clear H;go_enter Try.func44,Try.ntmps44;go_wp2
  go_loopg [3] k (fun kq v3 w'=> ∃(x3_1:Int),v3= .int .i64 x3_1∧Aside0 (r10_Right.l0 kq l0 x3_1=some r)∧Aside0 (kq≤k)∧Aside0 (Below w.heap.size w w'))
  case atStart=>exact ⟨(0),rf_,H',⟨Nat.le_refl _⟩,⟨zl0_ HB⟩⟩
  case round=>
   clear H';obtain ⟨x3_1,rfl,HA,HK1,HB⟩:=hrel
   cases gk with
   |zero=>exact absurd HA.out (by simp [r10_Right.l0])
   |succ k1=>
    have H:=HA.out;clear HA;simp only [r10_Right.l0] at H;by_cases c3:x3_1<(l0.length:Int)
    ·rw [if_pos c3] at H;have c3b0:=decide_eq_true c3;clear c3;by_cases c4:0≤x3_1
     ·rw [if_pos c4] at H;have c4b0:=decide_eq_true c4;clear c4;have HC7:=Aside0.mk H;clear H;obtain ⟨p1,q1,ad1,e1,hx1_0,hx1_1,hx1_2,hx1_3,hx1_4,hx1_5,hx1_6,hx1_7,hx1_8,hx1_9,hx1_10,hx1_11⟩:=zat_ (at_T79 HR0.out x3_1);cases e1;replace hx1_0:=zx12_ HB hx1_0 hx1_1 hx1_2 hx1_3 hx1_4 hx1_5 hx1_6 hx1_7 hx1_8 hx1_9 hx1_10 hx1_11;clear hx1_1 hx1_2 hx1_3 hx1_4 hx1_5 hx1_6 hx1_7 hx1_8 hx1_9 hx1_10 hx1_11;obtain ⟨hx1_0,hx1_1,hx1_2,hx1_3,hx1_4,hx1_5,hx1_6,hx1_7,hx1_8,hx1_9,hx1_10,hx1_11⟩:=hx1_0
      try go_wp2_with (first|((with_reducible refine gate_dst (N:=4) rfl ?_);(try (refine gate_guard (by rfl) ?_;dsimp only));refine bx_ (N:=4) (cs:=#[.string (⟨#[]⟩:ByteArray), .string (⟨#[]⟩:ByteArray), .int .i64 0, .int .i64 0, .int .i64 0, .int .i64 0, .int .i64 0, .int .i64 0, .int .i64 0, .int .i64 0, .int .i64 0, .int .i64 0]) (t:=79) ?_;intro gb2 hg w18 hbox hb;have BK2:=am_ (hbox);have GE2:=am_ ((zg0_ HB hg:w.heap.size≤gb2));replace HB:=am_ (below_step (zl0_ HB) hb);clear hb hbox hg;obtain ⟨hcz19_0,hcz19_1,hcz19_2,hcz19_3,hcz19_4,hcz19_5,hcz19_6,hcz19_7,hcz19_8,hcz19_9,hcz19_10,hcz19_11⟩:=x12_ BK2;have hfz19_0:=blk_frozen BK2.out 0;have hfz19_1:=blk_frozen BK2.out 1;have hfz19_2:=blk_frozen BK2.out 2;have hfz19_3:=blk_frozen BK2.out 3;have hfz19_4:=blk_frozen BK2.out 4;have hfz19_5:=blk_frozen BK2.out 5;have hfz19_6:=blk_frozen BK2.out 6;have hfz19_7:=blk_frozen BK2.out 7;have hfz19_8:=blk_frozen BK2.out 8;have hfz19_9:=blk_frozen BK2.out 9;have hfz19_10:=blk_frozen BK2.out 10;have hfz19_11:=blk_frozen BK2.out 11))
      have n0_:Aside0 (((((((((((((w18.setCell ⟨gb2,0,none⟩ (.string ((rd_T79 l0 x3_1).f0))).setCell ⟨gb2,1,none⟩ (.string ((rd_T79 l0 x3_1).f1))).setCell ⟨gb2,2,none⟩ (.int .i64 ((rd_T79 l0 x3_1).f2.f0))).setCell ⟨gb2,3,none⟩ (.int .i64 ((rd_T79 l0 x3_1).f2.f1))).setCell ⟨gb2,4,none⟩ (.int .i64 ((rd_T79 l0 x3_1).f2.f2))).setCell ⟨gb2,5,none⟩ (.int .i64 ((rd_T79 l0 x3_1).f3.f0))).setCell ⟨gb2,6,none⟩ (.int .i64 ((rd_T79 l0 x3_1).f3.f1))).setCell ⟨gb2,7,none⟩ (.int .i64 ((rd_T79 l0 x3_1).f3.f2))).setCell ⟨gb2,8,none⟩ (.int .i64 ((rd_T79 l0 x3_1).f4.f0))).setCell ⟨gb2,9,none⟩ (.int .i64 ((rd_T79 l0 x3_1).f4.f1))).setCell ⟨gb2,10,none⟩ (.int .i64 ((rd_T79 l0 x3_1).f4.f2))).setCell ⟨gb2,11,none⟩ (.int .i64 ((rd_T79 l0 x3_1).f5))).heap[gb2]?=some (.cells #[.string ((rd_T79 l0 x3_1).f0), .string ((rd_T79 l0 x3_1).f1), .int .i64 ((rd_T79 l0 x3_1).f2.f0), .int .i64 ((rd_T79 l0 x3_1).f2.f1), .int .i64 ((rd_T79 l0 x3_1).f2.f2), .int .i64 ((rd_T79 l0 x3_1).f3.f0), .int .i64 ((rd_T79 l0 x3_1).f3.f1), .int .i64 ((rd_T79 l0 x3_1).f3.f2), .int .i64 ((rd_T79 l0 x3_1).f4.f0), .int .i64 ((rd_T79 l0 x3_1).f4.f1), .int .i64 ((rd_T79 l0 x3_1).f4.f2), .int .i64 ((rd_T79 l0 x3_1).f5)] 79 (0,0))):=⟨zw_ BK2⟩
      have n1_:Aside0 (Below w.heap.size w ((((((((((((w18.setCell ⟨gb2,0,none⟩ (.string ((rd_T79 l0 x3_1).f0))).setCell ⟨gb2,1,none⟩ (.string ((rd_T79 l0 x3_1).f1))).setCell ⟨gb2,2,none⟩ (.int .i64 ((rd_T79 l0 x3_1).f2.f0))).setCell ⟨gb2,3,none⟩ (.int .i64 ((rd_T79 l0 x3_1).f2.f1))).setCell ⟨gb2,4,none⟩ (.int .i64 ((rd_T79 l0 x3_1).f2.f2))).setCell ⟨gb2,5,none⟩ (.int .i64 ((rd_T79 l0 x3_1).f3.f0))).setCell ⟨gb2,6,none⟩ (.int .i64 ((rd_T79 l0 x3_1).f3.f1))).setCell ⟨gb2,7,none⟩ (.int .i64 ((rd_T79 l0 x3_1).f3.f2))).setCell ⟨gb2,8,none⟩ (.int .i64 ((rd_T79 l0 x3_1).f4.f0))).setCell ⟨gb2,9,none⟩ (.int .i64 ((rd_T79 l0 x3_1).f4.f1))).setCell ⟨gb2,10,none⟩ (.int .i64 ((rd_T79 l0 x3_1).f4.f2))).setCell ⟨gb2,11,none⟩ (.int .i64 ((rd_T79 l0 x3_1).f5)))):=⟨zl1_ HB GE2⟩
      generalize ((((((((((((w18.setCell ⟨gb2,0,none⟩ (.string ((rd_T79 l0 x3_1).f0))).setCell ⟨gb2,1,none⟩ (.string ((rd_T79 l0 x3_1).f1))).setCell ⟨gb2,2,none⟩ (.int .i64 ((rd_T79 l0 x3_1).f2.f0))).setCell ⟨gb2,3,none⟩ (.int .i64 ((rd_T79 l0 x3_1).f2.f1))).setCell ⟨gb2,4,none⟩ (.int .i64 ((rd_T79 l0 x3_1).f2.f2))).setCell ⟨gb2,5,none⟩ (.int .i64 ((rd_T79 l0 x3_1).f3.f0))).setCell ⟨gb2,6,none⟩ (.int .i64 ((rd_T79 l0 x3_1).f3.f1))).setCell ⟨gb2,7,none⟩ (.int .i64 ((rd_T79 l0 x3_1).f3.f2))).setCell ⟨gb2,8,none⟩ (.int .i64 ((rd_T79 l0 x3_1).f4.f0))).setCell ⟨gb2,9,none⟩ (.int .i64 ((rd_T79 l0 x3_1).f4.f1))).setCell ⟨gb2,10,none⟩ (.int .i64 ((rd_T79 l0 x3_1).f4.f2))).setCell ⟨gb2,11,none⟩ (.int .i64 ((rd_T79 l0 x3_1).f5)))=w20 at n0_ n1_ ⊢;have BK2:=n0_;have HB:=n1_;clear n0_ n1_;have b0:w20.cell? ⟨gb2,0,none⟩=some (.string ((rd_T79 l0 x3_1).f0)):=zz_ BK2 0;have b1:w20.cell? ⟨gb2,1,none⟩=some (.string ((rd_T79 l0 x3_1).f1)):=zz_ BK2 1;have b2:w20.cell? ⟨gb2,2,none⟩=some (.int .i64 ((rd_T79 l0 x3_1).f2.f0)):=zz_ BK2 2;have b3:w20.cell? ⟨gb2,3,none⟩=some (.int .i64 ((rd_T79 l0 x3_1).f2.f1)):=zz_ BK2 3;have b4:w20.cell? ⟨gb2,4,none⟩=some (.int .i64 ((rd_T79 l0 x3_1).f2.f2)):=zz_ BK2 4;have b5:w20.cell? ⟨gb2,5,none⟩=some (.int .i64 ((rd_T79 l0 x3_1).f3.f0)):=zz_ BK2 5;have b6:w20.cell? ⟨gb2,6,none⟩=some (.int .i64 ((rd_T79 l0 x3_1).f3.f1)):=zz_ BK2 6;have b7:w20.cell? ⟨gb2,7,none⟩=some (.int .i64 ((rd_T79 l0 x3_1).f3.f2)):=zz_ BK2 7
      have b8:w20.cell? ⟨gb2,8,none⟩=some (.int .i64 ((rd_T79 l0 x3_1).f4.f0)):=zz_ BK2 8;have b9:w20.cell? ⟨gb2,9,none⟩=some (.int .i64 ((rd_T79 l0 x3_1).f4.f1)):=zz_ BK2 9;have b10:w20.cell? ⟨gb2,10,none⟩=some (.int .i64 ((rd_T79 l0 x3_1).f4.f2)):=zz_ BK2 10;have b11:w20.cell? ⟨gb2,11,none⟩=some (.int .i64 ((rd_T79 l0 x3_1).f5)):=zz_ BK2 11;obtain ⟨t3,A50,H⟩:=Option.bind_eq_some_iff.mp HC7.out;have A5:=Aside0.mk A50;have HC:=Aside0.mk H;clear A50 H HC7;have c9:0<x3_1→0≤wrap64 (x3_1 - 1)∧wrap64 (x3_1 - 1)<(l0.length:Int):=fun q=>by have:=of_eq_true p1;have:=of_eq_true q1;have:l0.length≤9223372036854775807:=HR0.out.2.1;unfold wrap64;omega
      by_cases c7:x3_1>0;obtain ⟨c9,c10⟩:=c9 c7;have c7b0:decide (0<x3_1)=true:=decide_eq_true c7;obtain ⟨ji8,hji8⟩: ∃j_:Int,(wrap64 (x3_1 - 1))=j_:=⟨_,rfl⟩;rw [hji8] at c9 c10;have hji8w:(IntKind.i64.wrap (x3_1 - 1))=ji8:=(i64_w _).trans hji8;obtain ⟨ad7,e7,hp, -⟩:=at_T79 HR0.out ji8 c9 c10;obtain rfl:ad1=ad7:=(by injection e7);replace hp:=zx_ HB hp;have p7:=eq_true c9;have q7:=eq_true c10;have C7:=Aside0.mk c7;have C9:=Aside0.mk c9;have C10:=Aside0.mk c10;clear c7 c9 c10;rotate_left;have c7b0:decide (0<x3_1)=false:=decide_eq_false c7;have N7:=Aside0.mk c7;clear c7 c9
      all_goals (
        have HBc:=am_ (below_drew1 (Below.refl w20.heap.size w20))
        first|(refine start_ (n:=67) (S:=fun w'=>w'.cell? ⟨gb2,0,none⟩=some (.string ((rd_T79 l0 x3_1).f0))∧w'.cell? ⟨gb2,1,none⟩=some (.string ((rd_T79 l0 x3_1).f1))∧w'.cell? ⟨gb2,2,none⟩=some (.int .i64 ((rd_T79 l0 x3_1).f2.f0))∧w'.cell? ⟨gb2,3,none⟩=some (.int .i64 ((rd_T79 l0 x3_1).f2.f1))∧w'.cell? ⟨gb2,4,none⟩=some (.int .i64 ((rd_T79 l0 x3_1).f2.f2))∧w'.cell? ⟨gb2,5,none⟩=some (.int .i64 ((rd_T79 l0 x3_1).f3.f0))∧w'.cell? ⟨gb2,6,none⟩=some (.int .i64 ((rd_T79 l0 x3_1).f3.f1))∧w'.cell? ⟨gb2,7,none⟩=some (.int .i64 ((rd_T79 l0 x3_1).f3.f2))∧w'.cell? ⟨gb2,8,none⟩=some (.int .i64 ((rd_T79 l0 x3_1).f4.f0))∧w'.cell? ⟨gb2,9,none⟩=some (.int .i64 ((rd_T79 l0 x3_1).f4.f1))∧w'.cell? ⟨gb2,10,none⟩=some (.int .i64 ((rd_T79 l0 x3_1).f4.f2))∧w'.cell? ⟨gb2,11,none⟩=some (.int .i64 ((rd_T79 l0 x3_1).f5))∧w'.cell? (ad1.add (((ji8)).toNat*12))=some (.string ((rd_T79 l0 (ji8)).f0))) (ds:=[]) (bt_ 67 0) (by kernel_rfl) rfl rfl ?_ (fun hHeld=> ?_);(refine ⟨?_, ?_, ?_, ?_, ?_, ?_, ?_, ?_, ?_, ?_, ?_, ?_, ?_⟩<;>first|exact pw_cell_below HBc.out (by assumption)|(go_keep;done)))|(refine start_ (n:=67) (S:=fun w'=>w'.cell? ⟨gb2,0,none⟩=some (.string ((rd_T79 l0 x3_1).f0))∧w'.cell? ⟨gb2,1,none⟩=some (.string ((rd_T79 l0 x3_1).f1))∧w'.cell? ⟨gb2,2,none⟩=some (.int .i64 ((rd_T79 l0 x3_1).f2.f0))∧w'.cell? ⟨gb2,3,none⟩=some (.int .i64 ((rd_T79 l0 x3_1).f2.f1))∧w'.cell? ⟨gb2,4,none⟩=some (.int .i64 ((rd_T79 l0 x3_1).f2.f2))∧w'.cell? ⟨gb2,5,none⟩=some (.int .i64 ((rd_T79 l0 x3_1).f3.f0))∧w'.cell? ⟨gb2,6,none⟩=some (.int .i64 ((rd_T79 l0 x3_1).f3.f1))∧w'.cell? ⟨gb2,7,none⟩=some (.int .i64 ((rd_T79 l0 x3_1).f3.f2))∧w'.cell? ⟨gb2,8,none⟩=some (.int .i64 ((rd_T79 l0 x3_1).f4.f0))∧w'.cell? ⟨gb2,9,none⟩=some (.int .i64 ((rd_T79 l0 x3_1).f4.f1))∧w'.cell? ⟨gb2,10,none⟩=some (.int .i64 ((rd_T79 l0 x3_1).f4.f2))∧w'.cell? ⟨gb2,11,none⟩=some (.int .i64 ((rd_T79 l0 x3_1).f5))) (ds:=[]) (bt_ 67 0) (by kernel_rfl) rfl rfl ?_ (fun hHeld=> ?_);(refine ⟨?_, ?_, ?_, ?_, ?_, ?_, ?_, ?_, ?_, ?_, ?_, ?_⟩<;>first|exact pw_cell_below HBc.out (by assumption)|(go_keep;done)))
        refine with_tabW r10_Right.tab7 r10_Right.bits7 (fun HT_ HW_=> ?_)
        generalize w20.drew=wd at HBc hHeld ⊢)
      all_goals (refine pu_ (i:=0) (N:=some 21) (r10_Right.tk 1) HT_ ?_)
      all_goals (refine tk_ (i:=1) (N:=some 22) (r10_Right.tk 2) HT_ HW_ hHeld ?_)
      all_goals (refine on_ (i:=2) (N:=some 23) (r10_Right.tk 3) HT_ (fun K hK=> ?_);refine gs_ Try.func67 #[.string ((rd_T79 l0 x3_1).f0)] ?_;with_reducible refine (r10_MayName.calls _ _ _ A5.out).mono ?_;rintro e wx2 ⟨rfl,hd⟩;have hb:=hd.below;clear hd;refine ⟨_,rfl, ?_⟩;have HBn:=am_ (below_step HBc.out hb);clear HBc;have HBc:=HBn;clear HBn;refine hK.out _ _ (by first|exact ⟨pw_cell_below hb hHeld.1,pw_cell_below hb hHeld.2.1,pw_cell_below hb hHeld.2.2.1,pw_cell_below hb hHeld.2.2.2.1,pw_cell_below hb hHeld.2.2.2.2.1,pw_cell_below hb hHeld.2.2.2.2.2.1,pw_cell_below hb hHeld.2.2.2.2.2.2.1,pw_cell_below hb hHeld.2.2.2.2.2.2.2.1,pw_cell_below hb hHeld.2.2.2.2.2.2.2.2.1,pw_cell_below hb hHeld.2.2.2.2.2.2.2.2.2.1,pw_cell_below hb hHeld.2.2.2.2.2.2.2.2.2.2.1,pw_cell_below hb hHeld.2.2.2.2.2.2.2.2.2.2.2.1,pw_cell_below hb hHeld.2.2.2.2.2.2.2.2.2.2.2.2⟩|exact ⟨pw_cell_below hb hHeld.1,pw_cell_below hb hHeld.2.1,pw_cell_below hb hHeld.2.2.1,pw_cell_below hb hHeld.2.2.2.1,pw_cell_below hb hHeld.2.2.2.2.1,pw_cell_below hb hHeld.2.2.2.2.2.1,pw_cell_below hb hHeld.2.2.2.2.2.2.1,pw_cell_below hb hHeld.2.2.2.2.2.2.2.1,pw_cell_below hb hHeld.2.2.2.2.2.2.2.2.1,pw_cell_below hb hHeld.2.2.2.2.2.2.2.2.2.1,pw_cell_below hb hHeld.2.2.2.2.2.2.2.2.2.2.1,pw_cell_below hb hHeld.2.2.2.2.2.2.2.2.2.2.2⟩) (fun hHeld=> ?_);clear hK K hb;refine norm_ (a':= ?_) ?_ ?_;rotate_left;(show Act.put _ (some 23) _=_;simp only [Act.put,List.setIfInBounds_toArray,List.set_cons_zero,List.set_cons_succ,i64_w,i32_w];rfl))
      all_goals (try (have H:=HC.out;clear HC;by_cases c6:t3=true;(case' pos=>subst c6;rw [if_pos rfl] at H;have HC:=Aside0.mk H;clear H);(case' neg=>rw [if_neg c6] at H;have q_:t3=false:=Bool.eq_false_iff.mpr c6;subst q_;clear c6;have HC:=Aside0.mk H;clear H)))
      all_goals (refine pu_ (i:=3) (N:=some 24) (r10_Right.tk 4) HT_ ?_)
      all_goals (refine pu_ (i:=4) (N:=some 25) (r10_Right.tk 5) HT_ ?_)
      all_goals (first|(refine pu_ (i:=5) (N:=some 26) (r10_Right.tk 6) HT_ ?_)|(refine pn_ (i:=5) (N:=some 26) (r10_Right.tk 6) HT_ ?_))
      all_goals (first|(refine pu_ (i:=6) (N:=some 27) (r10_Right.tk 7) HT_ ?_)|(refine pn_ (i:=6) (N:=some 27) (r10_Right.tk 7) HT_ ?_))
      all_goals (first|(refine pu_ (i:=7) (N:=some 28) (r10_Right.tk 8) HT_ ?_)|(refine pn_ (i:=7) (N:=some 28) (r10_Right.tk 8) HT_ ?_))
      all_goals (first|(refine pu_ (i:=8) (N:=some 29) (r10_Right.tk 9) HT_ ?_)|(refine pn_ (i:=8) (N:=some 29) (r10_Right.tk 9) HT_ ?_))
      all_goals (first|(refine pu_ (i:=9) (N:=some 30) (r10_Right.tk 10) HT_ ?_)|(refine pn_ (i:=9) (N:=some 30) (r10_Right.tk 10) HT_ ?_))
      all_goals (first|(refine pu_ (i:=10) (N:=some 31) (r10_Right.tk 11) HT_ ?_)|(refine pn_ (i:=10) (N:=some 31) (r10_Right.tk 11) HT_ ?_))
      all_goals (first|(refine pu_ (i:=11) (N:=some 32) (r10_Right.tk 12) HT_ ?_)|(refine pn_ (i:=11) (N:=some 32) (r10_Right.tk 12) HT_ ?_))
      all_goals (first|(refine pu_ (i:=12) (N:=some 33) (r10_Right.tk 13) HT_ ?_)|(refine pn_ (i:=12) (N:=some 33) (r10_Right.tk 13) HT_ ?_))
      all_goals (try (have H:=HC.out;clear HC;rw [if_neg N7.out] at H;have HC:=Aside0.mk H;clear H))
      all_goals (try (have H:=HC.out;clear HC;rw [if_pos C7.out,hji8,if_pos C9.out,if_pos C10.out] at H;by_cases c11:((Op.bytesLess (((rd_T79 l0 ji8).f0).toList) (((rd_T79 l0 x3_1).f0).toList))=true);(case' pos=>rw [if_pos c11] at H;have c11b0:(Op.bytesLess (((rd_T79 l0 ji8).f0).toList) (((rd_T79 l0 x3_1).f0).toList))=true:=c11;clear c11;have HC:=Aside0.mk H;clear H);(case' neg=>rw [if_neg c11] at H;have c11b0:(Op.bytesLess (((rd_T79 l0 ji8).f0).toList) (((rd_T79 l0 x3_1).f0).toList))=false:=Bool.eq_false_iff.mpr c11;clear c11;have HC:=Aside0.mk H;clear H)))
      all_goals (first|(refine tk_ (i:=13) (N:=some 34) (r10_Right.tk 14) HT_ HW_ hHeld ?_)|(refine pn_ (i:=13) (N:=some 34) (r10_Right.tk 14) HT_ ?_))
      all_goals (first|(refine pu_ (i:=14) (N:=some 35) (r10_Right.tk 15) HT_ ?_)|(refine pn_ (i:=14) (N:=some 35) (r10_Right.tk 15) HT_ ?_))
      all_goals (first|(refine tk_ (i:=15) (N:=some 36) (r10_Right.tk 16) HT_ HW_ hHeld ?_)|(refine pn_ (i:=15) (N:=some 36) (r10_Right.tk 16) HT_ ?_))
      all_goals (first|(refine pu_ (i:=16) (N:=some 37) (r10_Right.tk 17) HT_ ?_)|(refine pn_ (i:=16) (N:=some 37) (r10_Right.tk 17) HT_ ?_))
      all_goals (first|(refine pu_ (i:=17) (N:=some 38) (r10_Right.tk 18) HT_ ?_)|(refine pn_ (i:=17) (N:=some 38) (r10_Right.tk 18) HT_ ?_))
      all_goals (refine pu_ (i:=18) (N:=some 39) (r10_Right.tk 19) HT_ ?_)
      all_goals (refine pu_ (i:=19) (N:=some 40) (r10_Right.tk 20) HT_ ?_)
      all_goals (try (have H:=HC.out;obtain ⟨t5,A120,H2⟩:=Option.bind_eq_some_iff.mp H;clear H HC;have A12:=Aside0.mk A120;clear A120;have HC:=Aside0.mk H2;clear H2))
      all_goals (first|(refine pu_ (i:=20) (N:=some 41) (r10_Right.tk 21) HT_ ?_)|(refine pn_ (i:=20) (N:=some 41) (r10_Right.tk 21) HT_ ?_))
      all_goals (first|(refine tk_ (i:=21) (N:=some 42) (r10_Right.tk 22) HT_ HW_ hHeld ?_)|(refine pn_ (i:=21) (N:=some 42) (r10_Right.tk 22) HT_ ?_))
      all_goals (first|(refine on_ (i:=22) (N:=some 43) (r10_Right.tk 23) HT_ (fun K hK=> ?_);refine gs_ Try.func68 #[.agg #[.int .i64 ((rd_T79 l0 x3_1).f2.f0), .int .i64 ((rd_T79 l0 x3_1).f2.f1), .int .i64 ((rd_T79 l0 x3_1).f2.f2)]] ?_;with_reducible refine (r10_MayVec.calls _ _ _ _ _ A12.out).mono ?_;rintro e wx22 ⟨rfl,hb⟩;refine ⟨_,rfl, ?_⟩;have HBn:=am_ (below_step HBc.out hb);clear HBc;have HBc:=HBn;clear HBn;refine hK.out _ _ (by first|exact ⟨pw_cell_below hb hHeld.1,pw_cell_below hb hHeld.2.1,pw_cell_below hb hHeld.2.2.1,pw_cell_below hb hHeld.2.2.2.1,pw_cell_below hb hHeld.2.2.2.2.1,pw_cell_below hb hHeld.2.2.2.2.2.1,pw_cell_below hb hHeld.2.2.2.2.2.2.1,pw_cell_below hb hHeld.2.2.2.2.2.2.2.1,pw_cell_below hb hHeld.2.2.2.2.2.2.2.2.1,pw_cell_below hb hHeld.2.2.2.2.2.2.2.2.2.1,pw_cell_below hb hHeld.2.2.2.2.2.2.2.2.2.2.1,pw_cell_below hb hHeld.2.2.2.2.2.2.2.2.2.2.2.1,pw_cell_below hb hHeld.2.2.2.2.2.2.2.2.2.2.2.2⟩|exact ⟨pw_cell_below hb hHeld.1,pw_cell_below hb hHeld.2.1,pw_cell_below hb hHeld.2.2.1,pw_cell_below hb hHeld.2.2.2.1,pw_cell_below hb hHeld.2.2.2.2.1,pw_cell_below hb hHeld.2.2.2.2.2.1,pw_cell_below hb hHeld.2.2.2.2.2.2.1,pw_cell_below hb hHeld.2.2.2.2.2.2.2.1,pw_cell_below hb hHeld.2.2.2.2.2.2.2.2.1,pw_cell_below hb hHeld.2.2.2.2.2.2.2.2.2.1,pw_cell_below hb hHeld.2.2.2.2.2.2.2.2.2.2.1,pw_cell_below hb hHeld.2.2.2.2.2.2.2.2.2.2.2⟩) (fun hHeld=> ?_);clear hK K hb;refine norm_ (a':= ?_) ?_ ?_;rotate_left;(show Act.put _ (some 43) _=_;simp only [Act.put,List.setIfInBounds_toArray,List.set_cons_zero,List.set_cons_succ,i64_w,i32_w];rfl))|(refine pn_ (i:=22) (N:=some 43) (r10_Right.tk 23) HT_ ?_))
      all_goals (try (have H:=HC.out;clear HC;by_cases c13:t5=true;(case' pos=>subst c13;rw [if_pos rfl] at H;have HC:=Aside0.mk H;clear H);(case' neg=>rw [if_neg c13] at H;have q_:t5=false:=Bool.eq_false_iff.mpr c13;subst q_;clear c13;have HC:=Aside0.mk H;clear H)))
      all_goals (first|(refine pu_ (i:=23) (N:=some 44) (r10_Right.tk 24) HT_ ?_)|(refine pn_ (i:=23) (N:=some 44) (r10_Right.tk 24) HT_ ?_))
      all_goals (refine pu_ (i:=24) (N:=some 45) (r10_Right.tk 25) HT_ ?_)
      all_goals (refine pu_ (i:=25) (N:=some 46) (r10_Right.tk 26) HT_ ?_)
      all_goals (try (have H:=HC.out;obtain ⟨t6,A140,H2⟩:=Option.bind_eq_some_iff.mp H;clear H HC;have A14:=Aside0.mk A140;clear A140;have HC:=Aside0.mk H2;clear H2))
      all_goals (first|(refine pu_ (i:=26) (N:=some 47) (r10_Right.tk 27) HT_ ?_)|(refine pn_ (i:=26) (N:=some 47) (r10_Right.tk 27) HT_ ?_))
      all_goals (first|(refine tk_ (i:=27) (N:=some 48) (r10_Right.tk 28) HT_ HW_ hHeld ?_)|(refine pn_ (i:=27) (N:=some 48) (r10_Right.tk 28) HT_ ?_))
      all_goals (first|(refine on_ (i:=28) (N:=some 49) (r10_Right.tk 29) HT_ (fun K hK=> ?_);refine gs_ Try.func68 #[.agg #[.int .i64 ((rd_T79 l0 x3_1).f3.f0), .int .i64 ((rd_T79 l0 x3_1).f3.f1), .int .i64 ((rd_T79 l0 x3_1).f3.f2)]] ?_;with_reducible refine (r10_MayVec.calls _ _ _ _ _ A14.out).mono ?_;rintro e wx28 ⟨rfl,hb⟩;refine ⟨_,rfl, ?_⟩;have HBn:=am_ (below_step HBc.out hb);clear HBc;have HBc:=HBn;clear HBn;refine hK.out _ _ (by first|exact ⟨pw_cell_below hb hHeld.1,pw_cell_below hb hHeld.2.1,pw_cell_below hb hHeld.2.2.1,pw_cell_below hb hHeld.2.2.2.1,pw_cell_below hb hHeld.2.2.2.2.1,pw_cell_below hb hHeld.2.2.2.2.2.1,pw_cell_below hb hHeld.2.2.2.2.2.2.1,pw_cell_below hb hHeld.2.2.2.2.2.2.2.1,pw_cell_below hb hHeld.2.2.2.2.2.2.2.2.1,pw_cell_below hb hHeld.2.2.2.2.2.2.2.2.2.1,pw_cell_below hb hHeld.2.2.2.2.2.2.2.2.2.2.1,pw_cell_below hb hHeld.2.2.2.2.2.2.2.2.2.2.2.1,pw_cell_below hb hHeld.2.2.2.2.2.2.2.2.2.2.2.2⟩|exact ⟨pw_cell_below hb hHeld.1,pw_cell_below hb hHeld.2.1,pw_cell_below hb hHeld.2.2.1,pw_cell_below hb hHeld.2.2.2.1,pw_cell_below hb hHeld.2.2.2.2.1,pw_cell_below hb hHeld.2.2.2.2.2.1,pw_cell_below hb hHeld.2.2.2.2.2.2.1,pw_cell_below hb hHeld.2.2.2.2.2.2.2.1,pw_cell_below hb hHeld.2.2.2.2.2.2.2.2.1,pw_cell_below hb hHeld.2.2.2.2.2.2.2.2.2.1,pw_cell_below hb hHeld.2.2.2.2.2.2.2.2.2.2.1,pw_cell_below hb hHeld.2.2.2.2.2.2.2.2.2.2.2⟩) (fun hHeld=> ?_);clear hK K hb;refine norm_ (a':= ?_) ?_ ?_;rotate_left;(show Act.put _ (some 49) _=_;simp only [Act.put,List.setIfInBounds_toArray,List.set_cons_zero,List.set_cons_succ,i64_w,i32_w];rfl))|(refine pn_ (i:=28) (N:=some 49) (r10_Right.tk 29) HT_ ?_))
      all_goals (try (have H:=HC.out;clear HC;by_cases c15:t6=true;(case' pos=>subst c15;rw [if_pos rfl] at H;have HC:=Aside0.mk H;clear H);(case' neg=>rw [if_neg c15] at H;have q_:t6=false:=Bool.eq_false_iff.mpr c15;subst q_;clear c15;have HC:=Aside0.mk H;clear H)))
      all_goals (first|(refine pu_ (i:=29) (N:=some 50) (r10_Right.tk 30) HT_ ?_)|(refine pn_ (i:=29) (N:=some 50) (r10_Right.tk 30) HT_ ?_))
      all_goals (refine pu_ (i:=30) (N:=some 51) (r10_Right.tk 31) HT_ ?_)
      all_goals (refine pu_ (i:=31) (N:=some 52) (r10_Right.tk 32) HT_ ?_)
      all_goals (first|(refine pu_ (i:=32) (N:=some 53) (r10_Right.tk 33) HT_ ?_)|(refine pn_ (i:=32) (N:=some 53) (r10_Right.tk 33) HT_ ?_))
      all_goals (first|(refine tk_ (i:=33) (N:=some 54) (r10_Right.tk 34) HT_ HW_ hHeld ?_)|(refine pn_ (i:=33) (N:=some 54) (r10_Right.tk 34) HT_ ?_))
      all_goals (try (have H:=HC.out;clear HC;by_cases c16:((rd_T79 l0 x3_1).f1).toList=([]:List UInt8);(case' pos=>rw [if_pos c16] at H;have c16b0:(((rd_T79 l0 x3_1).f1).toList==([]:List UInt8))=true:=beq_iff_eq.mpr c16;have c16b1:(((rd_T79 l0 x3_1).f1).toList !=([]:List UInt8))=false:=bne_eq_false_iff_eq.mpr c16;have c16b2:(((rd_T79 l0 x3_1).f1).toList).isEmpty=true:=by rw [c16];rfl);(case' neg=>rw [if_neg c16] at H;have c16b0:(((rd_T79 l0 x3_1).f1).toList==([]:List UInt8))=false:=beq_eq_false_iff_ne.mpr c16;have c16b1:(((rd_T79 l0 x3_1).f1).toList !=([]:List UInt8))=true:=bne_iff_ne.mpr c16;have c16b2:(((rd_T79 l0 x3_1).f1).toList).isEmpty=false:=by simpa using c16);all_goals (clear c16;have HC:=Aside0.mk H;clear H)))
      all_goals (first|(refine pu_ (i:=34) (N:=some 55) (r10_Right.tk 35) HT_ ?_)|(refine pn_ (i:=34) (N:=some 55) (r10_Right.tk 35) HT_ ?_))
      all_goals (first|(refine pu_ (i:=35) (N:=some 56) (r10_Right.tk 36) HT_ ?_)|(refine pn_ (i:=35) (N:=some 56) (r10_Right.tk 36) HT_ ?_))
      all_goals (try (have H:=HC.out;have _hf:=c16b1;obtain ⟨t9,A220,H2⟩:=Option.bind_eq_some_iff.mp H;clear H HC;have A22:=Aside0.mk A220;clear A220;have HC:=Aside0.mk H2;clear H2))
      all_goals (first|(refine pu_ (i:=36) (N:=some 57) (r10_Right.tk 37) HT_ ?_)|(refine pn_ (i:=36) (N:=some 57) (r10_Right.tk 37) HT_ ?_))
      all_goals (first|(refine pu_ (i:=37) (N:=some 58) (r10_Right.tk 38) HT_ ?_)|(refine pn_ (i:=37) (N:=some 58) (r10_Right.tk 38) HT_ ?_))
      all_goals (first|(refine tk_ (i:=38) (N:=some 59) (r10_Right.tk 39) HT_ HW_ hHeld ?_)|(refine pn_ (i:=38) (N:=some 59) (r10_Right.tk 39) HT_ ?_))
      all_goals (first|(refine on_ (i:=39) (N:=some 60) (r10_Right.tk 40) HT_ (fun K hK=> ?_);refine gs_ Try.func52 #[.slice (some ad1) l0.length c0, .string ((rd_T79 l0 x3_1).f1)] ?_;refine (r10_Find.calls k1 _ _ l0 _ _ _ (Kd.C_below (Kd.C_below HR0.out HB.out) HBc.out) HC0.out A22.out).mono ?_;rintro e wx39 ⟨rfl,hd⟩;have hb:=hd.below;clear hd;refine ⟨_,rfl, ?_⟩;have HBn:=am_ (below_step HBc.out hb);clear HBc;have HBc:=HBn;clear HBn;refine hK.out _ _ (by first|exact ⟨pw_cell_below hb hHeld.1,pw_cell_below hb hHeld.2.1,pw_cell_below hb hHeld.2.2.1,pw_cell_below hb hHeld.2.2.2.1,pw_cell_below hb hHeld.2.2.2.2.1,pw_cell_below hb hHeld.2.2.2.2.2.1,pw_cell_below hb hHeld.2.2.2.2.2.2.1,pw_cell_below hb hHeld.2.2.2.2.2.2.2.1,pw_cell_below hb hHeld.2.2.2.2.2.2.2.2.1,pw_cell_below hb hHeld.2.2.2.2.2.2.2.2.2.1,pw_cell_below hb hHeld.2.2.2.2.2.2.2.2.2.2.1,pw_cell_below hb hHeld.2.2.2.2.2.2.2.2.2.2.2.1,pw_cell_below hb hHeld.2.2.2.2.2.2.2.2.2.2.2.2⟩|exact ⟨pw_cell_below hb hHeld.1,pw_cell_below hb hHeld.2.1,pw_cell_below hb hHeld.2.2.1,pw_cell_below hb hHeld.2.2.2.1,pw_cell_below hb hHeld.2.2.2.2.1,pw_cell_below hb hHeld.2.2.2.2.2.1,pw_cell_below hb hHeld.2.2.2.2.2.2.1,pw_cell_below hb hHeld.2.2.2.2.2.2.2.1,pw_cell_below hb hHeld.2.2.2.2.2.2.2.2.1,pw_cell_below hb hHeld.2.2.2.2.2.2.2.2.2.1,pw_cell_below hb hHeld.2.2.2.2.2.2.2.2.2.2.1,pw_cell_below hb hHeld.2.2.2.2.2.2.2.2.2.2.2⟩) (fun hHeld=> ?_);clear hK K hb;refine norm_ (a':= ?_) ?_ ?_;rotate_left;(show Act.put _ (some 60) _=_;simp only [Act.put,List.setIfInBounds_toArray,List.set_cons_zero,List.set_cons_succ,i64_w,i32_w];rfl))|(refine pn_ (i:=39) (N:=some 60) (r10_Right.tk 40) HT_ ?_))
      all_goals (try (have H:=HC.out;clear HC;by_cases c23:t9<0;(case' pos=>rw [if_pos c23] at H;have c23b0:decide (t9<0)=true:=decide_eq_true c23;clear c23;have HC:=Aside0.mk H;clear H);(case' neg=>rw [if_neg c23] at H;have c23b0:decide (t9<0)=false:=decide_eq_false c23;clear c23;have HC:=Aside0.mk H;clear H)))
      all_goals (first|(refine pu_ (i:=40) (N:=some 61) (r10_Right.tk 41) HT_ ?_)|(refine pn_ (i:=40) (N:=some 61) (r10_Right.tk 41) HT_ ?_))
      all_goals (first|(refine pu_ (i:=41) (N:=some 62) (r10_Right.tk 42) HT_ ?_)|(refine pn_ (i:=41) (N:=some 62) (r10_Right.tk 42) HT_ ?_))
      all_goals (refine pu_ (i:=42) (N:=some 63) (r10_Right.tk 43) HT_ ?_)
      all_goals (refine pu_ (i:=43) (N:=some 64) (r10_Right.tk 44) HT_ ?_)
      all_goals (first|(refine pu_ (i:=44) (N:=some 65) (r10_Right.tk 45) HT_ ?_)|(refine pn_ (i:=44) (N:=some 65) (r10_Right.tk 45) HT_ ?_))
      all_goals (first|(refine tk_ (i:=45) (N:=some 66) (r10_Right.tk 46) HT_ HW_ hHeld ?_)|(refine pn_ (i:=45) (N:=some 66) (r10_Right.tk 46) HT_ ?_))
      all_goals (try (have H:=HC.out;clear HC;by_cases c17:(rd_T79 l0 x3_1).f5<1;(case' pos=>rw [if_pos c17] at H;have c17b0:decide ((rd_T79 l0 x3_1).f5<1)=true:=decide_eq_true c17;clear c17;have HC:=Aside0.mk H;clear H);(case' neg=>rw [if_neg c17] at H;have c17b0:decide ((rd_T79 l0 x3_1).f5<1)=false:=decide_eq_false c17;clear c17;have HC:=Aside0.mk H;clear H)))
      all_goals (first|(refine pu_ (i:=46) (N:=some 67) (r10_Right.tk 47) HT_ ?_)|(refine pn_ (i:=46) (N:=some 67) (r10_Right.tk 47) HT_ ?_))
      all_goals (refine pu_ (i:=47) (N:=some 68) (r10_Right.tk 48) HT_ ?_)
      all_goals (refine pu_ (i:=48) (N:=some 69) (r10_Right.tk 49) HT_ ?_)
      all_goals (first|(refine pu_ (i:=49) (N:=some 70) (r10_Right.tk 50) HT_ ?_)|(refine pn_ (i:=49) (N:=some 70) (r10_Right.tk 50) HT_ ?_))
      all_goals (first|(refine tk_ (i:=50) (N:=some 71) (r10_Right.tk 51) HT_ HW_ hHeld ?_)|(refine pn_ (i:=50) (N:=some 71) (r10_Right.tk 51) HT_ ?_))
      all_goals (try (have H:=HC.out;clear HC;by_cases c18:(rd_T79 l0 x3_1).f5>9007199254740992;(case' pos=>rw [if_pos c18] at H;have c18b0:decide (9007199254740992<(rd_T79 l0 x3_1).f5)=true:=decide_eq_true c18;clear c18;have HC:=Aside0.mk H;clear H);(case' neg=>rw [if_neg c18] at H;have c18b0:decide (9007199254740992<(rd_T79 l0 x3_1).f5)=false:=decide_eq_false c18;clear c18;have HC:=Aside0.mk H;clear H)))
      all_goals (first|(refine pu_ (i:=51) (N:=some 72) (r10_Right.tk 52) HT_ ?_)|(refine pn_ (i:=51) (N:=some 72) (r10_Right.tk 52) HT_ ?_))
      all_goals (refine pu_ (i:=52) (N:=some 73) (r10_Right.tk 53) HT_ ?_)
      all_goals (refine pu_ (i:=53) (N:=some 74) (r10_Right.tk 54) HT_ ?_)
      all_goals (try (have H:=HC.out;obtain ⟨t7,A390,H2⟩:=Option.bind_eq_some_iff.mp H;clear H HC;have A39:=Aside0.mk A390;clear A390;have HC:=Aside0.mk H2;clear H2))
      all_goals (first|(refine pu_ (i:=54) (N:=some 75) (r10_Right.tk 55) HT_ ?_)|(refine pn_ (i:=54) (N:=some 75) (r10_Right.tk 55) HT_ ?_))
      all_goals (first|(refine tk_ (i:=55) (N:=some 76) (r10_Right.tk 56) HT_ HW_ hHeld ?_)|(refine pn_ (i:=55) (N:=some 76) (r10_Right.tk 56) HT_ ?_))
      all_goals (first|(refine pu_ (i:=56) (N:=some 77) (r10_Right.tk 57) HT_ ?_)|(refine pn_ (i:=56) (N:=some 77) (r10_Right.tk 57) HT_ ?_))
      all_goals (first|(refine tk_ (i:=57) (N:=some 78) (r10_Right.tk 58) HT_ HW_ hHeld ?_)|(refine pn_ (i:=57) (N:=some 78) (r10_Right.tk 58) HT_ ?_))
      all_goals (first|(refine on_ (i:=58) (N:=some 79) (r10_Right.tk 59) HT_ (fun K hK=> ?_);refine gs_ Try.func71 #[.agg #[.int .i64 ((rd_T79 l0 x3_1).f4.f0), .int .i64 ((rd_T79 l0 x3_1).f4.f1), .int .i64 ((rd_T79 l0 x3_1).f4.f2)], .agg #[.int .i64 ((rd_T79 l0 x3_1).f2.f0), .int .i64 ((rd_T79 l0 x3_1).f2.f1), .int .i64 ((rd_T79 l0 x3_1).f2.f2)]] ?_;with_reducible refine (r10_Le.calls _ _ _ _ _ _ _ _ A39.out).mono ?_;rintro e wx58 ⟨rfl,hb⟩;refine ⟨_,rfl, ?_⟩;have HBn:=am_ (below_step HBc.out hb);clear HBc;have HBc:=HBn;clear HBn;refine hK.out _ _ (by first|exact ⟨pw_cell_below hb hHeld.1,pw_cell_below hb hHeld.2.1,pw_cell_below hb hHeld.2.2.1,pw_cell_below hb hHeld.2.2.2.1,pw_cell_below hb hHeld.2.2.2.2.1,pw_cell_below hb hHeld.2.2.2.2.2.1,pw_cell_below hb hHeld.2.2.2.2.2.2.1,pw_cell_below hb hHeld.2.2.2.2.2.2.2.1,pw_cell_below hb hHeld.2.2.2.2.2.2.2.2.1,pw_cell_below hb hHeld.2.2.2.2.2.2.2.2.2.1,pw_cell_below hb hHeld.2.2.2.2.2.2.2.2.2.2.1,pw_cell_below hb hHeld.2.2.2.2.2.2.2.2.2.2.2.1,pw_cell_below hb hHeld.2.2.2.2.2.2.2.2.2.2.2.2⟩|exact ⟨pw_cell_below hb hHeld.1,pw_cell_below hb hHeld.2.1,pw_cell_below hb hHeld.2.2.1,pw_cell_below hb hHeld.2.2.2.1,pw_cell_below hb hHeld.2.2.2.2.1,pw_cell_below hb hHeld.2.2.2.2.2.1,pw_cell_below hb hHeld.2.2.2.2.2.2.1,pw_cell_below hb hHeld.2.2.2.2.2.2.2.1,pw_cell_below hb hHeld.2.2.2.2.2.2.2.2.1,pw_cell_below hb hHeld.2.2.2.2.2.2.2.2.2.1,pw_cell_below hb hHeld.2.2.2.2.2.2.2.2.2.2.1,pw_cell_below hb hHeld.2.2.2.2.2.2.2.2.2.2.2⟩) (fun hHeld=> ?_);clear hK K hb;refine norm_ (a':= ?_) ?_ ?_;rotate_left;(show Act.put _ (some 79) _=_;simp only [Act.put,List.setIfInBounds_toArray,List.set_cons_zero,List.set_cons_succ,i64_w,i32_w];rfl))|(refine pn_ (i:=58) (N:=some 79) (r10_Right.tk 59) HT_ ?_))
      all_goals (try (have H:=HC.out;clear HC;by_cases c40:t7=true;(case' pos=>subst c40;rw [if_pos rfl] at H;have HC:=Aside0.mk H;clear H);(case' neg=>rw [if_neg c40] at H;have q_:t7=false:=Bool.eq_false_iff.mpr c40;subst q_;clear c40;have HC:=Aside0.mk H;clear H)))
      all_goals (first|(refine pu_ (i:=59) (N:=some 80) (r10_Right.tk 60) HT_ ?_)|(refine pn_ (i:=59) (N:=some 80) (r10_Right.tk 60) HT_ ?_))
      all_goals (refine pu_ (i:=60) (N:=some 81) (r10_Right.tk 61) HT_ ?_)
      all_goals (refine pu_ (i:=61) (N:=some 82) (r10_Right.tk 62) HT_ ?_)
      all_goals (try (have H:=HC.out;obtain ⟨t8,A580,H2⟩:=Option.bind_eq_some_iff.mp H;clear H HC;have A58:=Aside0.mk A580;clear A580;have HC:=Aside0.mk H2;clear H2))
      all_goals (first|(refine pu_ (i:=62) (N:=some 83) (r10_Right.tk 63) HT_ ?_)|(refine pn_ (i:=62) (N:=some 83) (r10_Right.tk 63) HT_ ?_))
      all_goals (first|(refine tk_ (i:=63) (N:=some 84) (r10_Right.tk 64) HT_ HW_ hHeld ?_)|(refine pn_ (i:=63) (N:=some 84) (r10_Right.tk 64) HT_ ?_))
      all_goals (first|(refine on_ (i:=64) (N:=some 85) (r10_Right.tk 65) HT_ (fun K hK=> ?_);refine gs_ Try.func68 #[.agg #[.int .i64 ((rd_T79 l0 x3_1).f4.f0), .int .i64 ((rd_T79 l0 x3_1).f4.f1), .int .i64 ((rd_T79 l0 x3_1).f4.f2)]] ?_;with_reducible refine (r10_MayVec.calls _ _ _ _ _ A58.out).mono ?_;rintro e wx64 ⟨rfl,hb⟩;refine ⟨_,rfl, ?_⟩;have HBn:=am_ (below_step HBc.out hb);clear HBc;have HBc:=HBn;clear HBn;refine hK.out _ _ (by first|exact ⟨pw_cell_below hb hHeld.1,pw_cell_below hb hHeld.2.1,pw_cell_below hb hHeld.2.2.1,pw_cell_below hb hHeld.2.2.2.1,pw_cell_below hb hHeld.2.2.2.2.1,pw_cell_below hb hHeld.2.2.2.2.2.1,pw_cell_below hb hHeld.2.2.2.2.2.2.1,pw_cell_below hb hHeld.2.2.2.2.2.2.2.1,pw_cell_below hb hHeld.2.2.2.2.2.2.2.2.1,pw_cell_below hb hHeld.2.2.2.2.2.2.2.2.2.1,pw_cell_below hb hHeld.2.2.2.2.2.2.2.2.2.2.1,pw_cell_below hb hHeld.2.2.2.2.2.2.2.2.2.2.2.1,pw_cell_below hb hHeld.2.2.2.2.2.2.2.2.2.2.2.2⟩|exact ⟨pw_cell_below hb hHeld.1,pw_cell_below hb hHeld.2.1,pw_cell_below hb hHeld.2.2.1,pw_cell_below hb hHeld.2.2.2.1,pw_cell_below hb hHeld.2.2.2.2.1,pw_cell_below hb hHeld.2.2.2.2.2.1,pw_cell_below hb hHeld.2.2.2.2.2.2.1,pw_cell_below hb hHeld.2.2.2.2.2.2.2.1,pw_cell_below hb hHeld.2.2.2.2.2.2.2.2.1,pw_cell_below hb hHeld.2.2.2.2.2.2.2.2.2.1,pw_cell_below hb hHeld.2.2.2.2.2.2.2.2.2.2.1,pw_cell_below hb hHeld.2.2.2.2.2.2.2.2.2.2.2⟩) (fun hHeld=> ?_);clear hK K hb;refine norm_ (a':= ?_) ?_ ?_;rotate_left;(show Act.put _ (some 85) _=_;simp only [Act.put,List.setIfInBounds_toArray,List.set_cons_zero,List.set_cons_succ,i64_w,i32_w];rfl))|(refine pn_ (i:=64) (N:=some 85) (r10_Right.tk 65) HT_ ?_))
      all_goals (try (have H:=HC.out;clear HC;by_cases c59:t8=true;(case' pos=>subst c59;rw [if_pos rfl] at H;have HC:=Aside0.mk H;clear H);(case' neg=>rw [if_neg c59] at H;have q_:t8=false:=Bool.eq_false_iff.mpr c59;subst q_;clear c59;have HC:=Aside0.mk H;clear H)))
      all_goals (first|(refine pu_ (i:=65) (N:=some 86) (r10_Right.tk 66) HT_ ?_)|(refine pn_ (i:=65) (N:=some 86) (r10_Right.tk 66) HT_ ?_))
      all_goals (refine pu_ (i:=66) (N:=some 87) (r10_Right.tk 67) HT_ ?_)
      all_goals (refine done_ (done_of HT_.out (by kernel_rfl)) ?_;try go_wp2)
      all_goals (first|(obtain rfl:=Option.some.inj HC.out;go_wp2;go_ret;exact ⟨rfl,below_step HB.out HBc.out⟩)|(go_roundg k1;(case measure=>have:=HK1.out;omega);(case rel=>exact ⟨(wrap64 (x3_1+1)),rf_,HC,⟨by have:=HK1.out;omega⟩,⟨below_step HB.out HBc.out⟩⟩)))
     ·rw [if_neg c4] at H;exact absurd H (by simp)
    ·rw [if_neg c3] at H;have c3b0:=decide_eq_false c3;clear c3;have H':=Aside0.mk H;clear H;go_wp2
     go_loopg [5] k1 (fun kq v5 w'=> ∃(x5_2:Int),v5= .int .i64 x5_2∧Aside0 (r10_Right.l1 kq l0 x5_2=some r)∧Aside0 (kq≤k1)∧Aside0 (Below w.heap.size w w'))
     case atStart=>exact ⟨(0),rf_,H',⟨Nat.le_refl _⟩,⟨zl0_ HB⟩⟩
     case round=>
      clear H';obtain ⟨x5_2,rfl,HA,HK2,HB⟩:=hrel
      cases gk with
      |zero=>exact absurd HA.out (by simp [r10_Right.l1])
      |succ k2=>
       have H:=HA.out;clear HA;simp only [r10_Right.l1] at H;by_cases c232:x5_2<(l0.length:Int)
       ·rw [if_pos c232] at H;have c232b0:=decide_eq_true c232;clear c232;by_cases c233:0≤x5_2
        ·rw [if_pos c233] at H;have c233b0:=decide_eq_true c233;clear c233;have H':=Aside0.mk H;clear H;obtain ⟨p19,q19,ad19,e19,hx19_0,hx19_1,hx19_2,hx19_3,hx19_4,hx19_5,hx19_6,hx19_7,hx19_8,hx19_9,hx19_10,hx19_11⟩:=zat_ (at_T79 HR0.out x5_2);cases e19;replace hx19_0:=zx12_ HB hx19_0 hx19_1 hx19_2 hx19_3 hx19_4 hx19_5 hx19_6 hx19_7 hx19_8 hx19_9 hx19_10 hx19_11;clear hx19_1 hx19_2 hx19_3 hx19_4 hx19_5 hx19_6 hx19_7 hx19_8 hx19_9 hx19_10 hx19_11;obtain ⟨hx19_0,hx19_1,hx19_2,hx19_3,hx19_4,hx19_5,hx19_6,hx19_7,hx19_8,hx19_9,hx19_10,hx19_11⟩:=hx19_0;go_wp2_with (first|((with_reducible refine gate_dst (N:=6) rfl ?_);(try (refine gate_guard (by rfl) ?_;dsimp only));refine bx_ (N:=6) (cs:=#[.int .i64 0, .int .i64 0, .int .i64 0]) (t:=37) ?_;intro gb20 hg w234 hbox hb;have BK20:=am_ (hbox);have GE20:=am_ ((zg0_ HB hg:w.heap.size≤gb20));replace HB:=am_ (below_step (zl0_ HB) hb);clear hb hbox hg;obtain ⟨hcz235_0,hcz235_1,hcz235_2⟩:=x3_ BK20;have hfz235_0:=blk_frozen BK20.out 0;have hfz235_1:=blk_frozen BK20.out 1;have hfz235_2:=blk_frozen BK20.out 2))
         go_loopg [7] k2 (fun kq v7 w'=> ∃(x7_3:Int) (x21000_3:Int) (x21001_3:Int) (x21002_3:Int),v7= .int .i64 x7_3∧Aside0 (r10_Right.l2 kq l0 x5_2 x7_3 x21000_3 x21001_3 x21002_3=some r)∧Aside0 (kq≤k2)∧Aside0 (w'.heap[gb20]?=some (.cells #[.int .i64 x21000_3, .int .i64 x21001_3, .int .i64 x21002_3] 37 (0,0)))∧Aside0 (Below w.heap.size w w'))
         case atStart=>exact ⟨(0),((rd_T79 l0 x5_2).f3.f0),((rd_T79 l0 x5_2).f3.f1),((rd_T79 l0 x5_2).f3.f2),rf_,H',⟨Nat.le_refl _⟩,⟨zw_ BK20⟩,⟨zl1_ HB GE20⟩⟩
         case round=>
          clear H';obtain ⟨x7_3,x21000_3,x21001_3,x21002_3,rfl,HA,HK3,BK20,HB⟩:=hrel
          cases gk with
          |zero=>exact absurd HA.out (by simp [r10_Right.l2])
          |succ k3=>
           have H:=HA.out;clear HA;simp only [r10_Right.l2] at H;by_cases c236:x7_3<(l0.length:Int)
           ·rw [if_pos c236] at H;have c236b0:=decide_eq_true c236;clear c236;by_cases c237:0≤x7_3
            ·rw [if_pos c237] at H;have c237b0:=decide_eq_true c237;clear c237;by_cases c238:0≤x5_2
             ·rw [if_pos c238] at H;have c238b0:=decide_eq_true c238;clear c238;by_cases c239:x5_2<(l0.length:Int)
              ·rw [if_pos c239] at H;have c239b0:=decide_eq_true c239;clear c239;by_cases c240:((rd_T79 l0 x7_3).f1).toList=((rd_T79 l0 x5_2).f0).toList
               ·rw [if_pos c240] at H;have c240b0:=beq_iff_eq.mpr c240;have c240b1:=bne_eq_false_iff_eq.mpr c240;clear c240;replace H:=zbd_ H;obtain ⟨⟨t24,t25,t26⟩,A241,H⟩:=H;try dsimp only at H
                have H':=Aside0.mk H;clear H;try go_wp2
                replace BK20:=am_ (blk_drew BK20.out);replace HB:=am_ (below_drew1 HB.out);have p21:0≤(x7_3:Int):=of_decide_eq_true zq_;have q21:x7_3<(l0.length:Int):=of_decide_eq_true zq_;obtain ⟨ad21,e21,hx21_0,hx21_1,hx21_2,hx21_3,hx21_4,hx21_5,hx21_6,hx21_7,hx21_8,hx21_9,hx21_10,hx21_11⟩:=at_T79 HR0.out x7_3 p21 q21;have hw21_10:=hx21_10;have hw21_9:=hx21_9;have hw21_8:=hx21_8;have hw21_1:=hx21_1;obtain rfl:ad19=ad21:=(by injection e21);replace hx21_0:=zx12_ HB hx21_0 hx21_1 hx21_2 hx21_3 hx21_4 hx21_5 hx21_6 hx21_7 hx21_8 hx21_9 hx21_10 hx21_11;clear hx21_1 hx21_2 hx21_3 hx21_4 hx21_5 hx21_6 hx21_7 hx21_8 hx21_9 hx21_10 hx21_11;obtain ⟨hx21_0,hx21_1,hx21_2,hx21_3,hx21_4,hx21_5,hx21_6,hx21_7,hx21_8,hx21_9,hx21_10,hx21_11⟩:=hx21_0;replace p21:=eq_true p21;replace q21:=eq_true q21;have p22:0≤(x5_2:Int):=of_decide_eq_true zq_;have q22:x5_2<(l0.length:Int):=of_decide_eq_true zq_;obtain ⟨ad22,e22,hx22_0,hx22_1,hx22_2,hx22_3,hx22_4,hx22_5,hx22_6,hx22_7,hx22_8,hx22_9,hx22_10,hx22_11⟩:=at_T79 HR0.out x5_2 p22 q22;have hw22_10:=hx22_10;have hw22_9:=hx22_9;have hw22_8:=hx22_8;have hw22_0:=hx22_0;obtain rfl:ad19=ad22:=(by injection e22);replace hx22_0:=zx12_ HB hx22_0 hx22_1 hx22_2 hx22_3 hx22_4 hx22_5 hx22_6 hx22_7 hx22_8 hx22_9 hx22_10 hx22_11;clear hx22_1 hx22_2 hx22_3 hx22_4 hx22_5 hx22_6 hx22_7 hx22_8 hx22_9 hx22_10 hx22_11;obtain ⟨hx22_0,hx22_1,hx22_2,hx22_3,hx22_4,hx22_5,hx22_6,hx22_7,hx22_8,hx22_9,hx22_10,hx22_11⟩:=hx22_0;replace p22:=eq_true p22;replace q22:=eq_true q22
                refine start_ (n:=11) (S:=fun w'=>w'.cell? ⟨(ad19.add ((x7_3).toNat*12)).block,(ad19.add ((x7_3).toNat*12)).off+1,none⟩=some (.string ((rd_T79 l0 x7_3).f1))∧w'.cell? ⟨(ad19.add ((x7_3).toNat*12)).block,(ad19.add ((x7_3).toNat*12)).off+8,none⟩=some (.int .i64 ((rd_T79 l0 x7_3).f4.f0))∧w'.cell? ⟨(ad19.add ((x7_3).toNat*12)).block,(ad19.add ((x7_3).toNat*12)).off+9,none⟩=some (.int .i64 ((rd_T79 l0 x7_3).f4.f1))∧w'.cell? ⟨(ad19.add ((x7_3).toNat*12)).block,(ad19.add ((x7_3).toNat*12)).off+10,none⟩=some (.int .i64 ((rd_T79 l0 x7_3).f4.f2))∧w'.cell? (ad19.add ((x5_2).toNat*12))=some (.string ((rd_T79 l0 x5_2).f0))∧w'.cell? ⟨(ad19.add ((x5_2).toNat*12)).block,(ad19.add ((x5_2).toNat*12)).off+8,none⟩=some (.int .i64 ((rd_T79 l0 x5_2).f4.f0))∧w'.cell? ⟨(ad19.add ((x5_2).toNat*12)).block,(ad19.add ((x5_2).toNat*12)).off+9,none⟩=some (.int .i64 ((rd_T79 l0 x5_2).f4.f1))∧w'.cell? ⟨(ad19.add ((x5_2).toNat*12)).block,(ad19.add ((x5_2).toNat*12)).off+10,none⟩=some (.int .i64 ((rd_T79 l0 x5_2).f4.f2))) (ds:=[]) (bt_ 11 0) (by kernel_rfl) rfl rfl ⟨(zx_ HB hw21_1:),(zx_ HB hw21_8:),(zx_ HB hw21_9:),(zx_ HB hw21_10:),(zx_ HB hw22_0:),(zx_ HB hw22_8:),(zx_ HB hw22_9:),(zx_ HB hw22_10:)⟩ (fun hHeld=> ?_);refine with_tabW r10_Right.tab16 r10_Right.bits16 (fun HT_ HW_=> ?_)
                generalize wr.drew=w242 at BK20 HB hx21_0 hx21_1 hx21_10 hx21_11 hx21_2 hx21_3 hx21_4 hx21_5 hx21_6 hx21_7 hx21_8 hx21_9 hx22_0 hx22_1 hx22_10 hx22_11 hx22_2 hx22_3 hx22_4 hx22_5 hx22_6 hx22_7 hx22_8 hx22_9 hHeld ⊢;refine ru_ 0 HT_ ?_;refine ru_ 1 HT_ ?_;refine ru_ 2 HT_ ?_;refine ru_ 3 HT_ ?_;refine ru_ 5 HT_ ?_;refine ru_ 6 HT_ ?_;refine ru_ 7 HT_ ?_;refine ru_ 8 HT_ ?_;refine rk_ 4 HT_ HW_ hHeld ?_;refine rk_ 9 HT_ HW_ hHeld ?_;refine ru_ 10 HT_ ?_;refine done_ (done_of HT_.out (by kernel_rfl)) ?_;try go_wp2
                replace BK20:=am_ (blk_drew BK20.out);replace HB:=am_ (below_drew1 HB.out);have p23:0≤(x7_3:Int):=of_decide_eq_true zq_;have q23:x7_3<(l0.length:Int):=of_decide_eq_true zq_;obtain ⟨ad23,e23,hx23_0,hx23_1,hx23_2,hx23_3,hx23_4,hx23_5,hx23_6,hx23_7,hx23_8,hx23_9,hx23_10,hx23_11⟩:=at_T79 HR0.out x7_3 p23 q23;have hw23_10:=hx23_10;have hw23_9:=hx23_9;have hw23_8:=hx23_8;have hw23_1:=hx23_1;obtain rfl:ad19=ad23:=(by injection e23);replace hx23_0:=zx12_ HB hx23_0 hx23_1 hx23_2 hx23_3 hx23_4 hx23_5 hx23_6 hx23_7 hx23_8 hx23_9 hx23_10 hx23_11;clear hx23_1 hx23_2 hx23_3 hx23_4 hx23_5 hx23_6 hx23_7 hx23_8 hx23_9 hx23_10 hx23_11;obtain ⟨hx23_0,hx23_1,hx23_2,hx23_3,hx23_4,hx23_5,hx23_6,hx23_7,hx23_8,hx23_9,hx23_10,hx23_11⟩:=hx23_0;replace p23:=eq_true p23;replace q23:=eq_true q23
                refine start_ (n:=8) (S:=fun w'=>w'.cell? ⟨gb20,0,none⟩=some (.int .i64 x21000_3)∧w'.cell? ⟨gb20,1,none⟩=some (.int .i64 x21001_3)∧w'.cell? ⟨gb20,2,none⟩=some (.int .i64 x21002_3)∧w'.cell? ⟨(ad19.add ((x7_3).toNat*12)).block,(ad19.add ((x7_3).toNat*12)).off+1,none⟩=some (.string ((rd_T79 l0 x7_3).f1))∧w'.cell? ⟨(ad19.add ((x7_3).toNat*12)).block,(ad19.add ((x7_3).toNat*12)).off+8,none⟩=some (.int .i64 ((rd_T79 l0 x7_3).f4.f0))∧w'.cell? ⟨(ad19.add ((x7_3).toNat*12)).block,(ad19.add ((x7_3).toNat*12)).off+9,none⟩=some (.int .i64 ((rd_T79 l0 x7_3).f4.f1))∧w'.cell? ⟨(ad19.add ((x7_3).toNat*12)).block,(ad19.add ((x7_3).toNat*12)).off+10,none⟩=some (.int .i64 ((rd_T79 l0 x7_3).f4.f2))) (ds:=[7]) (bt_ 8 0) (by kernel_rfl) rfl rfl ⟨(blk_cell BK20.out 0).trans rfl,(blk_cell BK20.out 1).trans rfl,(blk_cell BK20.out 2).trans rfl,(zx_ HB hw23_1:),(zx_ HB hw23_8:),(zx_ HB hw23_9:),(zx_ HB hw23_10:)⟩ (fun hHeld=> ?_);refine with_tabW r10_Right.tab17 r10_Right.bits17 (fun HT_ HW_=> ?_);generalize w242.drew=w243 at BK20 HB hx23_0 hx23_1 hx23_10 hx23_11 hx23_2 hx23_3 hx23_4 hx23_5 hx23_6 hx23_7 hx23_8 hx23_9 hHeld ⊢;refine ru_ 1 HT_ ?_;refine ru_ 2 HT_ ?_;refine ru_ 3 HT_ ?_;refine ru_ 4 HT_ ?_;refine rk_ 0 HT_ HW_ hHeld ?_;refine rk_ 5 HT_ HW_ hHeld ?_;refine on_ (i:=6) (N:=some 122) (bt_ 8 127) HT_ (fun K hK=> ?_)
                refine gs_ Try.func70 #[.agg #[.int .i64 x21000_3, .int .i64 x21001_3, .int .i64 x21002_3], .agg #[.int .i64 ((rd_T79 l0 x7_3).f4.f0), .int .i64 ((rd_T79 l0 x7_3).f4.f1), .int .i64 ((rd_T79 l0 x7_3).f4.f2)]] ?_
                with_reducible refine (r10_Add.calls x21000_3 x21001_3 x21002_3 ((rd_T79 l0 x7_3).f4.f0) ((rd_T79 l0 x7_3).f4.f1) ((rd_T79 l0 x7_3).f4.f2) t24 t25 t26 _ A241.out).mono ?_
                rintro e w244 ⟨rfl,hb⟩;refine ⟨_,rfl, ?_⟩;replace BK20:=bb_ BK20 hb;replace HB:=am_ (below_step (zl1_ HB GE20) hb);(try clear hb);refine hK.out _ _ ⟨(blk_cell BK20.out 0).trans rfl,(blk_cell BK20.out 1).trans rfl,(blk_cell BK20.out 2).trans rfl,(zx_ HB hw23_1:),(zx_ HB hw23_8:),(zx_ HB hw23_9:),(zx_ HB hw23_10:)⟩ (fun hHeld=> ?_);clear hK K;refine no_ (N:=some 122) ?_;refine last_ (i:=7) (N:=none) (bt_ 8 255) rfl rfl (one_of HT_.out (by kernel_rfl)) (by decide) (fun K hK=> ?_);have hs245:w244.cell? ⟨gb20,0,none⟩=some (.int .i64 x21000_3):=zz_ BK20 0;have hfs245:=blk_frozen BK20.out 0;have hs246:w244.cell? ⟨gb20,1,none⟩=some (.int .i64 x21001_3):=zz_ BK20 1;have hfs246:=blk_frozen BK20.out 1;have hs247:w244.cell? ⟨gb20,2,none⟩=some (.int .i64 x21002_3):=zz_ BK20 2;have hfs247:=blk_frozen BK20.out 2;refine skip_ (w1:= ?_) (by rfl) rfl ?_ ?_;rotate_left
                ·go_simp
                 rfl
                refine hK.out _ _ ?_;clear hK K;refine done_ (done_of HT_.out (by kernel_rfl)) ?_;try go_wp2
                go_roundg k3
                case measure=>have:=HK1.out;have:=HK2.out;have:=HK3.out;omega
                case rel=>exact ⟨(wrap64 (x7_3+1)),(t24),(t25),(t26),rf_,H',⟨by have:=HK1.out;have:=HK2.out;have:=HK3.out;omega⟩,⟨zw_ BK20⟩,⟨zl1_ HB GE20⟩⟩
               ·rw [if_neg c240] at H;have c240b0:=beq_eq_false_iff_ne.mpr c240;have c240b1:=bne_iff_ne.mpr c240;have H':=Aside0.mk H;clear H;try go_wp2
                replace BK20:=am_ (blk_drew BK20.out);replace HB:=am_ (below_drew1 HB.out);have p21:0≤(x7_3:Int):=of_decide_eq_true zq_;have q21:x7_3<(l0.length:Int):=of_decide_eq_true zq_;obtain ⟨ad21,e21,hx21_0,hx21_1,hx21_2,hx21_3,hx21_4,hx21_5,hx21_6,hx21_7,hx21_8,hx21_9,hx21_10,hx21_11⟩:=at_T79 HR0.out x7_3 p21 q21;have hw21_10:=hx21_10;have hw21_9:=hx21_9;have hw21_8:=hx21_8;have hw21_1:=hx21_1;obtain rfl:ad19=ad21:=(by injection e21);replace hx21_0:=zx12_ HB hx21_0 hx21_1 hx21_2 hx21_3 hx21_4 hx21_5 hx21_6 hx21_7 hx21_8 hx21_9 hx21_10 hx21_11;clear hx21_1 hx21_2 hx21_3 hx21_4 hx21_5 hx21_6 hx21_7 hx21_8 hx21_9 hx21_10 hx21_11;obtain ⟨hx21_0,hx21_1,hx21_2,hx21_3,hx21_4,hx21_5,hx21_6,hx21_7,hx21_8,hx21_9,hx21_10,hx21_11⟩:=hx21_0;replace p21:=eq_true p21;replace q21:=eq_true q21;have p22:0≤(x5_2:Int):=of_decide_eq_true zq_;have q22:x5_2<(l0.length:Int):=of_decide_eq_true zq_;obtain ⟨ad22,e22,hx22_0,hx22_1,hx22_2,hx22_3,hx22_4,hx22_5,hx22_6,hx22_7,hx22_8,hx22_9,hx22_10,hx22_11⟩:=at_T79 HR0.out x5_2 p22 q22;have hw22_10:=hx22_10;have hw22_9:=hx22_9;have hw22_8:=hx22_8;have hw22_0:=hx22_0;obtain rfl:ad19=ad22:=(by injection e22);replace hx22_0:=zx12_ HB hx22_0 hx22_1 hx22_2 hx22_3 hx22_4 hx22_5 hx22_6 hx22_7 hx22_8 hx22_9 hx22_10 hx22_11;clear hx22_1 hx22_2 hx22_3 hx22_4 hx22_5 hx22_6 hx22_7 hx22_8 hx22_9 hx22_10 hx22_11;obtain ⟨hx22_0,hx22_1,hx22_2,hx22_3,hx22_4,hx22_5,hx22_6,hx22_7,hx22_8,hx22_9,hx22_10,hx22_11⟩:=hx22_0;replace p22:=eq_true p22;replace q22:=eq_true q22
                refine start_ (n:=11) (S:=fun w'=>w'.cell? ⟨(ad19.add ((x7_3).toNat*12)).block,(ad19.add ((x7_3).toNat*12)).off+1,none⟩=some (.string ((rd_T79 l0 x7_3).f1))∧w'.cell? (ad19.add ((x5_2).toNat*12))=some (.string ((rd_T79 l0 x5_2).f0))∧w'.cell? ⟨(ad19.add ((x5_2).toNat*12)).block,(ad19.add ((x5_2).toNat*12)).off+8,none⟩=some (.int .i64 ((rd_T79 l0 x5_2).f4.f0))∧w'.cell? ⟨(ad19.add ((x5_2).toNat*12)).block,(ad19.add ((x5_2).toNat*12)).off+9,none⟩=some (.int .i64 ((rd_T79 l0 x5_2).f4.f1))∧w'.cell? ⟨(ad19.add ((x5_2).toNat*12)).block,(ad19.add ((x5_2).toNat*12)).off+10,none⟩=some (.int .i64 ((rd_T79 l0 x5_2).f4.f2))) (ds:=[]) (bt_ 11 0) (by kernel_rfl) rfl rfl ⟨(zx_ HB hw21_1:),(zx_ HB hw22_0:),(zx_ HB hw22_8:),(zx_ HB hw22_9:),(zx_ HB hw22_10:)⟩ (fun hHeld=> ?_);refine with_tabW r10_Right.tab16 r10_Right.bits16 (fun HT_ HW_=> ?_);generalize wr.drew=w248 at BK20 HB hx21_0 hx21_1 hx21_10 hx21_11 hx21_2 hx21_3 hx21_4 hx21_5 hx21_6 hx21_7 hx21_8 hx21_9 hx22_0 hx22_1 hx22_10 hx22_11 hx22_2 hx22_3 hx22_4 hx22_5 hx22_6 hx22_7 hx22_8 hx22_9 hHeld ⊢;refine ru_ 0 HT_ ?_;refine ru_ 1 HT_ ?_;refine ru_ 2 HT_ ?_;refine ru_ 3 HT_ ?_;refine ru_ 5 HT_ ?_;refine ru_ 6 HT_ ?_;refine ru_ 7 HT_ ?_;refine ru_ 8 HT_ ?_;refine rk_ 4 HT_ HW_ hHeld ?_;refine rk_ 9 HT_ HW_ hHeld ?_;refine ru_ 10 HT_ ?_;refine done_ (done_of HT_.out (by kernel_rfl)) ?_;try go_wp2
                go_roundg k3
                case measure=>have:=HK1.out;have:=HK2.out;have:=HK3.out;omega
                case rel=>exact ⟨(wrap64 (x7_3+1)),(x21000_3),(x21001_3),(x21002_3),rf_,H',⟨by have:=HK1.out;have:=HK2.out;have:=HK3.out;omega⟩,am_ (zb_ BK20),⟨zl1_ HB GE20⟩⟩
              ·rw [if_neg c239] at H;exact absurd H (by simp)
             ·rw [if_neg c238] at H;exact absurd H (by simp)
            ·rw [if_neg c237] at H;exact absurd H (by simp)
           ·rw [if_neg c236] at H;have c236b0:=decide_eq_false c236;clear c236;by_cases c249:0≤x5_2
            ·rw [if_pos c249] at H;have c249b0:=decide_eq_true c249;clear c249;by_cases c250:x5_2<(l0.length:Int)
             ·rw [if_pos c250] at H;have c250b0:=decide_eq_true c250;clear c250;by_cases c251:(!(x21000_3==((rd_T79 l0 x5_2).f4.f0))||(!(x21001_3==((rd_T79 l0 x5_2).f4.f1))||(!(x21002_3==((rd_T79 l0 x5_2).f4.f2)))))=true
              ·rw [if_pos c251] at H;have c251b0:(!(x21000_3==((rd_T79 l0 x5_2).f4.f0))||(!(x21001_3==((rd_T79 l0 x5_2).f4.f1))||(!(x21002_3==((rd_T79 l0 x5_2).f4.f2)))))=true:=c251;clear c251;obtain rfl:=Option.some.inj H;try go_wp2
               replace BK20:=am_ (blk_drew BK20.out);replace HB:=am_ (below_drew1 HB.out);have p27:0≤(x5_2:Int):=of_decide_eq_true zq_;have q27:x5_2<(l0.length:Int):=of_decide_eq_true zq_;obtain ⟨ad27,e27,hx27_0,hx27_1,hx27_2,hx27_3,hx27_4,hx27_5,hx27_6,hx27_7,hx27_8,hx27_9,hx27_10,hx27_11⟩:=at_T79 HR0.out x5_2 p27 q27;have hw27_10:=hx27_10;have hw27_9:=hx27_9;have hw27_8:=hx27_8;have hw27_0:=hx27_0;obtain rfl:ad19=ad27:=(by injection e27);replace hx27_0:=zx12_ HB hx27_0 hx27_1 hx27_2 hx27_3 hx27_4 hx27_5 hx27_6 hx27_7 hx27_8 hx27_9 hx27_10 hx27_11;clear hx27_1 hx27_2 hx27_3 hx27_4 hx27_5 hx27_6 hx27_7 hx27_8 hx27_9 hx27_10 hx27_11;obtain ⟨hx27_0,hx27_1,hx27_2,hx27_3,hx27_4,hx27_5,hx27_6,hx27_7,hx27_8,hx27_9,hx27_10,hx27_11⟩:=hx27_0;replace p27:=eq_true p27;replace q27:=eq_true q27
               refine start_ (n:=20) (S:=fun w'=>w'.cell? ⟨gb20,0,none⟩=some (.int .i64 x21000_3)∧w'.cell? ⟨gb20,1,none⟩=some (.int .i64 x21001_3)∧w'.cell? ⟨gb20,2,none⟩=some (.int .i64 x21002_3)∧w'.cell? (ad19.add ((x5_2).toNat*12))=some (.string ((rd_T79 l0 x5_2).f0))∧w'.cell? ⟨(ad19.add ((x5_2).toNat*12)).block,(ad19.add ((x5_2).toNat*12)).off+8,none⟩=some (.int .i64 ((rd_T79 l0 x5_2).f4.f0))∧w'.cell? ⟨(ad19.add ((x5_2).toNat*12)).block,(ad19.add ((x5_2).toNat*12)).off+9,none⟩=some (.int .i64 ((rd_T79 l0 x5_2).f4.f1))∧w'.cell? ⟨(ad19.add ((x5_2).toNat*12)).block,(ad19.add ((x5_2).toNat*12)).off+10,none⟩=some (.int .i64 ((rd_T79 l0 x5_2).f4.f2))) (ds:=[]) (bt_ 20 0) (by kernel_rfl) rfl rfl ⟨(blk_cell BK20.out 0).trans rfl,(blk_cell BK20.out 1).trans rfl,(blk_cell BK20.out 2).trans rfl,(zx_ HB hw27_0:),(zx_ HB hw27_8:),(zx_ HB hw27_9:),(zx_ HB hw27_10:)⟩ (fun hHeld=> ?_);refine with_tabW r10_Right.tab18 r10_Right.bits18 (fun HT_ HW_=> ?_);generalize wr.drew=w252 at BK20 HB hx27_0 hx27_1 hx27_10 hx27_11 hx27_2 hx27_3 hx27_4 hx27_5 hx27_6 hx27_7 hx27_8 hx27_9 hHeld ⊢;refine ru_ 1 HT_ ?_;refine ru_ 2 HT_ ?_;refine ru_ 3 HT_ ?_;refine ru_ 4 HT_ ?_;refine rk_ 0 HT_ HW_ hHeld ?_;refine rk_ 5 HT_ HW_ hHeld ?_;refine ru_ 6 HT_ ?_;refine ru_ 7 HT_ ?_;refine rn_ 8 HT_ ?_;refine rn_ 9 HT_ ?_;refine rn_ 10 HT_ ?_;refine rn_ 11 HT_ ?_;refine rn_ 12 HT_ ?_;refine rn_ 13 HT_ ?_;refine rn_ 14 HT_ ?_;refine rn_ 15 HT_ ?_;refine rn_ 16 HT_ ?_;refine rn_ 17 HT_ ?_;refine rn_ 18 HT_ ?_
               refine ru_ 19 HT_ ?_;refine done_ (done_of HT_.out (by kernel_rfl)) ?_;try go_wp2
               go_ret
               exact ⟨by first|rfl|(simp [errW_none,errW_some]<;>rfl)|(simp [*,errW_none,errW_some]<;>rfl),zl1_ HB GE20⟩
              ·rw [if_neg c251] at H;have c251b0:(!(x21000_3==((rd_T79 l0 x5_2).f4.f0))||(!(x21001_3==((rd_T79 l0 x5_2).f4.f1))||(!(x21002_3==((rd_T79 l0 x5_2).f4.f2)))))=false:=by simpa using c251
               clear c251;replace H:=zbd_ H;obtain ⟨t29,A253,H⟩:=H;try dsimp only at H
               by_cases c254:(t29.length:Int)>(l0.length:Int)
               ·rw [if_pos c254] at H;have c254b0:decide ((l0.length:Int)<(t29.length:Int))=true:=decide_eq_true c254;have c254b1:decide (l0.length<t29.length)=true:=decide_eq_true (Int.ofNat_lt.mp c254);clear c254;obtain rfl:=Option.some.inj H;try go_wp2
                replace BK20:=am_ (blk_drew BK20.out);replace HB:=am_ (below_drew1 HB.out);have p27:0≤(x5_2:Int):=of_decide_eq_true zq_;have q27:x5_2<(l0.length:Int):=of_decide_eq_true zq_;obtain ⟨ad27,e27,hx27_0,hx27_1,hx27_2,hx27_3,hx27_4,hx27_5,hx27_6,hx27_7,hx27_8,hx27_9,hx27_10,hx27_11⟩:=at_T79 HR0.out x5_2 p27 q27;have hw27_10:=hx27_10;have hw27_9:=hx27_9;have hw27_8:=hx27_8;have hw27_0:=hx27_0;obtain rfl:ad19=ad27:=(by injection e27);replace hx27_0:=zx12_ HB hx27_0 hx27_1 hx27_2 hx27_3 hx27_4 hx27_5 hx27_6 hx27_7 hx27_8 hx27_9 hx27_10 hx27_11;clear hx27_1 hx27_2 hx27_3 hx27_4 hx27_5 hx27_6 hx27_7 hx27_8 hx27_9 hx27_10 hx27_11;obtain ⟨hx27_0,hx27_1,hx27_2,hx27_3,hx27_4,hx27_5,hx27_6,hx27_7,hx27_8,hx27_9,hx27_10,hx27_11⟩:=hx27_0;replace p27:=eq_true p27;replace q27:=eq_true q27;have p28:0≤(x5_2:Int):=of_decide_eq_true zq_;have q28:x5_2<(l0.length:Int):=of_decide_eq_true zq_;obtain ⟨ad28,e28,hx28_0,hx28_1,hx28_2,hx28_3,hx28_4,hx28_5,hx28_6,hx28_7,hx28_8,hx28_9,hx28_10,hx28_11⟩:=at_T79 HR0.out x5_2 p28 q28;obtain rfl:ad19=ad28:=(by injection e28);replace hx28_0:=zx12_ HB hx28_0 hx28_1 hx28_2 hx28_3 hx28_4 hx28_5 hx28_6 hx28_7 hx28_8 hx28_9 hx28_10 hx28_11;clear hx28_1 hx28_2 hx28_3 hx28_4 hx28_5 hx28_6 hx28_7 hx28_8 hx28_9 hx28_10 hx28_11;obtain ⟨hx28_0,hx28_1,hx28_2,hx28_3,hx28_4,hx28_5,hx28_6,hx28_7,hx28_8,hx28_9,hx28_10,hx28_11⟩:=hx28_0;replace p28:=eq_true p28;replace q28:=eq_true q28
                refine start_ (n:=20) (S:=fun w'=>w'.cell? ⟨gb20,0,none⟩=some (.int .i64 x21000_3)∧w'.cell? ⟨gb20,1,none⟩=some (.int .i64 x21001_3)∧w'.cell? ⟨gb20,2,none⟩=some (.int .i64 x21002_3)∧w'.cell? (ad19.add ((x5_2).toNat*12))=some (.string ((rd_T79 l0 x5_2).f0))∧w'.cell? ⟨(ad19.add ((x5_2).toNat*12)).block,(ad19.add ((x5_2).toNat*12)).off+8,none⟩=some (.int .i64 ((rd_T79 l0 x5_2).f4.f0))∧w'.cell? ⟨(ad19.add ((x5_2).toNat*12)).block,(ad19.add ((x5_2).toNat*12)).off+9,none⟩=some (.int .i64 ((rd_T79 l0 x5_2).f4.f1))∧w'.cell? ⟨(ad19.add ((x5_2).toNat*12)).block,(ad19.add ((x5_2).toNat*12)).off+10,none⟩=some (.int .i64 ((rd_T79 l0 x5_2).f4.f2))) (ds:=[]) (bt_ 20 0) (by kernel_rfl) rfl rfl ⟨(blk_cell BK20.out 0).trans rfl,(blk_cell BK20.out 1).trans rfl,(blk_cell BK20.out 2).trans rfl,(zx_ HB hw27_0:),(zx_ HB hw27_8:),(zx_ HB hw27_9:),(zx_ HB hw27_10:)⟩ (fun hHeld=> ?_);refine with_tabW r10_Right.tab18 r10_Right.bits18 (fun HT_ HW_=> ?_);generalize wr.drew=w255 at BK20 HB hx27_0 hx27_1 hx27_10 hx27_11 hx27_2 hx27_3 hx27_4 hx27_5 hx27_6 hx27_7 hx27_8 hx27_9 hx28_0 hx28_1 hx28_10 hx28_11 hx28_2 hx28_3 hx28_4 hx28_5 hx28_6 hx28_7 hx28_8 hx28_9 hHeld ⊢;refine ru_ 1 HT_ ?_;refine ru_ 2 HT_ ?_;refine ru_ 3 HT_ ?_;refine ru_ 4 HT_ ?_;refine rk_ 0 HT_ HW_ hHeld ?_;refine rk_ 5 HT_ HW_ hHeld ?_;refine ru_ 6 HT_ ?_;refine ru_ 7 HT_ ?_;refine ru_ 8 HT_ ?_;refine ru_ 9 HT_ ?_;refine ru_ 10 HT_ ?_;refine ru_ 11 HT_ ?_;refine ru_ 12 HT_ ?_;refine ru_ 16 HT_ ?_;refine ru_ 17 HT_ ?_
                refine rk_ 13 HT_ HW_ hHeld ?_;refine on_ (i:=14) (N:=some 137) (bt_ 20 229375) HT_ (fun K hK=> ?_);refine gs_ Try.func55 #[.slice (some ad19) l0.length c0, .string ((rd_T79 l0 x5_2).f0)] ?_
                with_reducible refine (r10_Up.calls k3 _ _ l0 ((rd_T79 l0 x5_2).f0) t29 _ ?side1 ?side2 A253.out).mono ?_
                (case side1=>exact zc_ (Kd.C_below HR0.out HB.out));(case side2=>exact HC0.out);rintro e w256 ⟨v30,rfl,ho0,hb⟩;refine ⟨_,rfl, ?_⟩;have HO31:=am_ (Kd.R_lower ho0 (below_size (zl1_ HB GE20)));replace BK20:=bb_ BK20 hb;replace HB:=am_ (below_step (zl1_ HB GE20) hb);(try clear hb);(try clear ho0);obtain ⟨Ao257,co257,eo257⟩:=Kd.R_slice HO31.out;(first|subst eo257|cases eo257);refine hK.out _ _ ⟨(blk_cell BK20.out 0).trans rfl,(blk_cell BK20.out 1).trans rfl,(blk_cell BK20.out 2).trans rfl,(zx_ HB hw27_0:),(zx_ HB hw27_8:),(zx_ HB hw27_9:),(zx_ HB hw27_10:)⟩ (fun hHeld=> ?_);clear hK K;refine no_ (N:=some 137) ?_;refine ru_ 15 HT_ ?_;refine ru_ 18 HT_ ?_;refine ru_ 19 HT_ ?_;refine done_ (done_of HT_.out (by kernel_rfl)) ?_;try go_wp2
                go_ret
                exact ⟨by first|rfl|(simp [errW_none,errW_some]<;>rfl)|(simp [*,errW_none,errW_some]<;>rfl),zl1_ HB GE20⟩
               ·rw [if_neg c254] at H;have c254b0:decide ((l0.length:Int)<(t29.length:Int))=false:=decide_eq_false c254;have c254b1:decide (l0.length<t29.length)=false:=decide_eq_false (fun h=>c254 (Int.ofNat_lt.mpr h));clear c254;have H':=Aside0.mk H;clear H;try go_wp2
                replace BK20:=am_ (blk_drew BK20.out);replace HB:=am_ (below_drew1 HB.out);have p27:0≤(x5_2:Int):=of_decide_eq_true zq_;have q27:x5_2<(l0.length:Int):=of_decide_eq_true zq_;obtain ⟨ad27,e27,hx27_0,hx27_1,hx27_2,hx27_3,hx27_4,hx27_5,hx27_6,hx27_7,hx27_8,hx27_9,hx27_10,hx27_11⟩:=at_T79 HR0.out x5_2 p27 q27;have hw27_10:=hx27_10;have hw27_9:=hx27_9;have hw27_8:=hx27_8;have hw27_0:=hx27_0;obtain rfl:ad19=ad27:=(by injection e27);replace hx27_0:=zx12_ HB hx27_0 hx27_1 hx27_2 hx27_3 hx27_4 hx27_5 hx27_6 hx27_7 hx27_8 hx27_9 hx27_10 hx27_11;clear hx27_1 hx27_2 hx27_3 hx27_4 hx27_5 hx27_6 hx27_7 hx27_8 hx27_9 hx27_10 hx27_11;obtain ⟨hx27_0,hx27_1,hx27_2,hx27_3,hx27_4,hx27_5,hx27_6,hx27_7,hx27_8,hx27_9,hx27_10,hx27_11⟩:=hx27_0;replace p27:=eq_true p27;replace q27:=eq_true q27;have p28:0≤(x5_2:Int):=of_decide_eq_true zq_;have q28:x5_2<(l0.length:Int):=of_decide_eq_true zq_;obtain ⟨ad28,e28,hx28_0,hx28_1,hx28_2,hx28_3,hx28_4,hx28_5,hx28_6,hx28_7,hx28_8,hx28_9,hx28_10,hx28_11⟩:=at_T79 HR0.out x5_2 p28 q28;obtain rfl:ad19=ad28:=(by injection e28);replace hx28_0:=zx12_ HB hx28_0 hx28_1 hx28_2 hx28_3 hx28_4 hx28_5 hx28_6 hx28_7 hx28_8 hx28_9 hx28_10 hx28_11;clear hx28_1 hx28_2 hx28_3 hx28_4 hx28_5 hx28_6 hx28_7 hx28_8 hx28_9 hx28_10 hx28_11;obtain ⟨hx28_0,hx28_1,hx28_2,hx28_3,hx28_4,hx28_5,hx28_6,hx28_7,hx28_8,hx28_9,hx28_10,hx28_11⟩:=hx28_0;replace p28:=eq_true p28;replace q28:=eq_true q28
                refine start_ (n:=20) (S:=fun w'=>w'.cell? ⟨gb20,0,none⟩=some (.int .i64 x21000_3)∧w'.cell? ⟨gb20,1,none⟩=some (.int .i64 x21001_3)∧w'.cell? ⟨gb20,2,none⟩=some (.int .i64 x21002_3)∧w'.cell? (ad19.add ((x5_2).toNat*12))=some (.string ((rd_T79 l0 x5_2).f0))∧w'.cell? ⟨(ad19.add ((x5_2).toNat*12)).block,(ad19.add ((x5_2).toNat*12)).off+8,none⟩=some (.int .i64 ((rd_T79 l0 x5_2).f4.f0))∧w'.cell? ⟨(ad19.add ((x5_2).toNat*12)).block,(ad19.add ((x5_2).toNat*12)).off+9,none⟩=some (.int .i64 ((rd_T79 l0 x5_2).f4.f1))∧w'.cell? ⟨(ad19.add ((x5_2).toNat*12)).block,(ad19.add ((x5_2).toNat*12)).off+10,none⟩=some (.int .i64 ((rd_T79 l0 x5_2).f4.f2))) (ds:=[]) (bt_ 20 0) (by kernel_rfl) rfl rfl ⟨(blk_cell BK20.out 0).trans rfl,(blk_cell BK20.out 1).trans rfl,(blk_cell BK20.out 2).trans rfl,(zx_ HB hw27_0:),(zx_ HB hw27_8:),(zx_ HB hw27_9:),(zx_ HB hw27_10:)⟩ (fun hHeld=> ?_);refine with_tabW r10_Right.tab18 r10_Right.bits18 (fun HT_ HW_=> ?_);generalize wr.drew=w258 at BK20 HB hx27_0 hx27_1 hx27_10 hx27_11 hx27_2 hx27_3 hx27_4 hx27_5 hx27_6 hx27_7 hx27_8 hx27_9 hx28_0 hx28_1 hx28_10 hx28_11 hx28_2 hx28_3 hx28_4 hx28_5 hx28_6 hx28_7 hx28_8 hx28_9 hHeld ⊢;refine ru_ 1 HT_ ?_;refine ru_ 2 HT_ ?_;refine ru_ 3 HT_ ?_;refine ru_ 4 HT_ ?_;refine rk_ 0 HT_ HW_ hHeld ?_;refine rk_ 5 HT_ HW_ hHeld ?_;refine ru_ 6 HT_ ?_;refine ru_ 7 HT_ ?_;refine ru_ 8 HT_ ?_;refine ru_ 9 HT_ ?_;refine ru_ 10 HT_ ?_;refine ru_ 11 HT_ ?_;refine ru_ 12 HT_ ?_;refine ru_ 16 HT_ ?_;refine ru_ 17 HT_ ?_
                refine rk_ 13 HT_ HW_ hHeld ?_;refine on_ (i:=14) (N:=some 137) (bt_ 20 229375) HT_ (fun K hK=> ?_);refine gs_ Try.func55 #[.slice (some ad19) l0.length c0, .string ((rd_T79 l0 x5_2).f0)] ?_
                with_reducible refine (r10_Up.calls k3 _ _ l0 ((rd_T79 l0 x5_2).f0) t29 _ ?side1 ?side2 A253.out).mono ?_
                (case side1=>exact zc_ (Kd.C_below HR0.out HB.out));(case side2=>exact HC0.out);rintro e w259 ⟨v30,rfl,ho0,hb⟩;refine ⟨_,rfl, ?_⟩;have HO31:=am_ (Kd.R_lower ho0 (below_size (zl1_ HB GE20)));replace BK20:=bb_ BK20 hb;replace HB:=am_ (below_step (zl1_ HB GE20) hb);(try clear hb);(try clear ho0);obtain ⟨Ao260,co260,eo260⟩:=Kd.R_slice HO31.out;(first|subst eo260|cases eo260);refine hK.out _ _ ⟨(blk_cell BK20.out 0).trans rfl,(blk_cell BK20.out 1).trans rfl,(blk_cell BK20.out 2).trans rfl,(zx_ HB hw27_0:),(zx_ HB hw27_8:),(zx_ HB hw27_9:),(zx_ HB hw27_10:)⟩ (fun hHeld=> ?_);clear hK K;refine no_ (N:=some 137) ?_;refine ru_ 15 HT_ ?_;refine ru_ 18 HT_ ?_;refine ru_ 19 HT_ ?_;refine done_ (done_of HT_.out (by kernel_rfl)) ?_;try go_wp2
                go_roundg k3
                case measure=>have:=HK1.out;have:=HK2.out;have:=HK3.out;omega
                case rel=>exact ⟨(wrap64 (x5_2+1)),rf_,H',⟨by have:=HK1.out;have:=HK2.out;have:=HK3.out;omega⟩,⟨zl1_ HB GE20⟩⟩
             ·rw [if_neg c250] at H;exact absurd H (by simp)
            ·rw [if_neg c249] at H;exact absurd H (by simp)
        ·rw [if_neg c233] at H;exact absurd H (by simp)
       ·rw [if_neg c232] at H;have c232b0:=decide_eq_false c232;clear c232;obtain rfl:=Option.some.inj H;go_wp2
        go_ret
        exact ⟨by first|rfl|(simp [errW_none,errW_some]<;>rfl)|(simp [*,errW_none,errW_some]<;>rfl),zl0_ HB⟩

def r16_MayMark.f (a0_0:ByteArray) (a0_1:ByteArray) (a0_2:Int) (a0_3:Int) (a0_4:Int) (a0_5:Int):Option (Bool):=(r10_MayName.f a0_0).bind fun t2=>(if t2=true then (if (a0_1.size:Int)≤24 then ((r10_MayVec.f a0_2 a0_3 a0_4).bind fun t3=>(if t3=true then (if a0_5≥1 then (some (decide (a0_5≤9007199254740992))) else (some false)) else (some false))) else (some false)) else (some false))
set_option maxHeartbeats 8000000 in
set_option maxRecDepth 100000 in
theorem r16_MayMark.calls (a0_0:ByteArray) (a0_1:ByteArray) (a0_2:Int) (a0_3:Int) (a0_4:Int) (a0_5:Int) (r:Bool) (w:World) (h:r16_MayMark.f a0_0 a0_1 a0_2 a0_3 a0_4 a0_5=some r):
  Calls Try.prog 90 #[.agg #[.string a0_0, .string a0_1, .int .i64 a0_2, .int .i64 a0_3, .int .i64 a0_4, .int .i64 a0_5]] w fun e w'=>e= .returned (.bool r)∧Below w.heap.size w w':=by
 have hu84:=Try.underlying84;have hu37:=Try.underlying37;have HB:=am_ (Below.refl w.heap.size w);have H:((r10_MayName.f a0_0).bind fun t2=>(if t2=true then (if (a0_1.size:Int)≤24 then ((r10_MayVec.f a0_2 a0_3 a0_4).bind fun t3=>(if t3=true then (if a0_5≥1 then (some (decide (a0_5≤9007199254740992))) else (some false)) else (some false))) else (some false)) else (some false)))=some r:=h;clear h;replace H:=zbd_ H;obtain ⟨t2,A2,H⟩:=H;try dsimp only at H
 by_cases c3:t2=true;rotate_left
 ·replace c3:=Bool.eq_false_iff.mpr c3;subst c3;rw [if_neg (show¬(false=true) by decide)] at H;obtain rfl:=Option.some.inj H;go_enter Try.func90,Try.ntmps90;go_wp2_with (first|((with_reducible refine gate_dst (N:=1) rfl ?_);(try (refine gate_guard (by rfl) ?_;dsimp only));refine bx_ (N:=1) (cs:=#[.string a0_0, .string a0_1, .int .i64 a0_2, .int .i64 a0_3, .int .i64 a0_4, .int .i64 a0_5]) (t:=84) ?_;intro gb1 hg w21 hbox hb;have BK1:=am_ (hbox);have GE1:=am_ ((zg0_ HB hg:w.heap.size≤gb1));replace HB:=am_ (below_step (zl0_ HB) hb);clear hb hbox hg;obtain ⟨hcz22_0,hcz22_1,hcz22_2,hcz22_3,hcz22_4,hcz22_5⟩:=x6_ BK1;have hfz22_0:=blk_frozen BK1.out 0;have hfz22_1:=blk_frozen BK1.out 1;have hfz22_2:=blk_frozen BK1.out 2;have hfz22_3:=blk_frozen BK1.out 3;have hfz22_4:=blk_frozen BK1.out 4;have hfz22_5:=blk_frozen BK1.out 5)|((with_reducible refine gate_callee (f:=67) rfl ?_);refine gl_ (some 5) Try.func67 #[.string a0_0] ?_;(with_reducible refine (r10_MayName.calls a0_0 false _ A2.out).mono ?_);rintro e w' ⟨rfl,⟨nd,rfl⟩⟩;refine ⟨_,rfl, ?_⟩))
  go_ret
  exact ⟨by first|rfl|(simp [errW_none,errW_some]<;>rfl)|(simp [*,errW_none,errW_some]<;>rfl),zl1_ HB GE1⟩

 subst c3;rw [if_pos rfl] at H;by_cases c4:(a0_1.size:Int)≤24;rotate_left
 ·rw [if_neg c4] at H;have c4b0:=decide_eq_false c4;have c4b1:decide (a0_1.size≤24)=false:=decide_eq_false (by omega);clear c4;obtain rfl:=Option.some.inj H;go_enter Try.func90,Try.ntmps90;go_wp2_with (first|((with_reducible refine gate_dst (N:=1) rfl ?_);(try (refine gate_guard (by rfl) ?_;dsimp only));refine bx_ (N:=1) (cs:=#[.string a0_0, .string a0_1, .int .i64 a0_2, .int .i64 a0_3, .int .i64 a0_4, .int .i64 a0_5]) (t:=84) ?_;intro gb1 hg w19 hbox hb;have BK1:=am_ (hbox);have GE1:=am_ ((zg0_ HB hg:w.heap.size≤gb1));replace HB:=am_ (below_step (zl0_ HB) hb);clear hb hbox hg;obtain ⟨hcz20_0,hcz20_1,hcz20_2,hcz20_3,hcz20_4,hcz20_5⟩:=x6_ BK1;have hfz20_0:=blk_frozen BK1.out 0;have hfz20_1:=blk_frozen BK1.out 1;have hfz20_2:=blk_frozen BK1.out 2;have hfz20_3:=blk_frozen BK1.out 3;have hfz20_4:=blk_frozen BK1.out 4;have hfz20_5:=blk_frozen BK1.out 5)|((with_reducible refine gate_callee (f:=67) rfl ?_);refine gl_ (some 5) Try.func67 #[.string a0_0] ?_;(with_reducible refine (r10_MayName.calls a0_0 true _ A2.out).mono ?_);rintro e w' ⟨rfl,⟨nd,rfl⟩⟩;refine ⟨_,rfl, ?_⟩))
  go_ret
  exact ⟨by first|rfl|(simp [errW_none,errW_some]<;>rfl)|(simp [*,errW_none,errW_some]<;>rfl),zl1_ HB GE1⟩
 rw [if_pos c4] at H;have c4b0:=decide_eq_true c4;have c4b1:decide (a0_1.size≤24)=true:=decide_eq_true (by omega);clear c4;replace H:=zbd_ H;obtain ⟨t3,A5,H⟩:=H;try dsimp only at H
 by_cases c6:t3=true;rotate_left
 ·replace c6:=Bool.eq_false_iff.mpr c6;subst c6;rw [if_neg (show¬(false=true) by decide)] at H;obtain rfl:=Option.some.inj H;go_enter Try.func90,Try.ntmps90;go_wp2_with (first|((with_reducible refine gate_dst (N:=1) rfl ?_);(try (refine gate_guard (by rfl) ?_;dsimp only));refine bx_ (N:=1) (cs:=#[.string a0_0, .string a0_1, .int .i64 a0_2, .int .i64 a0_3, .int .i64 a0_4, .int .i64 a0_5]) (t:=84) ?_;intro gb1 hg w16 hbox hb;have BK1:=am_ (hbox);have GE1:=am_ ((zg0_ HB hg:w.heap.size≤gb1));replace HB:=am_ (below_step (zl0_ HB) hb);clear hb hbox hg;obtain ⟨hcz17_0,hcz17_1,hcz17_2,hcz17_3,hcz17_4,hcz17_5⟩:=x6_ BK1;have hfz17_0:=blk_frozen BK1.out 0;have hfz17_1:=blk_frozen BK1.out 1;have hfz17_2:=blk_frozen BK1.out 2;have hfz17_3:=blk_frozen BK1.out 3;have hfz17_4:=blk_frozen BK1.out 4;have hfz17_5:=blk_frozen BK1.out 5)|((with_reducible refine gate_callee (f:=67) rfl ?_);refine gl_ (some 5) Try.func67 #[.string a0_0] ?_;(with_reducible refine (r10_MayName.calls a0_0 true _ A2.out).mono ?_);rintro e w' ⟨rfl,⟨nd,rfl⟩⟩;refine ⟨_,rfl, ?_⟩)|(go_at_call 68;(with_reducible refine (r10_MayVec.calls a0_2 a0_3 a0_4 false _ A5.out).mono ?_);rintro e w18 ⟨rfl,hb⟩;replace BK1:=bb_ BK1 hb;replace HB:=am_ (below_step (zl1_ HB GE1) hb);(try clear hb)))
  go_ret
  exact ⟨by first|rfl|(simp [errW_none,errW_some]<;>rfl)|(simp [*,errW_none,errW_some]<;>rfl),zl1_ HB GE1⟩
 subst c6;rw [if_pos rfl] at H;by_cases c7:a0_5≥1
 ·rw [if_pos c7] at H;have c7b0:decide (1≤a0_5)=true:=decide_eq_true c7;clear c7;obtain rfl:=Option.some.inj H;go_enter Try.func90,Try.ntmps90
  go_wp2_with (first|((with_reducible refine gate_dst (N:=1) rfl ?_);(try (refine gate_guard (by rfl) ?_;dsimp only));refine bx_ (N:=1) (cs:=#[.string a0_0, .string a0_1, .int .i64 a0_2, .int .i64 a0_3, .int .i64 a0_4, .int .i64 a0_5]) (t:=84) ?_;intro gb1 hg w8 hbox hb;have BK1:=am_ (hbox);have GE1:=am_ ((zg0_ HB hg:w.heap.size≤gb1));replace HB:=am_ (below_step (zl0_ HB) hb);clear hb hbox hg;obtain ⟨hcz9_0,hcz9_1,hcz9_2,hcz9_3,hcz9_4,hcz9_5⟩:=x6_ BK1;have hfz9_0:=blk_frozen BK1.out 0;have hfz9_1:=blk_frozen BK1.out 1;have hfz9_2:=blk_frozen BK1.out 2;have hfz9_3:=blk_frozen BK1.out 3;have hfz9_4:=blk_frozen BK1.out 4;have hfz9_5:=blk_frozen BK1.out 5)|((with_reducible refine gate_callee (f:=67) rfl ?_);refine gl_ (some 5) Try.func67 #[.string a0_0] ?_;(with_reducible refine (r10_MayName.calls a0_0 true _ A2.out).mono ?_);rintro e w' ⟨rfl,⟨nd,rfl⟩⟩;refine ⟨_,rfl, ?_⟩)|(go_at_call 68;(with_reducible refine (r10_MayVec.calls a0_2 a0_3 a0_4 true _ A5.out).mono ?_);rintro e w10 ⟨rfl,hb⟩;replace BK1:=bb_ BK1 hb;replace HB:=am_ (below_step (zl1_ HB GE1) hb);(try clear hb);obtain ⟨hcz11_0,hcz11_1,hcz11_2,hcz11_3,hcz11_4,hcz11_5⟩:=x6_ BK1;have hfz11_0:=blk_frozen BK1.out 0;have hfz11_1:=blk_frozen BK1.out 1;have hfz11_2:=blk_frozen BK1.out 2;have hfz11_3:=blk_frozen BK1.out 3;have hfz11_4:=blk_frozen BK1.out 4;have hfz11_5:=blk_frozen BK1.out 5))
  go_ret
  exact ⟨by first|rfl|(simp [errW_none,errW_some]<;>rfl)|(simp [*,errW_none,errW_some]<;>rfl),zl1_ HB GE1⟩
 rw [if_neg c7] at H;have c7b0:decide (1≤a0_5)=false:=decide_eq_false c7;clear c7;obtain rfl:=Option.some.inj H;go_enter Try.func90,Try.ntmps90
 go_wp2_with (first|((with_reducible refine gate_dst (N:=1) rfl ?_);(try (refine gate_guard (by rfl) ?_;dsimp only));refine bx_ (N:=1) (cs:=#[.string a0_0, .string a0_1, .int .i64 a0_2, .int .i64 a0_3, .int .i64 a0_4, .int .i64 a0_5]) (t:=84) ?_;intro gb1 hg w12 hbox hb;have BK1:=am_ (hbox);have GE1:=am_ ((zg0_ HB hg:w.heap.size≤gb1));replace HB:=am_ (below_step (zl0_ HB) hb);clear hb hbox hg;obtain ⟨hcz13_0,hcz13_1,hcz13_2,hcz13_3,hcz13_4,hcz13_5⟩:=x6_ BK1;have hfz13_0:=blk_frozen BK1.out 0;have hfz13_1:=blk_frozen BK1.out 1;have hfz13_2:=blk_frozen BK1.out 2;have hfz13_3:=blk_frozen BK1.out 3;have hfz13_4:=blk_frozen BK1.out 4;have hfz13_5:=blk_frozen BK1.out 5)|((with_reducible refine gate_callee (f:=67) rfl ?_);refine gl_ (some 5) Try.func67 #[.string a0_0] ?_;(with_reducible refine (r10_MayName.calls a0_0 true _ A2.out).mono ?_);rintro e w' ⟨rfl,⟨nd,rfl⟩⟩;refine ⟨_,rfl, ?_⟩)|(go_at_call 68;(with_reducible refine (r10_MayVec.calls a0_2 a0_3 a0_4 true _ A5.out).mono ?_);rintro e w14 ⟨rfl,hb⟩;replace BK1:=bb_ BK1 hb;replace HB:=am_ (below_step (zl1_ HB GE1) hb);(try clear hb);obtain ⟨hcz15_0,hcz15_1,hcz15_2,hcz15_3,hcz15_4,hcz15_5⟩:=x6_ BK1;have hfz15_0:=blk_frozen BK1.out 0;have hfz15_1:=blk_frozen BK1.out 1;have hfz15_2:=blk_frozen BK1.out 2;have hfz15_3:=blk_frozen BK1.out 3;have hfz15_4:=blk_frozen BK1.out 4;have hfz15_5:=blk_frozen BK1.out 5))
 go_ret
 exact ⟨by first|rfl|(simp [errW_none,errW_some]<;>rfl)|(simp [*,errW_none,errW_some]<;>rfl),zl1_ HB GE1⟩
def r16_MayMarks.l0:Nat→List (S84)→Int→Option (Bool)
 |0,_,_=>none
 |k+1,x0,x3=>if x3<(x0.length:Int) then (if 0≤x3 then ((r16_MayMark.f ((rd_T84 x0 x3).f0) ((rd_T84 x0 x3).f1) ((rd_T84 x0 x3).f2.f0) ((rd_T84 x0 x3).f2.f1) ((rd_T84 x0 x3).f2.f2) ((rd_T84 x0 x3).f3)).bind fun t2=>(if t2=true then (if x3>0 then (if 0≤(wrap64 (x3 - 1)) then (if (wrap64 (x3 - 1))<(x0.length:Int) then (if ((Op.bytesLess (((rd_T84 x0 (wrap64 (x3 - 1))).f0).toList) (((rd_T84 x0 x3).f0).toList))=true) then (r16_MayMarks.l0 k x0 (wrap64 (x3+1))) else (some false)) else (none)) else (none)) else (r16_MayMarks.l0 k x0 (wrap64 (x3+1)))) else (some false))) else (none)) else (some (decide ((x0.length:Int)≤240)))
def r16_MayMarks.f (k:Nat) (l0:List (S84)):Option (Bool):=r16_MayMarks.l0 k l0 0
theorem r16_MayMarks.mono_l: ∀k,(∀y0 y1,LeO (r16_MayMarks.l0 k y0 y1) (r16_MayMarks.l0 (k+1) y0 y1))
 |0=>fun _ _ r h=>by simp [r16_MayMarks.l0] at h
 |k+1=>by
  have ih0:=r16_MayMarks.mono_l k;intro y0 y1;unfold r16_MayMarks.l0
  repeat' with_reducible first|apply ih0|apply LeO.refl|apply LeO.none|apply LeO.ite|refine LeO.bind ?_ fun _=> ?_
theorem r16_MayMarks.mono: ∀a0 k,LeO (r16_MayMarks.f k a0) (r16_MayMarks.f (k+1) a0):=by
 intro a0 k;have ih0:=r16_MayMarks.mono_l k;unfold r16_MayMarks.f
 repeat' with_reducible first|apply ih0|apply LeO.refl|apply LeO.none|apply LeO.ite|refine LeO.bind ?_ fun _=> ?_
def r16_MayMarks.T4:Bool×List (List Nat×List Nat):=(true,[([],[]),([],[]),([0,1],[0,1]),([2],[2]),([3],[3]),([4],[4]),([5,4],[5]),([6],[6]),([7,6],[6,7]),([8,6,6],[6,8]),([9],[9]),([9],[9]),([11,9],[9,11]),([10,12,9],[9,10,12]),([13,9],[9,13]),([14,9],[9,14]),([9],[9]),([9],[9]),([16,17,9],[9,16,17]),([18,9],[9,18]),([19,9],[9,19]),([15,20,9],[9,15,20]),([9,21,6],[6,9,21]),([6,22],[6,22])])
def r16_MayMarks.B4:List Nat:=[0,0,3,7,15,31,63,127,255,511,1023,1023,3071,8191,16383,32767,1023,1023,197631,459775,984063,2097151,4194303,8388607]
theorem r16_MayMarks.tab4:rtab .any (opsOf Try.f46 4)=r16_MayMarks.T4:=by kernel_rfl
theorem r16_MayMarks.bits4:waitsOk r16_MayMarks.T4.2 r16_MayMarks.B4=true:=by kernel_rfl
set_option maxHeartbeats 8000000 in
set_option maxRecDepth 100000 in
theorem r16_MayMarks.calls (k:Nat) (A0:Option Addr) (c0:Nat) (l0:List (S84)) (r:Bool) (w:World) (hr0:Kd.C k84 w A0 l0.length l0) (hc0:l0.length≤c0) (h:r16_MayMarks.f k l0=some r):
  Calls Try.prog 46 #[.slice A0 l0.length c0] w fun e w'=>e= .returned (.bool r)∧Below w.heap.size w w':=by
 have hu84:=Try.underlying84;have HR0:=Aside0.mk hr0;have HC0:=Aside0.mk hc0;clear hr0 hc0;have HB:=am_ (Below.refl w.heap.size w);have H:(r16_MayMarks.l0 k l0 0)=some r:=h;clear h;have H':=Aside0.mk H;clear H;go_enter Try.func46,Try.ntmps46;go_wp2
 go_loopg [3] k (fun kq v3 w'=> ∃(x3_1:Int),v3= .int .i64 x3_1∧Aside0 (r16_MayMarks.l0 kq l0 x3_1=some r)∧Aside0 (kq≤k)∧Aside0 (Below w.heap.size w w'))
 case atStart=>exact ⟨(0),rf_,H',⟨Nat.le_refl _⟩,⟨zl0_ HB⟩⟩
 case round=>
  clear H';obtain ⟨x3_1,rfl,HA,HK1,HB⟩:=hrel
  cases gk with
  |zero=>exact absurd HA.out (by simp [r16_MayMarks.l0])
  |succ k1=>
   have H:=HA.out;clear HA;simp only [r16_MayMarks.l0] at H;by_cases c2:x3_1<(l0.length:Int);rotate_left
   ·rw [if_neg c2] at H;have c2b0:=decide_eq_false c2;clear c2;obtain rfl:=Option.some.inj H;go_wp2
    go_ret
    exact ⟨by first|rfl|(simp [errW_none,errW_some]<;>rfl)|(simp [*,errW_none,errW_some]<;>rfl),zl0_ HB⟩

   rw [if_pos c2] at H;have c2b0:=decide_eq_true c2;clear c2;replace H:=zif_ H;obtain ⟨c3,H⟩:=H;have c3b0:=decide_eq_true c3;clear c3;replace H:=zbd_ H;obtain ⟨t2,A4,H⟩:=H;try dsimp only at H
   by_cases c5:t2=true;rotate_left
   ·replace c5:=Bool.eq_false_iff.mpr c5;subst c5;rw [if_neg (show¬(false=true) by decide)] at H;obtain rfl:=Option.some.inj H;try go_wp2
    replace HB:=am_ (below_drew1 HB.out);have p1:0≤(x3_1:Int):=of_decide_eq_true zq_;have q1:x3_1<(l0.length:Int):=of_decide_eq_true zq_;obtain ⟨ad1,e1,hx1_0,hx1_1,hx1_2,hx1_3,hx1_4,hx1_5⟩:=at_T84 HR0.out x3_1 p1 q1;have hw1_5:=hx1_5;have hw1_4:=hx1_4;have hw1_3:=hx1_3;have hw1_2:=hx1_2;have hw1_1:=hx1_1;have hw1_0:=hx1_0;cases e1;replace hx1_0:=zx6_ HB hx1_0 hx1_1 hx1_2 hx1_3 hx1_4 hx1_5;clear hx1_1 hx1_2 hx1_3 hx1_4 hx1_5;obtain ⟨hx1_0,hx1_1,hx1_2,hx1_3,hx1_4,hx1_5⟩:=hx1_0;replace p1:=eq_true p1;replace q1:=eq_true q1;refine start_ (n:=24) (S:=fun w'=>w'.cell? (ad1.add ((x3_1).toNat*6))=some (.string ((rd_T84 l0 x3_1).f0))∧w'.cell? ⟨(ad1.add ((x3_1).toNat*6)).block,(ad1.add ((x3_1).toNat*6)).off+1,none⟩=some (.string ((rd_T84 l0 x3_1).f1))∧w'.cell? ⟨(ad1.add ((x3_1).toNat*6)).block,(ad1.add ((x3_1).toNat*6)).off+2,none⟩=some (.int .i64 ((rd_T84 l0 x3_1).f2.f0))∧w'.cell? ⟨(ad1.add ((x3_1).toNat*6)).block,(ad1.add ((x3_1).toNat*6)).off+3,none⟩=some (.int .i64 ((rd_T84 l0 x3_1).f2.f1))∧w'.cell? ⟨(ad1.add ((x3_1).toNat*6)).block,(ad1.add ((x3_1).toNat*6)).off+4,none⟩=some (.int .i64 ((rd_T84 l0 x3_1).f2.f2))∧w'.cell? ⟨(ad1.add ((x3_1).toNat*6)).block,(ad1.add ((x3_1).toNat*6)).off+5,none⟩=some (.int .i64 ((rd_T84 l0 x3_1).f3))) (ds:=[]) (bs_ 24 0) (by kernel_rfl) rfl rfl ⟨(zx_ HB hw1_0:),(zx_ HB hw1_1:),(zx_ HB hw1_2:),(zx_ HB hw1_3:),(zx_ HB hw1_4:),(zx_ HB hw1_5:)⟩ (fun hHeld=> ?_);refine with_tabW r16_MayMarks.tab4 r16_MayMarks.bits4 (fun HT_ HW_=> ?_)
    generalize wr.drew=w17 at HB hx1_0 hx1_1 hx1_2 hx1_3 hx1_4 hx1_5 hHeld ⊢;(iterate 3 refine qu_ HT_ ?_);refine qk_ HT_ HW_ hHeld ?_;refine on_ (i:=4) (N:=some 14) (bs_ 24 5) HT_ (fun K hK=> ?_);refine gs_ Try.func90 #[.agg #[.string ((rd_T84 l0 x3_1).f0), .string ((rd_T84 l0 x3_1).f1), .int .i64 ((rd_T84 l0 x3_1).f2.f0), .int .i64 ((rd_T84 l0 x3_1).f2.f1), .int .i64 ((rd_T84 l0 x3_1).f2.f2), .int .i64 ((rd_T84 l0 x3_1).f3)]] ?_
    with_reducible refine (r16_MayMark.calls ((rd_T84 l0 x3_1).f0) ((rd_T84 l0 x3_1).f1) ((rd_T84 l0 x3_1).f2.f0) ((rd_T84 l0 x3_1).f2.f1) ((rd_T84 l0 x3_1).f2.f2) ((rd_T84 l0 x3_1).f3) false _ A4.out).mono ?_
    rintro e w18 ⟨rfl,hb⟩;refine ⟨_,rfl, ?_⟩;replace HB:=am_ (below_step (zl0_ HB) hb);(try clear hb);refine hK.out _ _ ⟨(zx_ HB hw1_0:),(zx_ HB hw1_1:),(zx_ HB hw1_2:),(zx_ HB hw1_3:),(zx_ HB hw1_4:),(zx_ HB hw1_5:)⟩ (fun hHeld=> ?_);clear hK K;refine no_ (N:=some 14) ?_;(iterate 19 first|refine qn_ HT_ ?_|refine qu_ HT_ ?_);refine done_ (done_of HT_.out (by kernel_rfl)) ?_;try go_wp2
    go_ret
    exact ⟨by first|rfl|(simp [errW_none,errW_some]<;>rfl)|(simp [*,errW_none,errW_some]<;>rfl),zl0_ HB⟩
   subst c5;rw [if_pos rfl] at H;by_cases c6:x3_1>0;rotate_left
   ·rw [if_neg c6] at H;have c6b0:decide (0<x3_1)=false:=decide_eq_false c6;clear c6;have H':=Aside0.mk H;clear H;try go_wp2
    replace HB:=am_ (below_drew1 HB.out);have p1:0≤(x3_1:Int):=of_decide_eq_true zq_;have q1:x3_1<(l0.length:Int):=of_decide_eq_true zq_;obtain ⟨ad1,e1,hx1_0,hx1_1,hx1_2,hx1_3,hx1_4,hx1_5⟩:=at_T84 HR0.out x3_1 p1 q1;have hw1_5:=hx1_5;have hw1_4:=hx1_4;have hw1_3:=hx1_3;have hw1_2:=hx1_2;have hw1_1:=hx1_1;have hw1_0:=hx1_0;cases e1;replace hx1_0:=zx6_ HB hx1_0 hx1_1 hx1_2 hx1_3 hx1_4 hx1_5;clear hx1_1 hx1_2 hx1_3 hx1_4 hx1_5;obtain ⟨hx1_0,hx1_1,hx1_2,hx1_3,hx1_4,hx1_5⟩:=hx1_0;replace p1:=eq_true p1;replace q1:=eq_true q1;refine start_ (n:=24) (S:=fun w'=>w'.cell? (ad1.add ((x3_1).toNat*6))=some (.string ((rd_T84 l0 x3_1).f0))∧w'.cell? ⟨(ad1.add ((x3_1).toNat*6)).block,(ad1.add ((x3_1).toNat*6)).off+1,none⟩=some (.string ((rd_T84 l0 x3_1).f1))∧w'.cell? ⟨(ad1.add ((x3_1).toNat*6)).block,(ad1.add ((x3_1).toNat*6)).off+2,none⟩=some (.int .i64 ((rd_T84 l0 x3_1).f2.f0))∧w'.cell? ⟨(ad1.add ((x3_1).toNat*6)).block,(ad1.add ((x3_1).toNat*6)).off+3,none⟩=some (.int .i64 ((rd_T84 l0 x3_1).f2.f1))∧w'.cell? ⟨(ad1.add ((x3_1).toNat*6)).block,(ad1.add ((x3_1).toNat*6)).off+4,none⟩=some (.int .i64 ((rd_T84 l0 x3_1).f2.f2))∧w'.cell? ⟨(ad1.add ((x3_1).toNat*6)).block,(ad1.add ((x3_1).toNat*6)).off+5,none⟩=some (.int .i64 ((rd_T84 l0 x3_1).f3))) (ds:=[]) (bs_ 24 0) (by kernel_rfl) rfl rfl ⟨(zx_ HB hw1_0:),(zx_ HB hw1_1:),(zx_ HB hw1_2:),(zx_ HB hw1_3:),(zx_ HB hw1_4:),(zx_ HB hw1_5:)⟩ (fun hHeld=> ?_);refine with_tabW r16_MayMarks.tab4 r16_MayMarks.bits4 (fun HT_ HW_=> ?_)
    generalize wr.drew=w15 at HB hx1_0 hx1_1 hx1_2 hx1_3 hx1_4 hx1_5 hHeld ⊢;(iterate 3 refine qu_ HT_ ?_);refine qk_ HT_ HW_ hHeld ?_;refine on_ (i:=4) (N:=some 14) (bs_ 24 5) HT_ (fun K hK=> ?_);refine gs_ Try.func90 #[.agg #[.string ((rd_T84 l0 x3_1).f0), .string ((rd_T84 l0 x3_1).f1), .int .i64 ((rd_T84 l0 x3_1).f2.f0), .int .i64 ((rd_T84 l0 x3_1).f2.f1), .int .i64 ((rd_T84 l0 x3_1).f2.f2), .int .i64 ((rd_T84 l0 x3_1).f3)]] ?_
    with_reducible refine (r16_MayMark.calls ((rd_T84 l0 x3_1).f0) ((rd_T84 l0 x3_1).f1) ((rd_T84 l0 x3_1).f2.f0) ((rd_T84 l0 x3_1).f2.f1) ((rd_T84 l0 x3_1).f2.f2) ((rd_T84 l0 x3_1).f3) true _ A4.out).mono ?_
    rintro e w16 ⟨rfl,hb⟩;refine ⟨_,rfl, ?_⟩;replace HB:=am_ (below_step (zl0_ HB) hb);(try clear hb);refine hK.out _ _ ⟨(zx_ HB hw1_0:),(zx_ HB hw1_1:),(zx_ HB hw1_2:),(zx_ HB hw1_3:),(zx_ HB hw1_4:),(zx_ HB hw1_5:)⟩ (fun hHeld=> ?_);clear hK K;refine no_ (N:=some 14) ?_;(iterate 19 first|refine qn_ HT_ ?_|refine qu_ HT_ ?_);refine done_ (done_of HT_.out (by kernel_rfl)) ?_;try go_wp2
    go_roundg k1
    case measure=>have:=HK1.out;omega
    case rel=>exact ⟨(wrap64 (x3_1+1)),rf_,H',⟨by have:=HK1.out;omega⟩,⟨zl0_ HB⟩⟩
   rw [if_pos c6] at H;have c6b0:decide (0<x3_1)=true:=decide_eq_true c6;clear c6;obtain ⟨ji7,hji7⟩: ∃j_:Int,(wrap64 (x3_1 - 1))=j_:=⟨_,rfl⟩;replace H:(if 0≤(ji7) then (if (ji7)<(l0.length:Int) then (if ((Op.bytesLess (((rd_T84 l0 (ji7)).f0).toList) (((rd_T84 l0 x3_1).f0).toList))=true) then (r16_MayMarks.l0 k1 l0 (wrap64 (x3_1+1))) else (some false)) else (none)) else (none))=some r:=by first|(rw [hji7] at H;exact H)|(simp only [hji7] at H ⊢;exact H)
   (try rw [hji7] at A4);have hji7w:(IntKind.i64.wrap (x3_1 - 1))=ji7:=(i64_w _).trans hji7;replace H:=zif_ H;obtain ⟨c8,H⟩:=H;have c8b0:=decide_eq_true c8;clear c8;replace H:=zif_ H;obtain ⟨c9,H⟩:=H;have c9b0:=decide_eq_true c9;clear c9;by_cases c10:((Op.bytesLess (((rd_T84 l0 (ji7)).f0).toList) (((rd_T84 l0 x3_1).f0).toList))=true);rotate_left
   ·rw [if_neg c10] at H;have c10b0:(Op.bytesLess (((rd_T84 l0 (ji7)).f0).toList) (((rd_T84 l0 x3_1).f0).toList))=false:=by simpa using c10
    clear c10;obtain rfl:=Option.some.inj H;try go_wp2
    replace HB:=am_ (below_drew1 HB.out);have p1:0≤(x3_1:Int):=of_decide_eq_true zq_;have q1:x3_1<(l0.length:Int):=of_decide_eq_true zq_;obtain ⟨ad1,e1,hx1_0,hx1_1,hx1_2,hx1_3,hx1_4,hx1_5⟩:=at_T84 HR0.out x3_1 p1 q1;have hw1_5:=hx1_5;have hw1_4:=hx1_4;have hw1_3:=hx1_3;have hw1_2:=hx1_2;have hw1_1:=hx1_1;have hw1_0:=hx1_0;cases e1;replace hx1_0:=zx6_ HB hx1_0 hx1_1 hx1_2 hx1_3 hx1_4 hx1_5;clear hx1_1 hx1_2 hx1_3 hx1_4 hx1_5;obtain ⟨hx1_0,hx1_1,hx1_2,hx1_3,hx1_4,hx1_5⟩:=hx1_0;replace p1:=eq_true p1;replace q1:=eq_true q1;have p3:0≤((ji7):Int):=of_decide_eq_true zq_;have q3:(ji7)<(l0.length:Int):=of_decide_eq_true zq_;obtain ⟨ad3,e3,hx3_0,hx3_1,hx3_2,hx3_3,hx3_4,hx3_5⟩:=at_T84 HR0.out (ji7) p3 q3;have hw3_0:=hx3_0;obtain rfl:ad1=ad3:=(by injection e3);replace hx3_0:=zx6_ HB hx3_0 hx3_1 hx3_2 hx3_3 hx3_4 hx3_5;clear hx3_1 hx3_2 hx3_3 hx3_4 hx3_5;obtain ⟨hx3_0,hx3_1,hx3_2,hx3_3,hx3_4,hx3_5⟩:=hx3_0;replace p3:=eq_true p3;replace q3:=eq_true q3;have p4:0≤(x3_1:Int):=of_decide_eq_true zq_;have q4:x3_1<(l0.length:Int):=of_decide_eq_true zq_;obtain ⟨ad4,e4,hx4_0,hx4_1,hx4_2,hx4_3,hx4_4,hx4_5⟩:=at_T84 HR0.out x3_1 p4 q4;obtain rfl:ad1=ad4:=(by injection e4);replace hx4_0:=zx6_ HB hx4_0 hx4_1 hx4_2 hx4_3 hx4_4 hx4_5;clear hx4_1 hx4_2 hx4_3 hx4_4 hx4_5;obtain ⟨hx4_0,hx4_1,hx4_2,hx4_3,hx4_4,hx4_5⟩:=hx4_0;replace p4:=eq_true p4;replace q4:=eq_true q4
    refine start_ (n:=24) (S:=fun w'=>w'.cell? (ad1.add ((x3_1).toNat*6))=some (.string ((rd_T84 l0 x3_1).f0))∧w'.cell? ⟨(ad1.add ((x3_1).toNat*6)).block,(ad1.add ((x3_1).toNat*6)).off+1,none⟩=some (.string ((rd_T84 l0 x3_1).f1))∧w'.cell? ⟨(ad1.add ((x3_1).toNat*6)).block,(ad1.add ((x3_1).toNat*6)).off+2,none⟩=some (.int .i64 ((rd_T84 l0 x3_1).f2.f0))∧w'.cell? ⟨(ad1.add ((x3_1).toNat*6)).block,(ad1.add ((x3_1).toNat*6)).off+3,none⟩=some (.int .i64 ((rd_T84 l0 x3_1).f2.f1))∧w'.cell? ⟨(ad1.add ((x3_1).toNat*6)).block,(ad1.add ((x3_1).toNat*6)).off+4,none⟩=some (.int .i64 ((rd_T84 l0 x3_1).f2.f2))∧w'.cell? ⟨(ad1.add ((x3_1).toNat*6)).block,(ad1.add ((x3_1).toNat*6)).off+5,none⟩=some (.int .i64 ((rd_T84 l0 x3_1).f3))∧w'.cell? (ad1.add (((ji7)).toNat*6))=some (.string ((rd_T84 l0 (ji7)).f0))) (ds:=[]) (bt_ 24 0) (by kernel_rfl) rfl rfl ⟨(zx_ HB hw1_0:),(zx_ HB hw1_1:),(zx_ HB hw1_2:),(zx_ HB hw1_3:),(zx_ HB hw1_4:),(zx_ HB hw1_5:),(zx_ HB hw3_0:)⟩ (fun hHeld=> ?_);refine with_tabW r16_MayMarks.tab4 r16_MayMarks.bits4 (fun HT_ HW_=> ?_);generalize wr.drew=w13 at HB hx1_0 hx1_1 hx1_2 hx1_3 hx1_4 hx1_5 hx3_0 hx3_1 hx3_2 hx3_3 hx3_4 hx3_5 hx4_0 hx4_1 hx4_2 hx4_3 hx4_4 hx4_5 hHeld ⊢;refine ru_ 0 HT_ ?_;refine ru_ 1 HT_ ?_;refine ru_ 2 HT_ ?_;refine rk_ 3 HT_ HW_ hHeld ?_;refine on_ (i:=4) (N:=some 14) (bt_ 24 31) HT_ (fun K hK=> ?_)
    refine gs_ Try.func90 #[.agg #[.string ((rd_T84 l0 x3_1).f0), .string ((rd_T84 l0 x3_1).f1), .int .i64 ((rd_T84 l0 x3_1).f2.f0), .int .i64 ((rd_T84 l0 x3_1).f2.f1), .int .i64 ((rd_T84 l0 x3_1).f2.f2), .int .i64 ((rd_T84 l0 x3_1).f3)]] ?_
    with_reducible refine (r16_MayMark.calls ((rd_T84 l0 x3_1).f0) ((rd_T84 l0 x3_1).f1) ((rd_T84 l0 x3_1).f2.f0) ((rd_T84 l0 x3_1).f2.f1) ((rd_T84 l0 x3_1).f2.f2) ((rd_T84 l0 x3_1).f3) true _ A4.out).mono ?_
    rintro e w14 ⟨rfl,hb⟩;refine ⟨_,rfl, ?_⟩;replace HB:=am_ (below_step (zl0_ HB) hb);(try clear hb);refine hK.out _ _ ⟨(zx_ HB hw1_0:),(zx_ HB hw1_1:),(zx_ HB hw1_2:),(zx_ HB hw1_3:),(zx_ HB hw1_4:),(zx_ HB hw1_5:),(zx_ HB hw3_0:)⟩ (fun hHeld=> ?_);clear hK K;refine no_ (N:=some 14) ?_;refine ru_ 5 HT_ ?_;refine ru_ 6 HT_ ?_;refine ru_ 7 HT_ ?_;refine ru_ 8 HT_ ?_;refine ru_ 9 HT_ ?_;refine ru_ 10 HT_ ?_;refine ru_ 11 HT_ ?_;refine ru_ 12 HT_ ?_;refine ru_ 13 HT_ ?_;refine ru_ 14 HT_ ?_;refine ru_ 16 HT_ ?_;refine ru_ 17 HT_ ?_;refine ru_ 18 HT_ ?_;refine ru_ 19 HT_ ?_;refine rk_ 15 HT_ HW_ hHeld ?_;refine rk_ 20 HT_ HW_ hHeld ?_;refine ru_ 21 HT_ ?_;refine ru_ 22 HT_ ?_;refine ru_ 23 HT_ ?_;refine done_ (done_of HT_.out (by kernel_rfl)) ?_;try go_wp2
    go_ret
    exact ⟨by first|rfl|(simp [errW_none,errW_some]<;>rfl)|(simp only [←hji7];first|rfl|(simp [errW_none,errW_some]<;>rfl))|(simp [*,errW_none,errW_some]<;>rfl),zl0_ HB⟩
   rw [if_pos c10] at H;have c10b0:(Op.bytesLess (((rd_T84 l0 (ji7)).f0).toList) (((rd_T84 l0 x3_1).f0).toList))=true:=c10;clear c10;have H':=Aside0.mk H;clear H;try go_wp2
   replace HB:=am_ (below_drew1 HB.out);have p1:0≤(x3_1:Int):=of_decide_eq_true zq_;have q1:x3_1<(l0.length:Int):=of_decide_eq_true zq_;obtain ⟨ad1,e1,hx1_0,hx1_1,hx1_2,hx1_3,hx1_4,hx1_5⟩:=at_T84 HR0.out x3_1 p1 q1;have hw1_5:=hx1_5;have hw1_4:=hx1_4;have hw1_3:=hx1_3;have hw1_2:=hx1_2;have hw1_1:=hx1_1;have hw1_0:=hx1_0;cases e1;replace hx1_0:=zx6_ HB hx1_0 hx1_1 hx1_2 hx1_3 hx1_4 hx1_5;clear hx1_1 hx1_2 hx1_3 hx1_4 hx1_5;obtain ⟨hx1_0,hx1_1,hx1_2,hx1_3,hx1_4,hx1_5⟩:=hx1_0;replace p1:=eq_true p1;replace q1:=eq_true q1;have p3:0≤((ji7):Int):=of_decide_eq_true zq_;have q3:(ji7)<(l0.length:Int):=of_decide_eq_true zq_;obtain ⟨ad3,e3,hx3_0,hx3_1,hx3_2,hx3_3,hx3_4,hx3_5⟩:=at_T84 HR0.out (ji7) p3 q3;have hw3_0:=hx3_0;obtain rfl:ad1=ad3:=(by injection e3);replace hx3_0:=zx6_ HB hx3_0 hx3_1 hx3_2 hx3_3 hx3_4 hx3_5;clear hx3_1 hx3_2 hx3_3 hx3_4 hx3_5;obtain ⟨hx3_0,hx3_1,hx3_2,hx3_3,hx3_4,hx3_5⟩:=hx3_0;replace p3:=eq_true p3;replace q3:=eq_true q3;have p4:0≤(x3_1:Int):=of_decide_eq_true zq_;have q4:x3_1<(l0.length:Int):=of_decide_eq_true zq_;obtain ⟨ad4,e4,hx4_0,hx4_1,hx4_2,hx4_3,hx4_4,hx4_5⟩:=at_T84 HR0.out x3_1 p4 q4;obtain rfl:ad1=ad4:=(by injection e4);replace hx4_0:=zx6_ HB hx4_0 hx4_1 hx4_2 hx4_3 hx4_4 hx4_5;clear hx4_1 hx4_2 hx4_3 hx4_4 hx4_5;obtain ⟨hx4_0,hx4_1,hx4_2,hx4_3,hx4_4,hx4_5⟩:=hx4_0;replace p4:=eq_true p4;replace q4:=eq_true q4
   refine start_ (n:=24) (S:=fun w'=>w'.cell? (ad1.add ((x3_1).toNat*6))=some (.string ((rd_T84 l0 x3_1).f0))∧w'.cell? ⟨(ad1.add ((x3_1).toNat*6)).block,(ad1.add ((x3_1).toNat*6)).off+1,none⟩=some (.string ((rd_T84 l0 x3_1).f1))∧w'.cell? ⟨(ad1.add ((x3_1).toNat*6)).block,(ad1.add ((x3_1).toNat*6)).off+2,none⟩=some (.int .i64 ((rd_T84 l0 x3_1).f2.f0))∧w'.cell? ⟨(ad1.add ((x3_1).toNat*6)).block,(ad1.add ((x3_1).toNat*6)).off+3,none⟩=some (.int .i64 ((rd_T84 l0 x3_1).f2.f1))∧w'.cell? ⟨(ad1.add ((x3_1).toNat*6)).block,(ad1.add ((x3_1).toNat*6)).off+4,none⟩=some (.int .i64 ((rd_T84 l0 x3_1).f2.f2))∧w'.cell? ⟨(ad1.add ((x3_1).toNat*6)).block,(ad1.add ((x3_1).toNat*6)).off+5,none⟩=some (.int .i64 ((rd_T84 l0 x3_1).f3))∧w'.cell? (ad1.add (((ji7)).toNat*6))=some (.string ((rd_T84 l0 (ji7)).f0))) (ds:=[]) (bt_ 24 0) (by kernel_rfl) rfl rfl ⟨(zx_ HB hw1_0:),(zx_ HB hw1_1:),(zx_ HB hw1_2:),(zx_ HB hw1_3:),(zx_ HB hw1_4:),(zx_ HB hw1_5:),(zx_ HB hw3_0:)⟩ (fun hHeld=> ?_);refine with_tabW r16_MayMarks.tab4 r16_MayMarks.bits4 (fun HT_ HW_=> ?_);generalize wr.drew=w11 at HB hx1_0 hx1_1 hx1_2 hx1_3 hx1_4 hx1_5 hx3_0 hx3_1 hx3_2 hx3_3 hx3_4 hx3_5 hx4_0 hx4_1 hx4_2 hx4_3 hx4_4 hx4_5 hHeld ⊢;refine ru_ 0 HT_ ?_;refine ru_ 1 HT_ ?_;refine ru_ 2 HT_ ?_;refine rk_ 3 HT_ HW_ hHeld ?_;refine on_ (i:=4) (N:=some 14) (bt_ 24 31) HT_ (fun K hK=> ?_)
   refine gs_ Try.func90 #[.agg #[.string ((rd_T84 l0 x3_1).f0), .string ((rd_T84 l0 x3_1).f1), .int .i64 ((rd_T84 l0 x3_1).f2.f0), .int .i64 ((rd_T84 l0 x3_1).f2.f1), .int .i64 ((rd_T84 l0 x3_1).f2.f2), .int .i64 ((rd_T84 l0 x3_1).f3)]] ?_
   with_reducible refine (r16_MayMark.calls ((rd_T84 l0 x3_1).f0) ((rd_T84 l0 x3_1).f1) ((rd_T84 l0 x3_1).f2.f0) ((rd_T84 l0 x3_1).f2.f1) ((rd_T84 l0 x3_1).f2.f2) ((rd_T84 l0 x3_1).f3) true _ A4.out).mono ?_
   rintro e w12 ⟨rfl,hb⟩;refine ⟨_,rfl, ?_⟩;replace HB:=am_ (below_step (zl0_ HB) hb);(try clear hb);refine hK.out _ _ ⟨(zx_ HB hw1_0:),(zx_ HB hw1_1:),(zx_ HB hw1_2:),(zx_ HB hw1_3:),(zx_ HB hw1_4:),(zx_ HB hw1_5:),(zx_ HB hw3_0:)⟩ (fun hHeld=> ?_);clear hK K;refine no_ (N:=some 14) ?_;refine ru_ 5 HT_ ?_;refine ru_ 6 HT_ ?_;refine ru_ 7 HT_ ?_;refine ru_ 8 HT_ ?_;refine ru_ 9 HT_ ?_;refine ru_ 10 HT_ ?_;refine ru_ 11 HT_ ?_;refine ru_ 12 HT_ ?_;refine ru_ 13 HT_ ?_;refine ru_ 14 HT_ ?_;refine ru_ 16 HT_ ?_;refine ru_ 17 HT_ ?_;refine ru_ 18 HT_ ?_;refine ru_ 19 HT_ ?_;refine rk_ 15 HT_ HW_ hHeld ?_;refine rk_ 20 HT_ HW_ hHeld ?_;refine ru_ 21 HT_ ?_;refine ru_ 22 HT_ ?_;refine ru_ 23 HT_ ?_;refine done_ (done_of HT_.out (by kernel_rfl)) ?_;try go_wp2
   go_roundg k1
   case measure=>have:=HK1.out;omega
   case rel=>exact ⟨(wrap64 (x3_1+1)),rf_,H',⟨by have:=HK1.out;omega⟩,⟨zl0_ HB⟩⟩
def fidx {α:Type} (p:α→Bool):List α→Int→Int
 |[],_=> -1
 |x::l,i=>if p x=true then i else fidx p l (i+1)
theorem fidx_drop {α:Type} (p:α→Bool) (z:α) (l:List α) (i:Nat) (h:i<l.length):fidx p (l.drop i) i=if p (l.getD i z)=true then (i:Int) else fidx p (l.drop (i+1)) ((i+1:Nat):Int):=by
 rw [List.drop_eq_getElem_cons h,List.getD_eq_getElem?_getD,List.getElem?_eq_getElem h]
 rfl
def itemCells (x:S79):Array Value:=#[.string x.f0, .string x.f1, .int .i64 x.f2.f0, .int .i64 x.f2.f1, .int .i64 x.f2.f2, .int .i64 x.f3.f0, .int .i64 x.f3.f1, .int .i64 x.f3.f2, .int .i64 x.f4.f0, .int .i64 x.f4.f1, .int .i64 x.f4.f2, .int .i64 x.f5]
set_option maxHeartbeats 1000000 in
set_option maxRecDepth 100000 in
theorem idxItem_calls (g:Nat) (lb:Array Value) (p:S79→Bool) (eg: ∀args w,(callFunc g args).run Try.prog w= .ok (.enter g args) w) (w:World)
    (hp: ∀W x,Below w.heap.size w W→Calls Try.prog g (#[.agg (itemCells x)]++lb) W fun e w'=>e= .returned (.bool (p x))∧Below W.heap.size W w')
    (A:Option Addr) (c:Nat) (l:List S79) (hr0:Kd.C k79 w A l.length l) (hc0:l.length≤c):
    Calls Try.prog 121 #[.slice A l.length c, .func (.func g) #[] lb] w fun e w'=>e= .returned (.int .i64 (fidx p l 0))∧Below w.heap.size w w':=by
  have hu79:=Try.underlying79;have HR0:=Aside0.mk hr0;have HP:=Aside0.mk hp;have HEG:=Aside0.mk eg;have hm:l.length≤9223372036854775807:=hr0.2.1;clear hr0 hp eg;go_enter Try.func121,Try.ntmps121;go_wp2
  go_loopg [5,8] l.length (fun kq s5 s8 wr=> ∃i:Nat,i≤l.length∧l.length - i≤kq∧s8= .int .i64 i∧Aside0 (Below w.heap.size w wr)∧Aside0 (fidx p l 0=fidx p (l.drop i) i))
  case atStart=>exact ⟨0,by omega,by omega,rfl,⟨Below.refl _ _⟩,⟨rfl⟩⟩
  case round=>
    obtain ⟨i,hi,hg,rfl,HB,HF⟩:=hrel;by_cases hlt:i<l.length;rotate_left
    · obtain rfl : i = l.length := by omega
      go_wp2
      go_ret
      refine ⟨?_,HB.out⟩
      rw [HF.out,List.drop_length]
      rfl


    have hltz:(i:Int)<(l.length:Int):=by omega
    obtain ⟨ad,e1,h0,h1,h2,h3,h4,h5,h6,h7,h8,h9,h10,h11⟩:=at_T79 HR0.out (i:Int) (by omega) (by omega);cases e1;simp only [Int.toNat_natCast] at h0 h1 h2 h3 h4 h5 h6 h7 h8 h9 h10 h11;replace h0:=zx_ HB h0;replace h1:=zx_ HB h1;replace h2:=zx_ HB h2;replace h3:=zx_ HB h3;replace h4:=zx_ HB h4;replace h5:=zx_ HB h5;replace h6:=zx_ HB h6;replace h7:=zx_ HB h7;replace h8:=zx_ HB h8;replace h9:=zx_ HB h9;replace h10:=zx_ HB h10;replace h11:=zx_ HB h11;have hd:Aside0 _:=⟨fidx_drop p z79 l i hlt⟩;have HC:=am_ (HP.out wr (rd_T79 l i) HB.out);generalize hy:rd_T79 l i=y at h0 h1 h2 h3 h4 h5 h6 h7 h8 h9 h10 h11 HC;have hq:p (l.getD i z79)=p y:=by rw [←hy];simp [rd_T79]
    have HQ:=Aside0.mk hq;clear hy hq;have eg:=HEG.out
    cases hb:p y with
    | true =>
      rw [hb] at HC HQ;clear hb;go_wp2_with (go_at_fn g;refine HC.out.mono ?_;rintro e w' ⟨rfl,hb'⟩;have HB':=am_ (below_step HB.out hb');clear hb')
      go_ret
      refine ⟨?_,HB'.out⟩;rw [HF.out,hd.out,HQ.out]
      rfl
    | false =>
      rw [hb] at HC HQ;clear hb;go_wp2_with (go_at_fn g;refine HC.out.mono ?_;rintro e w' ⟨rfl,hb'⟩;have HB':=am_ (below_step HB.out hb');clear hb')
      go_roundg (l.length - (i+1))
      case measure=>omega
      case rel=>exact ⟨i+1,by omega,by omega,by go_num,HB',⟨by rw [HF.out,hd.out,HQ.out];rfl⟩⟩
def wantCells (x:S39):Array Value:=#[.string x.f0, .string x.f1, .int .i64 x.f2.f0, .int .i64 x.f2.f1, .int .i64 x.f2.f2]
set_option maxHeartbeats 1000000 in
set_option maxRecDepth 100000 in
theorem idxWant_calls (g:Nat) (lb:Array Value) (p:S39→Bool) (eg: ∀args w,(callFunc g args).run Try.prog w= .ok (.enter g args) w) (w:World)
    (hp: ∀W x,Below w.heap.size w W→Calls Try.prog g (#[.agg (wantCells x)]++lb) W fun e w'=>e= .returned (.bool (p x))∧Below W.heap.size W w')
    (A:Option Addr) (c:Nat) (l:List S39) (hr0:Kd.C k39 w A l.length l) (hc0:l.length≤c):
    Calls Try.prog 112 #[.slice A l.length c, .func (.func g) #[] lb] w fun e w'=>e= .returned (.int .i64 (fidx p l 0))∧Below w.heap.size w w':=by
  have hu39:=Try.underlying39;have HR0:=Aside0.mk hr0;have HP:=Aside0.mk hp;have HEG:=Aside0.mk eg;have hm:l.length≤9223372036854775807:=hr0.2.1;clear hr0 hp eg;go_enter Try.func112,Try.ntmps112;go_wp2
  go_loopg [5,8] l.length (fun kq s5 s8 wr=> ∃i:Nat,i≤l.length∧l.length - i≤kq∧s8= .int .i64 i∧Aside0 (Below w.heap.size w wr)∧Aside0 (fidx p l 0=fidx p (l.drop i) i))
  case atStart=>exact ⟨0,by omega,by omega,rfl,⟨Below.refl _ _⟩,⟨rfl⟩⟩
  case round=>
    obtain ⟨i,hi,hg,rfl,HB,HF⟩:=hrel;by_cases hlt:i<l.length;rotate_left
    · obtain rfl : i = l.length := by omega
      go_wp2
      go_ret
      refine ⟨?_,HB.out⟩
      rw [HF.out,List.drop_length]
      rfl


    have hltz:(i:Int)<(l.length:Int):=by omega
    obtain ⟨ad,e1,h0,h1,h2,h3,h4⟩:=at_T39 HR0.out (i:Int) (by omega) (by omega);cases e1;simp only [Int.toNat_natCast] at h0 h1 h2 h3 h4;replace h0:=zx_ HB h0;replace h1:=zx_ HB h1;replace h2:=zx_ HB h2;replace h3:=zx_ HB h3;replace h4:=zx_ HB h4;have hd:Aside0 _:=⟨fidx_drop p z39 l i hlt⟩;have HC:=am_ (HP.out wr (rd_T39 l i) HB.out);generalize hy:rd_T39 l i=y at h0 h1 h2 h3 h4 HC;have hq:p (l.getD i z39)=p y:=by rw [←hy];simp [rd_T39]
    have HQ:=Aside0.mk hq;clear hy hq;have eg:=HEG.out
    cases hb:p y with
    | true =>
      rw [hb] at HC HQ;clear hb;go_wp2_with (go_at_fn g;refine HC.out.mono ?_;rintro e w' ⟨rfl,hb'⟩;have HB':=am_ (below_step HB.out hb');clear hb')
      go_ret
      refine ⟨?_,HB'.out⟩;rw [HF.out,hd.out,HQ.out]
      rfl
    | false =>
      rw [hb] at HC HQ;clear hb;go_wp2_with (go_at_fn g;refine HC.out.mono ?_;rintro e w' ⟨rfl,hb'⟩;have HB':=am_ (below_step HB.out hb');clear hb')
      go_roundg (l.length - (i+1))
      case measure=>omega
      case rel=>exact ⟨i+1,by omega,by omega,by go_num,HB',⟨by rw [HF.out,hd.out,HQ.out];rfl⟩⟩
set_option maxHeartbeats 1000000 in
set_option maxRecDepth 100000 in
theorem wantFind1_calls (W:World) (b:Nat) (nm:ByteArray) (hb:W.heap[b]?=some (.cells #[.string nm] 9 (0,0))) (x:S39):
  Calls Try.prog 113 #[.agg (wantCells x), .pointer (some ⟨b,0,none⟩)] W fun e w'=>e= .returned (.bool (x.f0.toList==nm.toList))∧Below W.heap.size W w':=by
 unfold wantCells
 have hu39:=Try.underlying39
 have h0:=(blk_cell hb 0).trans rfl
 have hl:b<W.heap.size:=blk_lt hb
 clear hb
 go_enter Try.func113,Try.ntmps113
 go_wp2
 go_ret
 exact ⟨rfl,by repeat (first|(with_reducible first|exact Below.refl _ _|apply below_alloc|apply pw_below_drewN|apply below_drew1))⟩
def wplace (l:List (S39)) (a1:ByteArray):Int:=fidx (fun x=>x.f0.toList==a1.toList) l 0
set_option maxHeartbeats 1000000 in
set_option maxRecDepth 100000 in
theorem wantFind_calls (A0:Option Addr) (c0:Nat) (l0:List (S39)) (a1:ByteArray) (w:World) (hr0:Kd.C k39 w A0 l0.length l0) (hc0:l0.length≤c0):
  Calls Try.prog 73 #[.agg #[.slice A0 l0.length c0], .string a1] w fun e w'=>e= .returned (.int .i64 (wplace l0 a1))∧Below w.heap.size w w':=by
 have hu110:=Try.underlying110;obtain ⟨W1,hW1⟩: ∃W1,W1=(w.alloc (.cells #[.slice A0 l0.length c0] 110)).alloc (.cells #[.string a1] 9):=⟨_,rfl⟩;have hs1:(w.alloc (.cells #[.slice A0 l0.length c0] 110)).heap.size=w.heap.size+1:=by simp
 have hn:W1.heap[w.heap.size+1]?=some (.cells #[.string a1] 9 (0,0)):=by rw [hW1,←hs1];exact blk_new _ _
 have hB:Below w.heap.size w W1:=by rw [hW1];exact below_alloc (below_alloc (Below.refl _ _) _) _
 have hr:fidx (fun x:S39=>x.f0.toList==a1.toList) l0 0=wplace l0 a1:=rfl;have HC:=am_ (idxWant_calls 113 #[.pointer (some ⟨w.heap.size+1,0,none⟩)] (fun x=>x.f0.toList==a1.toList) (enters_of Try.func113 (by kernel_rfl) rfl) W1 (fun W x hb=>wantFind1_calls W (w.heap.size+1) a1 (blk_below hn hb) x) A0 c0 l0 (Kd.C_below hr0 hB) hc0);rw [hr] at HC;generalize wplace l0 a1=r at HC ⊢;have HW:=Aside0.mk hW1;have HB:=Aside0.mk hB;clear hr0 hr hW1 hn hB hs1;go_enter Try.func73,Try.ntmps73;go_wp2_with fail
 rw [←HW.out];refine HC.out.mono ?_;rintro e w' ⟨rfl,hb⟩;have HB':=am_ (below_step HB.out hb);clear hb;go_wp2
 go_ret
 exact ⟨rfl,HB'.out⟩


def vec_Le.f (a0_0:Int) (a0_1:Int) (a0_2:Int) (a1_0:Int) (a1_1:Int) (a1_2:Int):Option (Bool):=if a0_0≤a1_0 then (if a0_1≤a1_1 then (some (decide (a0_2≤a1_2))) else (some false)) else (some false)
set_option maxHeartbeats 8000000 in
set_option maxRecDepth 100000 in
theorem vec_Le.calls (a0_0:Int) (a0_1:Int) (a0_2:Int) (a1_0:Int) (a1_1:Int) (a1_2:Int) (r:Bool) (w:World) (h:vec_Le.f a0_0 a0_1 a0_2 a1_0 a1_1 a1_2=some r):
  Calls Try.prog 114 #[.agg #[.int .i64 a0_0, .int .i64 a0_1, .int .i64 a0_2], .agg #[.int .i64 a1_0, .int .i64 a1_1, .int .i64 a1_2]] w fun e w'=>e= .returned (.bool r)∧Below w.heap.size w w':=by
 have hu37:=Try.underlying37;have HB:=am_ (Below.refl w.heap.size w);have H:(if a0_0≤a1_0 then (if a0_1≤a1_1 then (some (decide (a0_2≤a1_2))) else (some false)) else (some false))=some r:=h;clear h;by_cases c3:a0_0≤a1_0;rotate_left
 ·rw [if_neg c3] at H;have c3b0:=decide_eq_false c3;clear c3;obtain rfl:=Option.some.inj H;go_enter Try.func114,Try.ntmps114;go_wp2_with (first|((with_reducible refine gate_dst (N:=2) rfl ?_);refine bx_ (N:=2) (cs:=#[.int .i64 a0_0, .int .i64 a0_1, .int .i64 a0_2]) (t:=37) ?_;intro gb1 hg w15 hbox hb;have BK1:=am_ (hbox);have GE1:=am_ ((zg0_ HB hg:w.heap.size≤gb1));replace HB:=am_ (below_step (zl0_ HB) hb);clear hb hbox hg)|((with_reducible refine gate_dst (N:=3) rfl ?_);refine bx_ (N:=3) (cs:=#[.int .i64 a1_0, .int .i64 a1_1, .int .i64 a1_2]) (t:=37) ?_;intro gb2 hg w16 hbox hb;have BK2:=am_ (hbox);have GE2:=am_ ((zg1_ HB GE1 hg:w.heap.size≤gb2));replace HB:=am_ (below_step (zl1_ HB GE1) hb);have NB1_2:=am_ ((zn_ BK1 hg:gb1≠gb2));have NB2_1:=am_ ((zm_ BK1 hg:gb2≠gb1));replace BK1:=bb_ BK1 hb;clear hb hbox hg;have hnb17:=NB1_2.out;have hnc17:=NB2_1.out;obtain ⟨hcz18_0,hcz18_1,hcz18_2,hfz18_0,hfz18_1,hfz18_2⟩:=y3_ BK1;obtain ⟨hcz19_0,hcz19_1,hcz19_2⟩:=x3_ BK2;have hfz19_0:=blk_frozen BK2.out 0;have hfz19_1:=blk_frozen BK2.out 1;have hfz19_2:=blk_frozen BK2.out 2))
  go_ret
  exact ⟨by first|rfl|(simp [errW_none,errW_some]<;>rfl)|(simp [*,errW_none,errW_some]<;>rfl),zl2_ HB GE1 GE2⟩

 rw [if_pos c3] at H;have c3b0:=decide_eq_true c3;clear c3;by_cases c4:a0_1≤a1_1
 ·rw [if_pos c4] at H;have c4b0:=decide_eq_true c4;clear c4;obtain rfl:=Option.some.inj H;go_enter Try.func114,Try.ntmps114;go_wp2_with (first|((with_reducible refine gate_dst (N:=2) rfl ?_);refine bx_ (N:=2) (cs:=#[.int .i64 a0_0, .int .i64 a0_1, .int .i64 a0_2]) (t:=37) ?_;intro gb1 hg w5 hbox hb;have BK1:=am_ (hbox);have GE1:=am_ ((zg0_ HB hg:w.heap.size≤gb1));replace HB:=am_ (below_step (zl0_ HB) hb);clear hb hbox hg)|((with_reducible refine gate_dst (N:=3) rfl ?_);refine bx_ (N:=3) (cs:=#[.int .i64 a1_0, .int .i64 a1_1, .int .i64 a1_2]) (t:=37) ?_;intro gb2 hg w6 hbox hb;have BK2:=am_ (hbox);have GE2:=am_ ((zg1_ HB GE1 hg:w.heap.size≤gb2));replace HB:=am_ (below_step (zl1_ HB GE1) hb);have NB1_2:=am_ ((zn_ BK1 hg:gb1≠gb2));have NB2_1:=am_ ((zm_ BK1 hg:gb2≠gb1));replace BK1:=bb_ BK1 hb;clear hb hbox hg;have hnb7:=NB1_2.out;have hnc7:=NB2_1.out;obtain ⟨hcz8_0,hcz8_1,hcz8_2,hfz8_0,hfz8_1,hfz8_2⟩:=y3_ BK1;obtain ⟨hcz9_0,hcz9_1,hcz9_2⟩:=x3_ BK2;have hfz9_0:=blk_frozen BK2.out 0;have hfz9_1:=blk_frozen BK2.out 1;have hfz9_2:=blk_frozen BK2.out 2))
  go_ret
  exact ⟨by first|rfl|(simp [errW_none,errW_some]<;>rfl)|(simp [*,errW_none,errW_some]<;>rfl),zl2_ HB GE1 GE2⟩
 rw [if_neg c4] at H;have c4b0:=decide_eq_false c4;clear c4;obtain rfl:=Option.some.inj H;go_enter Try.func114,Try.ntmps114;go_wp2_with (first|((with_reducible refine gate_dst (N:=2) rfl ?_);refine bx_ (N:=2) (cs:=#[.int .i64 a0_0, .int .i64 a0_1, .int .i64 a0_2]) (t:=37) ?_;intro gb1 hg w10 hbox hb;have BK1:=am_ (hbox);have GE1:=am_ ((zg0_ HB hg:w.heap.size≤gb1));replace HB:=am_ (below_step (zl0_ HB) hb);clear hb hbox hg)|((with_reducible refine gate_dst (N:=3) rfl ?_);refine bx_ (N:=3) (cs:=#[.int .i64 a1_0, .int .i64 a1_1, .int .i64 a1_2]) (t:=37) ?_;intro gb2 hg w11 hbox hb;have BK2:=am_ (hbox);have GE2:=am_ ((zg1_ HB GE1 hg:w.heap.size≤gb2));replace HB:=am_ (below_step (zl1_ HB GE1) hb);have NB1_2:=am_ ((zn_ BK1 hg:gb1≠gb2));have NB2_1:=am_ ((zm_ BK1 hg:gb2≠gb1));replace BK1:=bb_ BK1 hb;clear hb hbox hg;have hnb12:=NB1_2.out;have hnc12:=NB2_1.out;obtain ⟨hcz13_0,hcz13_1,hcz13_2,hfz13_0,hfz13_1,hfz13_2⟩:=y3_ BK1;obtain ⟨hcz14_0,hcz14_1,hcz14_2⟩:=x3_ BK2;have hfz14_0:=blk_frozen BK2.out 0;have hfz14_1:=blk_frozen BK2.out 1;have hfz14_2:=blk_frozen BK2.out 2))
 go_ret
 exact ⟨by first|rfl|(simp [errW_none,errW_some]<;>rfl)|(simp [*,errW_none,errW_some]<;>rfl),zl2_ HB GE1 GE2⟩
def vec_Most.f:Option (Int×Int×Int):=some (1099511627776,1099511627776,1099511627776)
set_option maxHeartbeats 8000000 in
set_option maxRecDepth 100000 in
theorem vec_Most.calls (r1:Int) (r2:Int) (r3:Int) (w:World) (h:vec_Most.f=some (r1,r2,r3)):
  Calls Try.prog 125 #[] w fun e w'=>e= .returned (.agg #[.int .i64 r1, .int .i64 r2, .int .i64 r3])∧Below w.heap.size w w':=by
 have hu37:=Try.underlying37;have HB:=am_ (Below.refl w.heap.size w);have H:(some (1099511627776,1099511627776,1099511627776))=some (r1,r2,r3):=h;clear h;simp only [Option.some.injEq,Prod.mk.injEq] at H;obtain ⟨rfl,rfl,rfl⟩:=H;go_enter Try.func125,Try.ntmps125;go_wp2_with (first|((with_reducible refine gate_dst (N:=0) rfl ?_);refine bx_ (N:=0) (cs:=#[.int .i64 0, .int .i64 0, .int .i64 0]) (t:=37) ?_;intro gb1 hg w1 hbox hb;have BK1:=am_ (hbox);have GE1:=am_ ((zg0_ HB hg:w.heap.size≤gb1));replace HB:=am_ (below_step (zl0_ HB) hb);clear hb hbox hg;obtain ⟨hcz2_0,hcz2_1,hcz2_2⟩:=x3_ BK1;have hfz2_0:=blk_frozen BK1.out 0;have hfz2_1:=blk_frozen BK1.out 1;have hfz2_2:=blk_frozen BK1.out 2))
 refine bodyPost_ret (results_cell_row rfl _ _ gb1 37 #[.int .i64 1099511627776, .int .i64 1099511627776, .int .i64 1099511627776] (0,0) _ rfl (zw_ BK1) Try.underlying37 rfl (by kernel_rfl)) rfl ?_;exact ⟨by first|rfl|(simp [errW_none,errW_some]<;>rfl)|(simp [*,errW_none,errW_some]<;>rfl),zl1_ HB GE1⟩

def vec_May.f (a0_0:Int) (a0_1:Int) (a0_2:Int):Option (Bool):=(vec_Le.f 0 0 0 a0_0 a0_1 a0_2).bind fun t2=>(if t2=true then ((vec_Most.f).bind fun bt3=>((vec_Le.f a0_0 a0_1 a0_2 bt3.1 bt3.2.1 bt3.2.2).bind fun t6=>(some t6))) else (some false))
def vec_May.T1:Bool×List (List Nat×List Nat):=(true,[([],[]),([],[]),([0,1],[0,1]),([2,2],[2]),([3],[3]),([3,3],[3]),([4,5,5,3],[3,4,5]),([3,6],[3,6]),([7,6,0,1,2,3,4,5,6,7],[7])])
def vec_May.B1:List Nat:=[0,0,3,7,15,15,63,127,255]
theorem vec_May.tab1:rtab .any (opsOf Try.f111 1)=vec_May.T1:=by kernel_rfl
theorem vec_May.bits1:waitsOk vec_May.T1.2 vec_May.B1=true:=by kernel_rfl
set_option maxHeartbeats 8000000 in
set_option maxRecDepth 100000 in
theorem vec_May.calls (a0_0:Int) (a0_1:Int) (a0_2:Int) (r:Bool) (w:World) (h:vec_May.f a0_0 a0_1 a0_2=some r):
  Calls Try.prog 111 #[.agg #[.int .i64 a0_0, .int .i64 a0_1, .int .i64 a0_2]] w fun e w'=>e= .returned (.bool r)∧Below w.heap.size w w':=by
 have hu37:=Try.underlying37;have HB:=am_ (Below.refl w.heap.size w);have H:((vec_Le.f 0 0 0 a0_0 a0_1 a0_2).bind fun t2=>(if t2=true then ((vec_Most.f).bind fun bt3=>((vec_Le.f a0_0 a0_1 a0_2 bt3.1 bt3.2.1 bt3.2.2).bind fun t6=>(some t6))) else (some false)))=some r:=h;clear h;replace H:=zbd_ H;obtain ⟨t2,A2,H⟩:=H;try dsimp only at H
 by_cases c3:t2=true;rotate_left
 ·replace c3:=Bool.eq_false_iff.mpr c3;subst c3;rw [if_neg (show¬(false=true) by decide)] at H;obtain rfl:=Option.some.inj H;go_enter Try.func111,Try.ntmps111;try go_wp2_with (first|((with_reducible refine gate_dst (N:=1) rfl ?_);refine bx_ (N:=1) (cs:=#[.int .i64 a0_0, .int .i64 a0_1, .int .i64 a0_2]) (t:=37) ?_;intro gb1 hg w11 hbox hb;have BK1:=am_ (hbox);have GE1:=am_ ((zg0_ HB hg:w.heap.size≤gb1));replace HB:=am_ (below_step (zl0_ HB) hb);clear hb hbox hg))
  replace BK1:=am_ (blk_drew BK1.out);replace HB:=am_ (below_drew1 HB.out);refine start_ (n:=9) (S:=fun w'=>w'.cell? ⟨gb1,0,none⟩=some (.int .i64 a0_0)∧w'.cell? ⟨gb1,1,none⟩=some (.int .i64 a0_1)∧w'.cell? ⟨gb1,2,none⟩=some (.int .i64 a0_2)) (ds:=[]) (bs_ 9 0) (by kernel_rfl) rfl rfl ⟨(blk_cell BK1.out 0).trans rfl,(blk_cell BK1.out 1).trans rfl,(blk_cell BK1.out 2).trans rfl⟩ (fun hHeld=> ?_);refine with_tabW vec_May.tab1 vec_May.bits1 (fun HT_ HW_=> ?_);generalize w11.drew=w12 at BK1 HB hHeld ⊢;refine qu_ HT_ ?_;refine qk_ HT_ HW_ hHeld ?_;refine on_ (i:=2) (N:=some 5) (bs_ 9 3) HT_ (fun K hK=> ?_);refine gs_ Try.func114 #[.agg #[.int .i64 0, .int .i64 0, .int .i64 0], .agg #[.int .i64 a0_0, .int .i64 a0_1, .int .i64 a0_2]] ?_
  with_reducible refine (vec_Le.calls 0 0 0 a0_0 a0_1 a0_2 false _ A2.out).mono ?_
  rintro e w13 ⟨rfl,hb⟩;refine ⟨_,rfl, ?_⟩;replace BK1:=bb_ BK1 hb;replace HB:=am_ (below_step (zl1_ HB GE1) hb);(try clear hb);refine hK.out _ _ ⟨(blk_cell BK1.out 0).trans rfl,(blk_cell BK1.out 1).trans rfl,(blk_cell BK1.out 2).trans rfl⟩ (fun hHeld=> ?_);clear hK K;refine no_ (N:=some 5) ?_;(iterate 6 first|refine qn_ HT_ ?_|refine qu_ HT_ ?_);refine done_ (done_of HT_.out (by kernel_rfl)) ?_;try go_wp2
  go_ret
  exact ⟨by first|rfl|(simp [errW_none,errW_some]<;>rfl)|(simp [*,errW_none,errW_some]<;>rfl),zl1_ HB GE1⟩

 subst c3;rw [if_pos rfl] at H;replace H:=zbd_ H;obtain ⟨⟨t3,t4,t5⟩,A4,H⟩:=H;try dsimp only at H
 replace H:=zbd_ H;obtain ⟨t6,A5,H⟩:=H;try dsimp only at H
 obtain rfl:=Option.some.inj H;go_enter Try.func111,Try.ntmps111;try go_wp2_with (first|((with_reducible refine gate_dst (N:=1) rfl ?_);refine bx_ (N:=1) (cs:=#[.int .i64 a0_0, .int .i64 a0_1, .int .i64 a0_2]) (t:=37) ?_;intro gb1 hg w6 hbox hb;have BK1:=am_ (hbox);have GE1:=am_ ((zg0_ HB hg:w.heap.size≤gb1));replace HB:=am_ (below_step (zl0_ HB) hb);clear hb hbox hg))
 replace BK1:=am_ (blk_drew BK1.out);replace HB:=am_ (below_drew1 HB.out);refine start_ (n:=9) (S:=fun w'=>w'.cell? ⟨gb1,0,none⟩=some (.int .i64 a0_0)∧w'.cell? ⟨gb1,1,none⟩=some (.int .i64 a0_1)∧w'.cell? ⟨gb1,2,none⟩=some (.int .i64 a0_2)) (ds:=[]) (bs_ 9 0) (by kernel_rfl) rfl rfl ⟨(blk_cell BK1.out 0).trans rfl,(blk_cell BK1.out 1).trans rfl,(blk_cell BK1.out 2).trans rfl⟩ (fun hHeld=> ?_);refine with_tabW vec_May.tab1 vec_May.bits1 (fun HT_ HW_=> ?_);generalize w6.drew=w7 at BK1 HB hHeld ⊢;refine qu_ HT_ ?_;refine qk_ HT_ HW_ hHeld ?_;refine on_ (i:=2) (N:=some 5) (bs_ 9 3) HT_ (fun K hK=> ?_);refine gs_ Try.func114 #[.agg #[.int .i64 0, .int .i64 0, .int .i64 0], .agg #[.int .i64 a0_0, .int .i64 a0_1, .int .i64 a0_2]] ?_
 with_reducible refine (vec_Le.calls 0 0 0 a0_0 a0_1 a0_2 true _ A2.out).mono ?_
 rintro e w8 ⟨rfl,hb⟩;refine ⟨_,rfl, ?_⟩;replace BK1:=bb_ BK1 hb;replace HB:=am_ (below_step (zl1_ HB GE1) hb);(try clear hb);refine hK.out _ _ ⟨(blk_cell BK1.out 0).trans rfl,(blk_cell BK1.out 1).trans rfl,(blk_cell BK1.out 2).trans rfl⟩ (fun hHeld=> ?_);clear hK K;refine no_ (N:=some 5) ?_;refine qu_ HT_ ?_;refine qk_ HT_ HW_ hHeld ?_;refine on_ (i:=5) (N:=some 8) (bs_ 9 6) HT_ (fun K hK=> ?_);refine gs_ Try.func125 #[] ?_
 with_reducible refine (vec_Most.calls t3 t4 t5 _ A4.out).mono ?_
 rintro e w9 ⟨rfl,hb⟩;refine ⟨_,rfl, ?_⟩;replace BK1:=bb_ BK1 hb;replace HB:=am_ (below_step (zl1_ HB GE1) hb);(try clear hb);refine hK.out _ _ ⟨(blk_cell BK1.out 0).trans rfl,(blk_cell BK1.out 1).trans rfl,(blk_cell BK1.out 2).trans rfl⟩ (fun hHeld=> ?_);clear hK K;refine no_ (N:=some 8) ?_;refine on_ (i:=6) (N:=some 9) (bs_ 9 7) HT_ (fun K hK=> ?_);refine gs_ Try.func114 #[.agg #[.int .i64 a0_0, .int .i64 a0_1, .int .i64 a0_2], .agg #[.int .i64 t3, .int .i64 t4, .int .i64 t5]] ?_
 with_reducible refine (vec_Le.calls a0_0 a0_1 a0_2 t3 t4 t5 t6 _ A5.out).mono ?_
 rintro e w10 ⟨rfl,hb⟩;refine ⟨_,rfl, ?_⟩;replace BK1:=bb_ BK1 hb;replace HB:=am_ (below_step (zl1_ HB GE1) hb);(try clear hb);refine hK.out _ _ ⟨(blk_cell BK1.out 0).trans rfl,(blk_cell BK1.out 1).trans rfl,(blk_cell BK1.out 2).trans rfl⟩ (fun hHeld=> ?_);clear hK K;refine no_ (N:=some 9) ?_;(iterate 2 refine qu_ HT_ ?_);refine done_ (done_of HT_.out (by kernel_rfl)) ?_;try go_wp2
 go_ret
 exact ⟨by first|rfl|(simp [errW_none,errW_some]<;>rfl)|(simp [*,errW_none,errW_some]<;>rfl),zl1_ HB GE1⟩
end Go.Proofs.Ytahidkjncljkaaa.Print

namespace Go.Proofs.Ytahidkjncljkaaa.Print
open Go.RowKit Go.Proofs.YtahidkjncljkaaaW.PrintWords Go.Proofs.YtahidkjncljkaaaW.PrintLast Go.Proofs.YtahidkjncljkaaaW.PrintMore
section
variable {P:Program} {ops:Array Oper} {rest:List Oper} {o:Oper} {a:Act} {Q:Exit→Act→World→Prop} {Kc:Act→World→Prop} {W:World}
theorem put_run {gb e:Nat} {zs:Array Value} (hh:W.heap[gb]?=some (.cells zs e (0,0))) (t:TypeId) (u:Value) (off:Nat) (seg:List Value) (hu:u.cells.toList=seg) (ht:(P.info? t).map (·.size)=some seg.length) (hfit:off+seg.length≤zs.size) (h1: ∀q∈seg,q.oneCell'=true):
  ∃w' cur,(Instr.storeAt t (.pointer (some ⟨gb,off,none⟩)) u).run P W= .ok () w'∧w'.heap[gb]?=some (.cells cur e (0,0))∧cur.size=zs.size∧cur.toList=zs.toList.take off++seg++zs.toList.drop (off+seg.length)∧W.grownBy w' (some gb):=by
 have hrun:=run_store_run (P:=P) t u seg hh hu ht (o:=off) hfit h1;obtain ⟨cur,hc,hs,hl⟩:=setCells_row seg off W zs hh hfit;obtain ⟨s1,s2,s3,s4⟩:=setCells_same gb seg off W;exact ⟨_,cur,hrun,hc,hs,hl,⟨s1,s2,s3,by rw [s4];exact Nat.le_refl _,fun k hk hne=>setCells_far seg off k (by rintro rfl;exact hne rfl)⟩⟩
theorem store_all {gb e:Nat} {zs:Array Value} (hh:W.heap[gb]?=some (.cells zs e (0,0))) (t:TypeId) (p x:Operand) (ho:o.op= .store t p x) (hN:o.dst=none) (hgd:o.guard=none) (u:Value) (seg:List Value)
  (hp:a.eval p= .pointer (some ⟨gb,0,none⟩)) (hx:a.eval x=u) (hu:u.cells.toList=seg) (ht:(P.info? t).map (·.size)=some seg.length) (hz:zs.size=seg.length) (h1: ∀q∈seg,q.oneCell'=true)
  (h: ∀w',w'.heap[gb]?=some (.cells seg.toArray e (0,0))→W.grownBy w' (some gb)→wpList P ops Q rest a w'):wpList P ops Q (o::rest) a W:=by
 obtain ⟨w',cur,hrun,hc,hs,hl,hg⟩:=put_run (P:=P) hh t u 0 seg hu ht (by omega) h1
 have e1:cur=seg.toArray:=by
  apply Array.ext'
  rw [hl,List.take_zero,List.nil_append,Nat.zero_add,List.drop_of_length_le (by simp [Array.length_toList];omega),List.append_nil]
 subst e1
 refine wpList_plain hgd fun K hK=> ?_
 unfold Oper.wp execOp
 simp only [ho,hp,hx,Sem.run_bind,Sem.run_pure,Result.andThen_ok,hrun]
 show K (a.put o.dst undef) _
 rw [hN]
 exact hK a _ (h _ hc hg)
theorem store_part {gb e:Nat} {zs:Array Value} (hh:W.heap[gb]?=some (.cells zs e (0,0))) (t:TypeId) (p x:Operand) (ho:o.op= .store t p x) (hN:o.dst=none) (hgd:o.guard=none) (off:Nat) (u:Value) (seg new:List Value)
  (hp:a.eval p= .pointer (some ⟨gb,off,none⟩)) (hx:a.eval x=u) (hu:u.cells.toList=seg) (ht:(P.info? t).map (·.size)=some seg.length) (hz:off+seg.length≤zs.size) (h1: ∀q∈seg,q.oneCell'=true) (hnew:zs.toList.take off++seg++zs.toList.drop (off+seg.length)=new)
  (h: ∀w',w'.heap[gb]?=some (.cells new.toArray e (0,0))→W.grownBy w' (some gb)→wpList P ops Q rest a w'):wpList P ops Q (o::rest) a W:=by
 obtain ⟨w',cur,hrun,hc,hs,hl,hg⟩:=put_run (P:=P) hh t u off seg hu ht hz h1
 have e1:cur=new.toArray:=by
  apply Array.ext'
  rw [hl,hnew]
 subst e1
 refine wpList_plain hgd fun K hK=> ?_
 unfold Oper.wp execOp
 simp only [ho,hp,hx,Sem.run_bind,Sem.run_pure,Result.andThen_ok,hrun]
 show K (a.put o.dst undef) _
 rw [hN]
 exact hK a _ (h _ hc hg)
end
theorem R_put {α:Type} {d:Kd α} {e base:Nat} {w w1:World} {v:Value} {xs:List α} (h:d.R e w base (fun _=>True) v xs) {g t:Nat} {cells:Array Value} (hb:w.heap[g]?=some (.cells cells t (0,0))) (ht: ∀q,q∈e::d.E→q≠t) (hg:w.grownBy w1 (some g)):d.R e w1 base (fun _=>True) v xs:=
 Kd.R_mono (Kd.R_grown (Kd.R_types h hb ht) hg (fun _ hk e=>hk.2 (Option.some.inj e))) (fun _ _=>trivial)
theorem below_put {a w w1:World} {base g:Nat} (h:Below base a w) (hb:base≤w.heap.size) (hg:w.grownBy w1 (some g)) (hge:base≤g):Below base a w1:=pw_below_grown h (some g) hb hg (fun k e=>by cases e;exact hge)
theorem blk_put_other {w w1:World} {g k:Nat} {ob:Obj} (h:w.heap[k]?=some ob) (hg:w.grownBy w1 (some g)) (hne:k≠g):w1.heap[k]?=some ob:=by
  rw [hg.block k (by
    rcases Nat.lt_or_ge k w.heap.size with hl|hl
    · exact hl
    rw [Array.getElem?_eq_none hl] at h;cases h) (by intro e;cases e;exact hne rfl)]
  exact h
end Go.Proofs.Ytahidkjncljkaaa.Print

namespace Go.Proofs.Ytahidkjncljkaaa.Print
open Go.RowKit Go.Proofs.YtahidkjncljkaaaW.PrintWords Go.Proofs.YtahidkjncljkaaaW.PrintLast Go.Proofs.YtahidkjncljkaaaW.PrintMore
attribute [local go_sem] max2_int min2_int max_two min_two max_three min_three max_four min_four

set_option maxHeartbeats 1000000 in
set_option maxRecDepth 100000 in
theorem treeFind1_calls (W:World) (b:Nat) (nm:ByteArray) (hb:W.heap[b]?=some (.cells #[.string nm] 9 (0,0))) (x:S79):
  Calls Try.prog 122 #[.agg (itemCells x), .pointer (some ⟨b,0,none⟩)] W fun e w'=>e= .returned (.bool (x.f0.toList==nm.toList))∧Below W.heap.size W w':=by
 unfold itemCells
 have hu79:=Try.underlying79
 have h0:=(blk_cell hb 0).trans rfl
 have hl:b<W.heap.size:=blk_lt hb
 clear hb
 go_enter Try.func122,Try.ntmps122
 go_wp2
 go_ret
 exact ⟨rfl,by repeat (first|(with_reducible first|exact Below.refl _ _|apply below_alloc|apply pw_below_drewN|apply below_drew1))⟩
def tree_Find.f (l0:List (S79)) (a1:ByteArray):Option Int:=some (fidx (fun x=>x.f0.toList==a1.toList) l0 0)
set_option maxHeartbeats 1000000 in
set_option maxRecDepth 100000 in
theorem tree_Find.calls (A0:Option Addr) (c0:Nat) (l0:List (S79)) (a1:ByteArray) (r:Int) (w:World) (hr0:Kd.C k79 w A0 l0.length l0) (hc0:l0.length≤c0) (h:tree_Find.f l0 a1=some r):
  Calls Try.prog 91 #[.slice A0 l0.length c0, .string a1] w fun e w'=>e= .returned (.int .i64 r)∧Below w.heap.size w w':=by
 have hr:fidx (fun x=>x.f0.toList==a1.toList) l0 0=r:=Option.some.inj h;obtain ⟨W1,hW1⟩: ∃W1,W1=w.alloc (.cells #[.string a1] 9):=⟨_,rfl⟩;have hn:W1.heap[w.heap.size]?=some (.cells #[.string a1] 9 (0,0)):=by rw [hW1];exact blk_new _ _
 have hB:Below w.heap.size w W1:=by rw [hW1];exact below_alloc (Below.refl _ _) _
 have HC:=am_ (idxItem_calls 122 #[.pointer (some ⟨w.heap.size,0,none⟩)] (fun x=>x.f0.toList==a1.toList) (enters_of Try.func122 (by kernel_rfl) rfl) W1 (fun W x hb=>treeFind1_calls W w.heap.size a1 (blk_below hn hb) x) A0 c0 l0 (Kd.C_below hr0 hB) hc0);rw [hr] at HC;have HW:=Aside0.mk hW1;have HB:=Aside0.mk hB;clear hr0 hr hW1 hn hB h;go_enter Try.func91,Try.ntmps91;go_wp2_with fail
 rw [←HW.out];refine HC.out.mono ?_;rintro e w' ⟨rfl,hb⟩;have HB':=am_ (below_step HB.out hb);clear hb;go_wp2
 go_ret
 exact ⟨rfl,HB'.out⟩


end Go.Proofs.Ytahidkjncljkaaa.Print

namespace Go.Proofs.Ytahidkjncljkaaa.Print
open Go.RowKit Go.Proofs.YtahidkjncljkaaaW.PrintWords Go.Proofs.YtahidkjncljkaaaW.PrintLast
abbrev Item:=S79
abbrev Vec:=S37
abbrev zItem:Item:=z79
theorem rd_item (l:List Item) (i:Int):rd_T79 l i=l.getD i.toNat zItem:=rfl
instance baLawful:LawfulBEq ByteArray where
 eq_of_beq {a b} h:=by
  obtain ⟨a⟩:=a
  obtain ⟨b⟩:=b
  have:(a==b)=true:=h
  rw [eq_of_beq this]
 rfl {a}:=by
  obtain ⟨a⟩:=a
  show (a==a)=true
  exact beq_self_eq_true a
theorem nm_inj {a b:ByteArray}:a.toList=b.toList↔a=b:=by
  constructor
  rotate_left
  · rintro rfl;rfl
  intro h
  rw [ByteArray.toList_eq,ByteArray.toList_eq] at h
  exact ByteArray.ext (Array.toList_inj.1 h)
theorem nm_beq (a b:ByteArray):(a.toList==b.toList)=decide (a=b):=by
 rw [Bool.eq_iff_iff,beq_iff_eq,nm_inj,decide_eq_true_iff]
theorem nm_ne {a b:ByteArray}:a.toList≠b.toList↔a≠b:=not_congr nm_inj
theorem nm_empty {a:ByteArray}:a.toList=([]:List UInt8)↔a=⟨#[]⟩:=by
 rw [←nm_inj];rw [show (ByteArray.mk #[]).toList=[] from by rw [ByteArray.toList_eq]]
theorem Ev.const {α:Type} {g:Option α} {r:α} (h:g=some r):Ev (fun _=>g) r:=⟨0,fun _ _=>h⟩
theorem w64 {n:Int} (h0: -9223372036854775808≤n) (h1:n≤9223372036854775807):wrap64 n=n:=by unfold wrap64;omega
def look (l:List Item) (n:ByteArray):Option Item:=l.find? (fun x=>x.f0=n)
def fnd (l:List Item) (n:ByteArray):Int:=fidx (fun x:Item=>x.f0.toList==n.toList) l 0
theorem fidx_none {α:Type} {p:α→Bool}: ∀{l:List α} {i:Int},(∀x∈l,p x=false)→fidx p l i= -1
  |[],_,_=>rfl
  | x :: l, i, h => by
    unfold fidx;rw [if_neg (by rw [h x (by simp)];simp)];exact fidx_none (fun y hy=>h y (by simp [hy]))
theorem fidx_some {α:Type} {p:α→Bool} (z:α): ∀{l:List α} {i:Int} {x:α},l.find? p=some x→ ∃j:Nat,j<l.length∧fidx p l i=i+j∧l.getD j z=x∧p x=true∧ ∀m,m<j→p (l.getD m z)=false
  |[],_,_,h=>by simp at h
  | y :: l, i, x, h => by
    unfold fidx;by_cases hy:p y=true
    · rw [if_pos hy]
      simp only [List.find?_cons,hy] at h
      obtain rfl:=Option.some.inj h
      exact ⟨0,by simp,by simp,by simp,hy,fun m hm=>by omega⟩
    rw [if_neg hy];have hy':p y=false:=by simpa using hy
    simp only [List.find?_cons,hy'] at h;obtain ⟨j,hj,h1,h2,h3,h4⟩:=fidx_some z (i:=i+1) h;refine ⟨j+1,by simp;omega,by rw [h1];omega,by simpa using h2,h3,fun m hm=> ?_⟩
    cases m with
    |zero=>simpa using hy'
    |succ m=>simpa using h4 m (by omega)
theorem look_pred (n:ByteArray):(fun x:Item=>x.f0.toList==n.toList)=(fun x:Item=>decide (x.f0=n)):=by
 funext x;exact nm_beq _ _
theorem look_mem {l:List Item} {n:ByteArray} {x:Item} (h:look l n=some x):x∈l∧x.f0=n:=by
 unfold look at h;exact ⟨List.mem_of_find?_eq_some h,by simpa using List.find?_some h⟩
theorem look_none {l:List Item} {n:ByteArray}:look l n=none↔ ∀x∈l,x.f0≠n:=by
 unfold look
 simp
theorem fnd_none {l:List Item} {n:ByteArray} (h:look l n=none):fnd l n= -1:=by
 unfold fnd;refine fidx_none fun x hx=> ?_
 rw [nm_beq]
 simpa using look_none.1 h x hx
theorem fnd_some {l:List Item} {n:ByteArray} {x:Item} (h:look l n=some x): ∃j:Nat,j<l.length∧fnd l n=j∧l.getD j zItem=x∧x.f0=n∧ ∀m,m<j→(l.getD m zItem).f0≠n:=by
 have h':l.find? (fun x:Item=>x.f0.toList==n.toList)=some x:=by rw [look_pred];exact h
 obtain ⟨j,h1,h2,h3,h4,h5⟩:=fidx_some zItem (i:=0) h';refine ⟨j,h1,by unfold fnd;rw [h2];omega,h3,by simpa [nm_beq] using h4,fun m hm=> ?_⟩
 simpa [nm_beq] using h5 m hm
theorem fnd_lt (l:List Item) (n:ByteArray):fnd l n<l.length:=by
 cases h:look l n with
 |none=>rw [fnd_none h];omega
 |some x=>obtain ⟨j,h1,h2,_⟩:=fnd_some h;omega
theorem fnd_neg {l:List Item} {n:ByteArray}:fnd l n<0↔look l n=none:=by
 cases h:look l n with
 |none=>rw [fnd_none h];simp
 |some x=>obtain ⟨j,h1,h2,_⟩:=fnd_some h;simp;omega
theorem fnd_ge {l:List Item} {n:ByteArray}:0≤fnd l n↔ ∃x,look l n=some x:=by
 cases h:look l n with
 |none=>rw [fnd_none h];simp
 |some x=>obtain ⟨j,h1,h2,_⟩:=fnd_some h;simp;omega
theorem fnd_rd {l:List Item} {n:ByteArray} {x:Item} (h:look l n=some x):rd_T79 l (fnd l n)=x:=by
 obtain ⟨j,h1,h2,h3,_⟩:=fnd_some h;rw [rd_item,h2,Int.toNat_natCast];exact h3
theorem tree_Find_eq (l:List Item) (n:ByteArray):tree_Find.f l n=some (fnd l n):=rfl
inductive Chain (l:List Item):ByteArray→List ByteArray→Prop where
 |nil {n:ByteArray}:look l n=none→Chain l n []
 |cons {n:ByteArray} {x:Item} {us:List ByteArray}:look l n=some x→Chain l x.f1 us→Chain l n (n::us)
def upGo (l:List Item):Nat→ByteArray→List ByteArray
  |0,_=> []
  | m + 1, n => match look l n with
    |none=> []
    |some x=>n::upGo l m x.f1
def up (l:List Item) (n:ByteArray):List ByteArray:=upGo l (l.length+1) n
theorem upGo_none {l:List Item} {n:ByteArray} (h:look l n=none) (m:Nat):upGo l m n=[]:=by
 cases m with
 |zero=>rfl
 |succ m=>unfold upGo;rw [h]
theorem upGo_some {l:List Item} {n:ByteArray} {x:Item} (h:look l n=some x) (m:Nat):upGo l (m+1) n=n::upGo l m x.f1:=by
 rw [upGo.eq_2,h]
theorem Chain.det {l:List Item} {n:ByteArray} {us:List ByteArray} (h:Chain l n us): ∀{vs:List ByteArray},Chain l n vs→us=vs:=by
  induction h with
  | nil h =>
    intro vs k
    cases k with
    |nil _=>rfl
    |cons k _=>rw [h] at k;cases k
  | cons h _ ih =>
    intro vs k
    cases k with
    |nil k=>rw [h] at k;cases k
    | cons k k2 =>
      rw [h] at k;cases k;rw [ih k2]
theorem Chain.upGo {l:List Item} {n:ByteArray} {us:List ByteArray} (h:Chain l n us): ∀m,us.length≤m→upGo l m n=us:=by
  induction h with
  |nil h=>intro m _;exact upGo_none h m
  | cons h _ ih =>
    intro m hm
    cases m with
    |zero=>simp at hm
    | succ m =>
      rw [upGo_some h,ih m (by simpa using hm)]
theorem upGo_chain (l:List Item): ∀(m:Nat) (n:ByteArray),(upGo l m n).length<m→Chain l n (upGo l m n)
  |0,_,h=>by simp [upGo] at h
  | m + 1, n, h => by
    cases hl:look l n with
    |none=>rw [upGo_none hl];exact .nil hl
    | some x =>
      rw [upGo_some hl] at h ⊢;exact .cons hl (upGo_chain l m x.f1 (by simpa using h))
theorem up_chain {l:List Item} {n:ByteArray} (h:(up l n).length≤l.length):Chain l n (up l n):=upGo_chain l _ n (by unfold up at h;omega)
theorem Chain.suffix {l:List Item} {n:ByteArray} {us:List ByteArray} (h:Chain l n us): ∀{m:ByteArray},m∈us→ ∃vs ws,us=ws++vs∧Chain l m vs∧ ∃vt,vs=m::vt:=by
  induction h with
  |nil _=>intro m hm;cases hm
  | @cons n x us h k ih =>
    intro m hm
    rcases List.mem_cons.1 hm with rfl|hm
    · exact ⟨_,[],rfl, .cons h k,_,rfl⟩
    obtain ⟨vs,ws,e,hc,he⟩:=ih hm;exact ⟨vs,n::ws,by rw [e];rfl,hc,he⟩
theorem Chain.mem_look {l:List Item} {n:ByteArray} {us:List ByteArray} (h:Chain l n us) {m:ByteArray} (hm:m∈us): ∃x,look l m=some x:=by
 obtain ⟨vs,ws,_,hc,vt,rfl⟩:=h.suffix hm
 cases hc with
 |cons h _=>exact ⟨_,h⟩
theorem Chain.nodup {l:List Item} {n:ByteArray} {us:List ByteArray} (h:Chain l n us):us.Nodup:=by
  induction h with
  |nil _=>simp
  | @cons n x us h k ih =>
    rw [List.nodup_cons];refine ⟨fun hm=> ?_,ih⟩;obtain ⟨vs,ws,e,hc,_⟩:=k.suffix hm;have:=hc.det (.cons h k)
    rw [this] at e;have:=congrArg List.length e
    simp at this
    omega
theorem Chain.len {l:List Item} {n:ByteArray} {us:List ByteArray} (h:Chain l n us):us.length≤l.length:=by
 have:=h.nodup.length_le_of_subset (l₂:=l.map (·.f0)) (fun m hm=>by
  obtain ⟨x,hx⟩:=h.mem_look hm;obtain ⟨h1,rfl⟩:=look_mem hx;exact List.mem_map_of_mem h1)
 simpa using this
theorem Chain.up {l:List Item} {n:ByteArray} {us:List ByteArray} (h:Chain l n us):up l n=us:=h.upGo _ (by have:=h.len;omega)
theorem up_len_iff {l:List Item} {n:ByteArray}:(up l n).length≤l.length↔ ∃us,Chain l n us:=
 ⟨fun h=>⟨_,up_chain h⟩,fun ⟨us,h⟩=>by rw [h.up];exact h.len⟩
def lt (a b:ByteArray):Bool:=Op.bytesLess a.toList b.toList
theorem bl_irrefl: ∀a:List UInt8,Op.bytesLess a a=false
 |[]=>rfl
 |x::a=>by unfold Op.bytesLess;simp [bl_irrefl a]
theorem bl_trans: ∀{a b c:List UInt8},Op.bytesLess a b=true→Op.bytesLess b c=true→Op.bytesLess a c=true
  |[],[],_,h,_=>by simp [Op.bytesLess] at h
  |[],_::_,[],_,k=>by simp [Op.bytesLess] at k
  |[],_::_,_::_,_,_=>by simp [Op.bytesLess]
  |_::_,[],_,h,_=>by simp [Op.bytesLess] at h
  |_::_,_::_,[],_,k=>by simp [Op.bytesLess] at k
  | x :: a, y :: b, z :: c, h, k => by
    simp only [Op.bytesLess,Bool.or_eq_true,Bool.and_eq_true,decide_eq_true_eq,beq_iff_eq] at h k ⊢
    rcases h with h|⟨rfl,h⟩
    · rcases k with k | ⟨rfl, k⟩
      · exact .inl (UInt8.lt_trans h k)
      exact .inl h
    rcases k with k|⟨rfl,k⟩
    · exact .inl k
    exact .inr ⟨rfl,bl_trans h k⟩
theorem bl_total: ∀{a b:List UInt8},Op.bytesLess a b=false→a≠b→Op.bytesLess b a=true
  |[],[],_,h=>absurd rfl h
  |[],_::_,h,_=>by simp [Op.bytesLess] at h
  |_::_,[],_,_=>by simp [Op.bytesLess]
  | x :: a, y :: b, h, k => by
    simp only [Op.bytesLess,Bool.or_eq_true,Bool.or_eq_false_iff,Bool.and_eq_false_iff,Bool.and_eq_true,decide_eq_true_eq,decide_eq_false_iff_not,beq_iff_eq,beq_eq_false_iff_ne] at h ⊢;obtain ⟨h1,h2⟩:=h;by_cases e:x=y
    · subst e
      rcases h2 with h2|h2
      · exact absurd rfl h2
      exact .inr ⟨rfl,bl_total h2 (fun e=>k (by rw [e]))⟩
    left
    have h3: ¬x.toNat<y.toNat:=by rwa [←UInt8.lt_iff_toNat_lt]
    have h4:x.toNat≠y.toNat:=fun q=>e (UInt8.toNat_inj.1 q)
    rw [UInt8.lt_iff_toNat_lt];omega
theorem lt_irrefl (a:ByteArray):lt a a=false:=bl_irrefl _
theorem lt_trans {a b c:ByteArray} (h:lt a b=true) (k:lt b c=true):lt a c=true:=bl_trans h k
theorem lt_total {a b:ByteArray} (h:lt a b=false) (k:a≠b):lt b a=true:=bl_total h (fun e=>k (nm_inj.1 e))
theorem lt_ne {a b:ByteArray} (h:lt a b=true):a≠b:=by rintro rfl;rw [lt_irrefl] at h;cases h
inductive Comp where|cpu|mem|pods
def Comp.of:Comp→Vec→Int| .cpu,v=>v.f0| .mem,v=>v.f1| .pods,v=>v.f2
theorem vec_ext {a b:Vec} (h: ∀c:Comp,c.of a=c.of b):a=b:=by
 cases a;cases b
 have h0:=h .cpu;have h1:=h .mem;have h2:=h .pods
 simp [Comp.of] at h0 h1 h2
 simp [h0,h1,h2]
def vadd (a b:Vec):Vec:=⟨a.f0+b.f0,a.f1+b.f1,a.f2+b.f2⟩
theorem of_vadd (c:Comp) (a b:Vec):c.of (vadd a b)=c.of a+c.of b:=by cases c<;>rfl
def MayP (v:Vec):Prop:= ∀c:Comp,0≤c.of v∧c.of v≤1099511627776
def LeP (a b:Vec):Prop:= ∀c:Comp,c.of a≤c.of b
theorem comp_all {p:Comp→Prop}:(∀c,p c)↔p .cpu∧p .mem∧p .pods:=
 ⟨fun h=>⟨h _,h _,h _⟩,fun ⟨a,b,d⟩ c=>by cases c<;>assumption⟩
instance (v:Vec):Decidable (MayP v):=decidable_of_iff _ comp_all.symm
instance (a b:Vec):Decidable (LeP a b):=decidable_of_iff _ comp_all.symm
theorem mayP_iff {a b d:Int}:MayP ⟨a,b,d⟩↔(0≤a∧a≤1099511627776)∧(0≤b∧b≤1099511627776)∧(0≤d∧d≤1099511627776):=comp_all
theorem leP_iff {a b d a' b' d':Int}:LeP ⟨a,b,d⟩ ⟨a',b',d'⟩↔a≤a'∧b≤b'∧d≤d':=comp_all
def sumBy (g:Item→Int) (l:List Item):Int:=(l.map g).sum
theorem sumBy_nil (g:Item→Int):sumBy g []=0:=rfl
theorem sumBy_cons (g:Item→Int) (x:Item) (l:List Item):sumBy g (x::l)=g x+sumBy g l:=by simp [sumBy]
theorem sumBy_append (g:Item→Int) (l m:List Item):sumBy g (l++m)=sumBy g l+sumBy g m:=by simp [sumBy]
theorem sumBy_nonneg {g:Item→Int}: ∀{l:List Item},(∀x∈l,0≤g x)→0≤sumBy g l
 |[],_=>by simp [sumBy_nil]
 |x::l,e=>by rw [sumBy_cons];have:=e x (by simp);have:=sumBy_nonneg (l:=l) (fun y hy=>e y (by simp [hy]));omega
theorem sumBy_le {g:Item→Int} {B:Int}: ∀{l:List Item},(∀x∈l,g x≤B)→sumBy g l≤B*l.length
  |[],_=>by simp [sumBy_nil]
  | x :: l, e => by
    rw [sumBy_cons];have:=e x (by simp);have:=sumBy_le (l:=l) (fun y hy=>e y (by simp [hy]));simp only [List.length_cons,Int.natCast_succ,Int.mul_add,Int.mul_one];omega
def csum (c:Comp) (l:List Item) (n:ByteArray):Int:=sumBy (fun y=>if y.f1=n then c.of y.f4 else 0) l
structure ItemOK (x:Item):Prop where
 name:x.f0≠⟨#[]⟩
 size:x.f0.size≤24
 lim:MayP x.f2
 own:MayP x.f3
 sub:MayP x.f4
 fit:LeP x.f4 x.f2
 ver:1≤x.f5∧x.f5≤9007199254740992
structure RightP (l:List Item):Prop where
 len:l.length≤120
 ok: ∀x∈l,ItemOK x
 sorted:l.Pairwise (fun x y=>lt x.f0 y.f0=true)
 par: ∀x∈l,x.f1=⟨#[]⟩∨ ∃y,look l x.f1=some y
 sum: ∀c:Comp,∀x∈l,c.of x.f4=c.of x.f3+csum c l x.f0
 chain: ∀x∈l,∃us,Chain l x.f0 us
theorem sorted_nodup {l:List Item} (h:l.Pairwise (fun x y=>lt x.f0 y.f0=true)):(l.map (·.f0)).Nodup:=by
 rw [List.Nodup,List.pairwise_map];exact h.imp (fun hxy=>lt_ne hxy)
theorem RightP.nodup {l:List Item} (h:RightP l):(l.map (·.f0)).Nodup:=sorted_nodup h.sorted
theorem look_of_mem {l:List Item} (hn:(l.map (·.f0)).Nodup) {x:Item} (hx:x∈l):look l x.f0=some x:=by
  induction l with
  |nil=>cases hx
  | cons y l ih =>
    rw [List.map_cons,List.nodup_cons] at hn;unfold look;rw [List.find?_cons]
    rcases List.mem_cons.1 hx with rfl|hx
    · simp
    have:y.f0≠x.f0:=fun e=>hn.1 (by rw [e];exact List.mem_map_of_mem hx)
    simp only [this,decide_false];exact ih hn.2 hx
theorem RightP.look {l:List Item} (h:RightP l) {x:Item} (hx:x∈l):look l x.f0=some x:=look_of_mem h.nodup hx
end Go.Proofs.Ytahidkjncljkaaa.Print

namespace Go.Proofs.Ytahidkjncljkaaa.Print
open Go.RowKit Go.Proofs.YtahidkjncljkaaaW.PrintWords Go.Proofs.YtahidkjncljkaaaW.PrintLast Go.Proofs.YtahidkjncljkaaaW.PrintMore
theorem vec_Le_eq (a b d a' b' d':Int):vec_Le.f a b d a' b' d'=some (decide (LeP ⟨a,b,d⟩ ⟨a',b',d'⟩)):=by
 unfold vec_Le.f;by_cases h0:a≤a'<;>by_cases h1:b≤b'<;>simp [h0,h1,leP_iff]
theorem vec_May_eq (a b d:Int):vec_May.f a b d=some (decide (MayP ⟨a,b,d⟩)):=by
  unfold vec_May.f vec_Most.f;simp only [vec_Le_eq,Option.bind_some];by_cases h:LeP ⟨0,0,0⟩ ⟨a,b,d⟩
  · rw [if_pos (by exact decide_eq_true h)]
    congr 1
    rw [Bool.eq_iff_iff,decide_eq_true_iff,decide_eq_true_iff,mayP_iff,leP_iff]
    rw [leP_iff] at h
    constructor<;>intro k<;>omega
  rw [if_neg (by simpa using h)]
  congr 1
  symm
  rw [decide_eq_false_iff_not,mayP_iff];rw [leP_iff] at h
  omega
end Go.Proofs.Ytahidkjncljkaaa.Print

namespace Go.Proofs.Ytahidkjncljkaaa.Print
open Go.RowKit Go.Proofs.YtahidkjncljkaaaW.PrintWords Go.Proofs.YtahidkjncljkaaaW.PrintLast Go.Proofs.YtahidkjncljkaaaW.PrintMore
attribute [local go_sem] max2_int min2_int max_two min_two max_three min_three max_four min_four

theorem wnx {i:Nat} (h:i<100000000):wrap64 ((i:Int)+1)=((i+1:Nat):Int):=by unfold wrap64;omega
def wmay (w:S39):Bool:=decide (w.f0≠⟨#[]⟩∧w.f0.size≤24∧MayP w.f2)
def wnames (l:List S39):List S39→Int→Int
 |[],_=>0
 |w::ws,i=>if wmay w=true then (if wplace l w.f0=i then wnames l ws (i+1) else 3) else 1
theorem wnames_drop {l:List S39} {i:Nat} (h:i<l.length):wnames l (l.drop i) i=if wmay (rd_T39 l i)=true then (if wplace l (rd_T39 l i).f0=i then wnames l (l.drop (i+1)) ((i+1:Nat):Int) else 3) else 1:=by
 rw [List.drop_eq_getElem_cons h]
 have e:rd_T39 l (i:Int)=l[i]:=by
  show l.getD (i:Int).toNat _=_
  rw [Int.toNat_natCast,List.getD_eq_getElem?_getD,List.getElem?_eq_getElem h,Option.getD_some]
 rw [e]
 rfl
set_option maxHeartbeats 8000000 in
set_option maxRecDepth 100000 in
theorem wantNames_calls (A:Option Addr) (c:Nat) (l:List S39) (w:World) (hr:Kd.C k39 w A l.length l) (hc:l.length≤c) (hl:l.length≤1000000):
    Calls Try.prog 72 #[.agg #[.slice A l.length c]] w fun e w'=>e= .returned (.int .i64 (wnames l l 0))∧Below w.heap.size w w':=by
  have hu110:=Try.underlying110;have hu39:=Try.underlying39;have HR:=Aside0.mk hr;have HC:=Aside0.mk hc;have HB:=am_ (Below.refl w.heap.size w);clear hr hc;go_enter Try.func72,Try.ntmps72;go_wp2_with (first|((with_reducible refine gate_dst (N:=1) rfl ?_);refine bx_ (N:=1) (cs:=#[.slice A l.length c]) (t:=110) ?_;intro gb1 hg w1 hbox hb;have BK1:=am_ (hbox);have GE1:=am_ ((by rw [hg];exact below_size HB.out:w.heap.size≤gb1));replace HB:=am_ (below_step HB.out hb);have EQ1:=am_ (hg);clear hb hbox hg;have cgb1_0:=zz_ BK1 0))
  go_loopg [8] l.length (fun kq v8 w'=> ∃i:Nat,v8= .int .i64 i∧i≤l.length∧l.length - i≤kq∧Aside0 (Below w.heap.size w w')∧Aside0 (w'.heap[gb1]?=some (.cells #[.slice A l.length c] 110 (0,0)))∧Aside0 (wnames l l 0=wnames l (l.drop i) i))
  case atStart=>exact ⟨0,rfl,by omega,by omega,HB,BK1,⟨rfl⟩⟩
  case round=>
    clear HB BK1 cgb1_0;obtain ⟨i,rfl,hil,hkq,HB,BK1,HF⟩:=hrel;by_cases hlt:i<l.length;rotate_left
    · obtain rfl : i = l.length := by omega
      go_wp2
      go_ret
      refine ⟨?_,HB.out⟩
      rw [HF.out,List.drop_length]
      rfl


    have hltz:(i:Int)<(l.length:Int):=by omega
    obtain ⟨x,hx⟩: ∃x:Int,x=(i:Int):=⟨_,rfl⟩;have HX0:=am_ (show 0≤x by omega);have HX1:=am_ (show x<(l.length:Int) by omega);have HD:=am_ (wnames_drop hlt);rw [←hx] at HD;have HXI:=Aside0.mk hx;rw [←hx];have hltx:x<(l.length:Int):=HX1.out;clear hltz hx;have p6:0≤x:=HX0.out;have q6:x<(l.length:Int):=HX1.out;obtain ⟨ad,e6,k0,k1,k2,k3,k4⟩:=at_T39 HR.out x p6 q6;cases e6;have k0:=zx_ HB k0;have k1:=zx_ HB k1;have k2:=zx_ HB k2;have k3:=zx_ HB k3;have k4:=zx_ HB k4;replace p6:=eq_true p6;replace q6:=eq_true q6;have BK1_:=BK1;by_cases hm:wmay (rd_T39 l x)=true;rotate_left
    · have HM := hm
      unfold wmay at HM
      rw [decide_eq_true_iff] at HM
      rw [if_neg hm] at HD
      clear hm
      have HMM:=Aside0.mk HM
      clear HM
      by_cases e1:(rd_T39 l x).f0.toList.isEmpty=true
      · go_wp2_with (first | ((with_reducible refine gate_dst (N := 4) rfl ?_); refine bx_ (N := 4) (cs := #[.string ⟨#[]⟩, .string ⟨#[]⟩, .int .i64 0, .int .i64 0, .int .i64 0]) (t := 39) ?_; intro gb4 hg w4 hbox hb; replace BK1 := am_ (blk_below BK1.out hb); have BK4 := am_ (hbox); have GE4 := am_ ((by rw [hg]; exact below_size HB.out : w.heap.size ≤ gb4)); replace HB := am_ (below_step HB.out hb); have EQ4 := am_ (hg); have NE := am_ (show gb1 ≠ gb4 from by have := blk_lt BK1_.out; rw [hg]; exact Nat.ne_of_lt this); clear hb hbox hg; have cgb4_0 := (blk_cell BK4.out 0).trans rfl; have cgb4_1 := (blk_cell BK4.out 1).trans rfl; have cgb4_2 := (blk_cell BK4.out 2).trans rfl; have cgb4_3 := (blk_cell BK4.out 3).trans rfl; have cgb4_4 := (blk_cell BK4.out 4).trans rfl) | ((with_reducible refine gate_store (t := 39) (p := 4) (v := .tmp 12) rfl ?_); refine store_all BK4.out 39 (.tmp 4) (.tmp 12) rfl rfl rfl (.agg #[.string (rd_T39 l x).f0, .string (rd_T39 l x).f1, .int .i64 (rd_T39 l x).f2.f0, .int .i64 (rd_T39 l x).f2.f1, .int .i64 (rd_T39 l x).f2.f2]) [.string (rd_T39 l x).f0, .string (rd_T39 l x).f1, .int .i64 (rd_T39 l x).f2.f0, .int .i64 (rd_T39 l x).f2.f1, .int .i64 (rd_T39 l x).f2.f2] rfl rfl rfl (by kernel_rfl) rfl (by intro q hq; simp only [List.mem_cons, List.not_mem_nil, or_false] at hq; rcases hq with rfl | rfl | rfl | rfl | rfl <;> rfl) ?_; intro w5 hbk hg; clear cgb4_0 cgb4_1 cgb4_2 cgb4_3 cgb4_4; replace BK1 := am_ (blk_put_other BK1.out hg (NE.out)); replace HB := am_ (below_put HB.out (below_size HB.out) hg GE4.out); replace BK4 := am_ (hbk); clear hbk hg; have cgb4_0 := (blk_cell BK4.out 0).trans rfl; have cgb4_1 := (blk_cell BK4.out 1).trans rfl; have cgb4_2 := (blk_cell BK4.out 2).trans rfl; have cgb4_3 := (blk_cell BK4.out 3).trans rfl; have cgb4_4 := (blk_cell BK4.out 4).trans rfl))
        go_ret
        exact ⟨by rw [HF.out,←HXI.out,HD.out];rfl,HB.out⟩
      replace e1:=Bool.eq_false_iff.mpr e1
      by_cases e2:(24:Int)<((rd_T39 l x).f0.size:Int)
      · go_wp2_with (first | ((with_reducible refine gate_dst (N := 4) rfl ?_); refine bx_ (N := 4) (cs := #[.string ⟨#[]⟩, .string ⟨#[]⟩, .int .i64 0, .int .i64 0, .int .i64 0]) (t := 39) ?_; intro gb4 hg w4 hbox hb; replace BK1 := am_ (blk_below BK1.out hb); have BK4 := am_ (hbox); have GE4 := am_ ((by rw [hg]; exact below_size HB.out : w.heap.size ≤ gb4)); replace HB := am_ (below_step HB.out hb); have EQ4 := am_ (hg); have NE := am_ (show gb1 ≠ gb4 from by have := blk_lt BK1_.out; rw [hg]; exact Nat.ne_of_lt this); clear hb hbox hg; have cgb4_0 := (blk_cell BK4.out 0).trans rfl; have cgb4_1 := (blk_cell BK4.out 1).trans rfl; have cgb4_2 := (blk_cell BK4.out 2).trans rfl; have cgb4_3 := (blk_cell BK4.out 3).trans rfl; have cgb4_4 := (blk_cell BK4.out 4).trans rfl) | ((with_reducible refine gate_store (t := 39) (p := 4) (v := .tmp 12) rfl ?_); refine store_all BK4.out 39 (.tmp 4) (.tmp 12) rfl rfl rfl (.agg #[.string (rd_T39 l x).f0, .string (rd_T39 l x).f1, .int .i64 (rd_T39 l x).f2.f0, .int .i64 (rd_T39 l x).f2.f1, .int .i64 (rd_T39 l x).f2.f2]) [.string (rd_T39 l x).f0, .string (rd_T39 l x).f1, .int .i64 (rd_T39 l x).f2.f0, .int .i64 (rd_T39 l x).f2.f1, .int .i64 (rd_T39 l x).f2.f2] rfl rfl rfl (by kernel_rfl) rfl (by intro q hq; simp only [List.mem_cons, List.not_mem_nil, or_false] at hq; rcases hq with rfl | rfl | rfl | rfl | rfl <;> rfl) ?_; intro w5 hbk hg; clear cgb4_0 cgb4_1 cgb4_2 cgb4_3 cgb4_4; replace BK1 := am_ (blk_put_other BK1.out hg (NE.out)); replace HB := am_ (below_put HB.out (below_size HB.out) hg GE4.out); replace BK4 := am_ (hbk); clear hbk hg; have cgb4_0 := (blk_cell BK4.out 0).trans rfl; have cgb4_1 := (blk_cell BK4.out 1).trans rfl; have cgb4_2 := (blk_cell BK4.out 2).trans rfl; have cgb4_3 := (blk_cell BK4.out 3).trans rfl; have cgb4_4 := (blk_cell BK4.out 4).trans rfl))
        go_ret
        exact ⟨by rw [HF.out,←HXI.out,HD.out];rfl,HB.out⟩
      have HV:vec_May.f (rd_T39 l x).f2.f0 (rd_T39 l x).f2.f1 (rd_T39 l x).f2.f2=some false:=by
        rw [vec_May_eq];refine congrArg some (decide_eq_false fun q=>HMM.out ⟨fun h=> ?_,by omega,q⟩);rw [h] at e1;rw [ByteArray.toList_eq] at e1;exact absurd e1 (by simp)
      have HV:=Aside0.mk HV
      go_wp2_with (first|((with_reducible refine gate_dst (N:=4) rfl ?_);refine bx_ (N:=4) (cs:=#[.string ⟨#[]⟩, .string ⟨#[]⟩, .int .i64 0, .int .i64 0, .int .i64 0]) (t:=39) ?_;intro gb4 hg w4 hbox hb;replace BK1:=am_ (blk_below BK1.out hb);have BK4:=am_ (hbox);have GE4:=am_ ((by rw [hg];exact below_size HB.out:w.heap.size≤gb4));replace HB:=am_ (below_step HB.out hb);have EQ4:=am_ (hg);have NE:=am_ (show gb1≠gb4 from by have:=blk_lt BK1_.out;rw [hg];exact Nat.ne_of_lt this);clear hb hbox hg;have cgb4_0:=zz_ BK4 0;have cgb4_1:=zz_ BK4 1;have cgb4_2:=zz_ BK4 2;have cgb4_3:=zz_ BK4 3;have cgb4_4:=zz_ BK4 4)|((with_reducible refine gate_store (t:=39) (p:=4) (v:= .tmp 12) rfl ?_);refine store_all BK4.out 39 (.tmp 4) (.tmp 12) rfl rfl rfl (.agg #[.string (rd_T39 l x).f0, .string (rd_T39 l x).f1, .int .i64 (rd_T39 l x).f2.f0, .int .i64 (rd_T39 l x).f2.f1, .int .i64 (rd_T39 l x).f2.f2]) [.string (rd_T39 l x).f0, .string (rd_T39 l x).f1, .int .i64 (rd_T39 l x).f2.f0, .int .i64 (rd_T39 l x).f2.f1, .int .i64 (rd_T39 l x).f2.f2] rfl rfl rfl (by kernel_rfl) rfl (by intro q hq;simp only [List.mem_cons,List.not_mem_nil,or_false] at hq;rcases hq with rfl|rfl|rfl|rfl|rfl<;>rfl) ?_;intro w5 hbk hg;clear cgb4_0 cgb4_1 cgb4_2 cgb4_3 cgb4_4;replace BK1:=am_ (blk_put_other BK1.out hg (NE.out));replace HB:=am_ (below_put HB.out (below_size HB.out) hg GE4.out);replace BK4:=am_ (hbk);clear hbk hg;have cgb4_0:=zz_ BK4 0;have cgb4_1:=zz_ BK4 1;have cgb4_2:=zz_ BK4 2;have cgb4_3:=zz_ BK4 3;have cgb4_4:=zz_ BK4 4))
      clear k0 k1 k2 k3 k4 p6 q6
      go_wp2_with (go_at_call 111;refine (vec_May.calls _ _ _ _ _ HV.out).mono ?_;rintro e w6 ⟨rfl,hb⟩;have n0_:=am_ (blk_below BK1.out hb);have n1_:=am_ (blk_below BK4.out hb);have n2_:=am_ (below_step HB.out hb);clear BK1 BK4 HB hb cgb4_0 cgb4_1 cgb4_2 cgb4_3 cgb4_4;have BK1:=n0_;have BK4:=n1_;have HB:=n2_;clear n0_ n1_ n2_;have cgb4_0:=zz_ BK4 0;have cgb1_0:=zz_ BK1 0)
      go_ret
      exact ⟨by rw [HF.out,←HXI.out,HD.out];rfl,HB.out⟩
    have HM:=hm;unfold wmay at HM;rw [decide_eq_true_iff] at HM;rw [if_pos hm] at HD;clear hm
    have hE:(rd_T39 l x).f0.toList.isEmpty=false:=by
      cases q:(rd_T39 l x).f0.toList with
      |nil=>exact absurd (ByteArray.ext (Array.toList_inj.1 (by rw [←ByteArray.toList_eq,q]))) HM.1
      |cons _ _=>rfl
    have hS: ¬((rd_T39 l x).f0.size:Int)>24:=by have:=HM.2.1;omega
    have hS': ¬(24:Int)<((rd_T39 l x).f0.size:Int):=by have:=HM.2.1;omega
    have HV:vec_May.f (rd_T39 l x).f2.f0 (rd_T39 l x).f2.f1 (rd_T39 l x).f2.f2=some true:=by rw [vec_May_eq];exact congrArg some (decide_eq_true HM.2.2)
    have HV:=Aside0.mk HV;clear HM
    go_wp2_with (first|((with_reducible refine gate_dst (N:=4) rfl ?_);refine bx_ (N:=4) (cs:=#[.string ⟨#[]⟩, .string ⟨#[]⟩, .int .i64 0, .int .i64 0, .int .i64 0]) (t:=39) ?_;intro gb4 hg w4 hbox hb;replace BK1:=am_ (blk_below BK1.out hb);have BK4:=am_ (hbox);have GE4:=am_ ((by rw [hg];exact below_size HB.out:w.heap.size≤gb4));replace HB:=am_ (below_step HB.out hb);have EQ4:=am_ (hg);have NE:=am_ (show gb1≠gb4 from by have:=blk_lt BK1_.out;rw [hg];exact Nat.ne_of_lt this);clear hb hbox hg;have cgb4_0:=zz_ BK4 0;have cgb4_1:=zz_ BK4 1;have cgb4_2:=zz_ BK4 2;have cgb4_3:=zz_ BK4 3;have cgb4_4:=zz_ BK4 4)|((with_reducible refine gate_store (t:=39) (p:=4) (v:= .tmp 12) rfl ?_);refine store_all BK4.out 39 (.tmp 4) (.tmp 12) rfl rfl rfl (.agg #[.string (rd_T39 l x).f0, .string (rd_T39 l x).f1, .int .i64 (rd_T39 l x).f2.f0, .int .i64 (rd_T39 l x).f2.f1, .int .i64 (rd_T39 l x).f2.f2]) [.string (rd_T39 l x).f0, .string (rd_T39 l x).f1, .int .i64 (rd_T39 l x).f2.f0, .int .i64 (rd_T39 l x).f2.f1, .int .i64 (rd_T39 l x).f2.f2] rfl rfl rfl (by kernel_rfl) rfl (by intro q hq;simp only [List.mem_cons,List.not_mem_nil,or_false] at hq;rcases hq with rfl|rfl|rfl|rfl|rfl<;>rfl) ?_;intro w5 hbk hg;clear cgb4_0 cgb4_1 cgb4_2 cgb4_3 cgb4_4;replace BK1:=am_ (blk_put_other BK1.out hg (NE.out));replace HB:=am_ (below_put HB.out (below_size HB.out) hg GE4.out);replace BK4:=am_ (hbk);clear hbk hg;have cgb4_0:=zz_ BK4 0;have cgb4_1:=zz_ BK4 1;have cgb4_2:=zz_ BK4 2;have cgb4_3:=zz_ BK4 3;have cgb4_4:=zz_ BK4 4))
    clear k0 k1 k2 k3 k4 p6 q6;by_cases hq:wplace l (rd_T39 l x).f0=x
    · rw [if_pos hq] at HD
      have hqb:(wplace l (rd_T39 l x).f0 !=x)=false:=by rw [hq];simp
      clear hq
      go_wp2_with (first|(go_at_call 111;refine (vec_May.calls _ _ _ _ _ HV.out).mono ?_;rintro e w6 ⟨rfl,hb⟩;have n0_:=am_ (blk_below BK1.out hb);have n1_:=am_ (blk_below BK4.out hb);have n2_:=am_ (below_step HB.out hb);clear BK1 BK4 HB hb cgb4_0 cgb4_1 cgb4_2 cgb4_3 cgb4_4;have BK1:=n0_;have BK4:=n1_;have HB:=n2_;clear n0_ n1_ n2_;have cgb4_0:=zz_ BK4 0;have cgb1_0:=zz_ BK1 0)|(go_at_call 73;refine (wantFind_calls (some ad) c l (rd_T39 l x).f0 _ (Kd.C_below HR.out HB.out) HC.out).mono ?_;rintro e w7 ⟨rfl,hb⟩;have n0_:=am_ (blk_below BK1.out hb);have n2_:=am_ (below_step HB.out hb);clear BK1 BK4 HB hb;have BK1:=n0_;have HB:=n2_;clear n0_ n2_))
      go_roundg (l.length - (i+1))
      case measure=>omega
      case rel=>exact ⟨i+1,by rw [HXI.out,wnx (by omega)],by omega,by omega,HB,BK1,⟨by rw [HF.out,←HXI.out,HD.out]⟩⟩
    rw [if_neg hq] at HD;have hqb:(wplace l (rd_T39 l x).f0 !=x)=true:=bne_iff_ne.mpr hq;clear hq;go_wp2_with (first|(go_at_call 111;refine (vec_May.calls _ _ _ _ _ HV.out).mono ?_;rintro e w6 ⟨rfl,hb⟩;have n0_:=am_ (blk_below BK1.out hb);have n1_:=am_ (blk_below BK4.out hb);have n2_:=am_ (below_step HB.out hb);clear BK1 BK4 HB hb cgb4_0 cgb4_1 cgb4_2 cgb4_3 cgb4_4;have BK1:=n0_;have BK4:=n1_;have HB:=n2_;clear n0_ n1_ n2_;have cgb4_0:=zz_ BK4 0;have cgb1_0:=zz_ BK1 0)|(go_at_call 73;refine (wantFind_calls (some ad) c l (rd_T39 l x).f0 _ (Kd.C_below HR.out HB.out) HC.out).mono ?_;rintro e w7 ⟨rfl,hb⟩;have n0_:=am_ (blk_below BK1.out hb);have n2_:=am_ (below_step HB.out hb);clear BK1 BK4 HB hb;have BK1:=n0_;have HB:=n2_;clear n0_ n2_))
    go_ret
    exact ⟨by rw [HF.out,←HXI.out,HD.out];rfl,HB.out⟩
end Go.Proofs.Ytahidkjncljkaaa.Print

namespace Go.Proofs.Ytahidkjncljkaaa.Print
open Go.RowKit Go.Proofs.YtahidkjncljkaaaW.PrintWords Go.Proofs.YtahidkjncljkaaaW.PrintLast Go.Proofs.YtahidkjncljkaaaW.PrintMore
open Go.Maps (Keyed)
open Go.WideMaps
theorem keyStr:Keyed Try.prog 9:=Maps.string_keyed Try.underlying9
theorem zeroInt (w:World):(zeroValue 3).run Try.prog w= .ok (.int .i64 0) w:=Try.zeroValue3 w
def MapAt (w:World) (b n:Nat) (f:ByteArray→Int):Prop:= ∃D:DataW Unit,w.ownsMap Try.prog 9 (plainElem Try.prog 3) b n D∧Maps.IsMap D∧ ∀s:ByteArray,s.size≤maxLen→D.atKey (.string s.data.toList) (.lit (.int .i64 0))= .lit (.int .i64 (f s))
theorem MapAt.made (w:World):MapAt (w.alloc (.map #[] 0)) w.heap.size 0 (fun _=>0):=⟨.map [],World.ownsMap_made _ _ _ _,Maps.isMap_empty,fun s _=>rfl⟩
theorem MapAt.lt {w:World} {b n:Nat} {f:ByteArray→Int} (h:MapAt w b n f):b<w.heap.size:=by obtain ⟨D,h,_⟩:=h;exact h.lt
theorem MapAt.kept {w w':World} {b n:Nat} {f:ByteArray→Int} (h:MapAt w b n f) (hb:w'.heap[b]?=w.heap[b]?):MapAt w' b n f:=by
 obtain ⟨D,⟨es,clock,h1,h2⟩,h3⟩:=h;exact ⟨D,⟨es,clock,hb.trans h1,h2⟩,h3⟩
theorem MapAt.below {w w':World} {b n:Nat} {f:ByteArray→Int} (h:MapAt w b n f) (hb:Below w.heap.size w w'):MapAt w' b n f:=h.kept (hb.block b h.lt)
theorem MapAt.other {w w':World} {b n g:Nat} {f:ByteArray→Int} (h:MapAt w b n f) (hg:w.grownBy w' (some g)) (hne:b≠g):MapAt w' b n f:=h.kept (hg.block b h.lt (by intro e;cases e;exact hne rfl))
theorem MapAt.mono {w:World} {b n m:Nat} {f:ByteArray→Int} (h:MapAt w b n f) (hn:n≤m):MapAt w b m f:=by obtain ⟨D,h,q⟩:=h;exact ⟨D,h.mono hn,q⟩
theorem MapAt.look {w:World} {b n:Nat} {f:ByteArray→Int} (h:MapAt w b n f) {t:TypeId} (ht:Try.prog.underlying t=some (.map 9 3)) {s:ByteArray} (hs:s.size≤maxLen) (wq:World) (hq:wq.heap=w.heap):(Instr.lookup t (.map (some b)) (.string s) false).run Try.prog wq= .ok (.int .i64 (f s)) wq:=by
 obtain ⟨D,h,_,hf⟩:=h.kept (w':=wq) (by rw [hq]);obtain ⟨c,hrun,hat,_⟩:=h.lookup_int keyStr ht Try.underlying3 (zeroInt _) (keyOf_string_mk Try.underlying9 hs);rw [hf s hs] at hat;rw [hrun];simp only [DataW.lit.injEq,Lit.int.injEq,true_and] at hat;rw [hat]
theorem str_key {s t:ByteArray}:(Lit.string s.data.toList)=(Lit.string t.data.toList)↔s=t:=by
  constructor
  rotate_left
  · rintro rfl;rfl
  intro h;simp only [Lit.string.injEq] at h;exact ByteArray.ext (Array.toList_inj.1 h)
def updM (f:ByteArray→Int) (s:ByteArray) (v:Int):ByteArray→Int:=fun x=>if x=s then v else f x
theorem MapAt.upd {w:World} {b n:Nat} {f:ByteArray→Int} (h:MapAt w b n f) {t:TypeId} (ht:Try.prog.underlying t=some (.map 9 3)) (hn:n<maxLen) {s:ByteArray} (hs:s.size≤maxLen) {v:Int} (hv:(Lit.int .i64 v).wf=true):
    ∃w',(Instr.mapUpdate t (.map (some b)) (.string s) (.int .i64 v)).run Try.prog w= .ok () w'∧MapAt w' b (n+1) (updM f s v)∧w.grownBy w' (some b):=by
  obtain ⟨D,h,hm,hf⟩:=h;obtain ⟨w',hrun,ho,hg⟩:=h.update keyStr ht hn (keyOf_string_mk Try.underlying9 hs) (plainElem_int Try.underlying3 hv);refine ⟨w',hrun,⟨_,ho,hm.put _ _,fun x hx=> ?_⟩,hg⟩;unfold updM;by_cases e:x=s
  · rw [if_pos e,e,Maps.atKey_put_same hm (by trivial)]
  rw [if_neg e,Maps.atKey_put_other (fun q=>e (str_key.1 q)),hf x hx]
section
variable {ops:Array Oper} {rest:List Oper} {o:Oper} {a:Act} {Q:Exit→Act→World→Prop} {Kc:Act→World→Prop} {W:World}
theorem map_step {b n:Nat} {f:ByteArray→Int} (hm:MapAt W b n f) (hw:Region.wanted o (yielded ops a.tmps)=true) (t:TypeId) (ht:Try.prog.underlying t=some (.map 9 3)) (m x y:Operand) (ho:o.op= .mapUpdate t m x y) (hN:o.dst=none) (s:ByteArray) (v:Int)
  (h1:a.eval m= .map (some b)) (h2:a.eval x= .string s) (h3:a.eval y= .int .i64 v) (hn:n<maxLen) (hs:s.size≤maxLen) (hv:(Lit.int .i64 v).wf=true)
  (h: ∀w',MapAt w' b (n+1) (updM f s v)→W.grownBy w' (some b)→Kc a w'):if Region.wanted o (yielded ops a.tmps)=true then Oper.wp Try.prog o a W Kc Q else Kc (a.put none undef) W:=by
 obtain ⟨w',hrun,hc,hg⟩:=hm.upd ht hn hs hv
 rw [if_pos hw]
 unfold Oper.wp execOp
 simp only [ho,h1,h2,h3,Sem.run_bind,Sem.run_pure,Result.andThen_ok,hrun]
 show Kc (a.put o.dst undef) _
 rw [hN]
 exact h _ hc hg
end
end Go.Proofs.Ytahidkjncljkaaa.Print

namespace Go.Proofs.Ytahidkjncljkaaa.Print
open Go.RowKit Go.Proofs.YtahidkjncljkaaaW.PrintWords Go.Proofs.YtahidkjncljkaaaW.PrintLast Go.Proofs.YtahidkjncljkaaaW.PrintMore
def KeptB (b:Nat) (W w:World):Prop:=(∀g ob,g≠b→W.heap[g]?=some ob→w.heap[g]?=some ob)∧W.heap.size≤w.heap.size
theorem keptB_refl (b:Nat) (W:World):KeptB b W W:=⟨fun _ _ _ h=>h,Nat.le_refl _⟩
theorem keptB_below {b:Nat} {W w w1:World} (h:KeptB b W w) (hb:Below w.heap.size w w1):KeptB b W w1:=⟨fun g ob hn hg=>blk_below (h.1 g ob hn hg) hb,Nat.le_trans h.2 hb.size⟩
theorem keptB_put {b g:Nat} {W w w1:World} (h:KeptB b W w) (hg:w.grownBy w1 (some g)) (hx:g=b∨W.heap.size≤g):KeptB b W w1:=
  ⟨fun k ob hn hk=>blk_put_other (h.1 k ob hn hk) hg (fun e=>by
    rcases hx with rfl|hx
    · exact hn e
    have:=blk_lt hk
    omega),Nat.le_trans h.2 hg.size⟩
end Go.Proofs.Ytahidkjncljkaaa.Print

namespace Go.Proofs.Ytahidkjncljkaaa.Print
open Go.RowKit Go.Proofs.YtahidkjncljkaaaW.PrintWords Go.Proofs.YtahidkjncljkaaaW.PrintLast Go.Proofs.YtahidkjncljkaaaW.PrintMore
attribute [local go_sem] max2_int min2_int max_two min_two max_three min_three max_four min_four

def fstep (f:ByteArray→Int) (w:S39):ByteArray→Int:=if w.f1=⟨#[]⟩ then updM f w.f0 1 else if f w.f1>0 then updM f w.f0 (wrap64 (f w.f1+1)) else f
def fround (l:List S39) (f:ByteArray→Int):ByteArray→Int:=l.foldl fstep f
def frounds (l:List S39):Nat→(ByteArray→Int)→ByteArray→Int
 |0,f=>f
 |n+1,f=>frounds l n (fround l f)
def fillR (l:List S39):ByteArray→Int:=frounds l l.length (fun _=>0)
theorem fround_drop {l:List S39} {i:Nat} (h:i<l.length) (f:ByteArray→Int):(l.drop i).foldl fstep f=(l.drop (i+1)).foldl fstep (fstep f (rd_T39 l i)):=by
 rw [List.drop_eq_getElem_cons h,List.foldl_cons]
 have e:rd_T39 l (i:Int)=l[i]:=by
  show l.getD (i:Int).toNat _=_
  rw [Int.toNat_natCast,List.getD_eq_getElem?_getD,List.getElem?_eq_getElem h,Option.getD_some]
 rw [e]
def smallW (l:List S39):Prop:= ∀w∈l,w.f0.size≤1000000∧w.f1.size≤1000000
theorem smallW_rd {l:List S39} (h:smallW l) (i:Int):(rd_T39 l i).f0.size≤maxLen∧(rd_T39 l i).f1.size≤maxLen:=by
  show (l.getD i.toNat _).f0.size≤_∧(l.getD i.toNat _).f1.size≤_
  rw [List.getD_eq_getElem?_getD]
  cases e:l[i.toNat]? with
  |none=>exact ⟨by show (0:Nat)≤_;omega,by show (0:Nat)≤_;omega⟩
  | some x =>
    have:=h x (List.mem_of_getElem? e)
    unfold maxLen;exact ⟨by show x.f0.size≤_;omega,by show x.f1.size≤_;omega⟩
theorem wf64 (n:Int):(Lit.int .i64 (wrap64 n)).wf=true:=by
  simp only [Lit.wf,Bool.and_eq_true,decide_eq_true_eq];unfold wrap64
  constructor
  · show (-9223372036854775808:Int)≤_;omega
  show _≤(9223372036854775807:Int);omega
set_option maxHeartbeats 8000000 in
set_option maxRecDepth 100000 in
theorem wantFill_calls (w W:World) (b:Nat) (A:Option Addr) (c:Nat) (l:List S39) (m0:Option Nat) (hb:W.heap[b]?=some (.cells #[.slice A l.length c, .map m0] 113 (0,0))) (hge:w.heap.size≤b) (hB:Below w.heap.size w W) (hr:Kd.C k39 w A l.length l) (hc:l.length≤c) (hl:l.length≤1000) (hs:smallW l):
    Calls Try.prog 74 #[.pointer (some ⟨b,0,none⟩)] W fun e w'=>e= .returned (.tuple #[])∧ ∃mb n,w'.heap[b]?=some (.cells #[.slice A l.length c, .map (some mb)] 113 (0,0))∧MapAt w' mb n (fillR l)∧Below w.heap.size w w'∧ ∀g ob,g≠b→W.heap[g]?=some ob→w'.heap[g]?=some ob:=by
  have hu113:=Try.underlying113;have hu110:=Try.underlying110;have hu39:=Try.underlying39;have hmm:=@run_makeMap Try.prog;have BK:=Aside0.mk hb;have GE:=Aside0.mk hge;have HB:=Aside0.mk hB;have HR:=Aside0.mk hr;have HC:=Aside0.mk hc;have HS:=Aside0.mk hs;have KP:=am_ (keptB_refl b W);have HBW:=HB;have cb_0:=zz_ BK 0;have cb_1:=zz_ BK 1;clear hb hge hB hr hc hs;go_enter Try.func74,Try.ntmps74;have HBL:=am_ (blk_lt BK.out);go_wp2_with ((with_reducible refine gate_store (t:=111) (p:=8) (v:= .tmp 6) rfl ?_);refine store_part (blk_alloc BK.out _) 111 (.tmp 8) (.tmp 6) rfl rfl rfl 1 (.map (some W.heap.size)) [.map (some W.heap.size)] [.slice A l.length c, .map (some W.heap.size)] rfl rfl rfl (by kernel_rfl) (Nat.le_of_ble_eq_true (by kernel_rfl)) (by intro q hq;simp only [List.mem_cons,List.not_mem_nil,or_false] at hq;rcases hq with rfl;rfl) (by kernel_rfl) ?_;intro w2 hbk hg;clear cb_0 cb_1;have MP:=am_ ((MapAt.made W).other hg (Nat.ne_of_gt HBL.out));have n0_:=am_ (below_put (below_alloc HB.out _) (by have:=below_size HB.out;simp;omega) hg GE.out);have n1_:=am_ (keptB_put (keptB_below KP.out (below_alloc (Below.refl _ _) _)) hg (.inl rfl));have n2_:=Aside0.mk hbk;clear BK HB KP hbk hg;have BK:=n2_;have HB:=n0_;have KP:=n1_;clear n0_ n1_ n2_;have cb_0:=zz_ BK 0)
  go_loopg [15] l.length (fun kq v15 w'=> ∃(i mb n:Nat) (f:ByteArray→Int),v15= .int .i64 i∧i≤l.length∧l.length - i≤kq∧n≤1000*i∧Aside0 (mb≠b∧W.heap.size≤mb)∧Aside0 (w'.heap[b]?=some (.cells #[.slice A l.length c, .map (some mb)] 113 (0,0)))∧Aside0 (MapAt w' mb n f)∧Aside0 (Below w.heap.size w w')∧Aside0 (KeptB b W w')∧Aside0 (fillR l=frounds l (l.length - i) f))
  case atStart=>exact ⟨0,W.heap.size,0,fun _=>0,rfl,by omega,by omega,by omega,⟨Nat.ne_of_gt HBL.out,Nat.le_refl _⟩,BK,MP,HB,KP,⟨rfl⟩⟩
  case round=>
    clear BK MP HB KP cb_0;obtain ⟨i,mb,n,f,rfl,hil,hkq,hn,HM,BK,MP,HB,KP,HF⟩:=hrel;by_cases hlt:i<l.length;rotate_left
    · obtain rfl : i = l.length := by omega
      go_wp2
      go_end0
      refine ⟨rfl,mb,n,BK.out, ?_,HB.out,KP.out.1⟩
      rw [HF.out,Nat.sub_self]
      exact MP.out


    have hltz:(i:Int)<(l.length:Int):=by omega
    have cb_0:=zz_ BK 0;go_wp2
    clear cb_0;go_loopg [23] l.length (fun kq v23 w'=> ∃(j n2:Nat) (f2:ByteArray→Int),v23= .int .i64 j∧j≤l.length∧l.length - j≤kq∧n2≤1000*i+j∧Aside0 (w'.heap[b]?=some (.cells #[.slice A l.length c, .map (some mb)] 113 (0,0)))∧Aside0 (MapAt w' mb n2 f2)∧Aside0 (Below w.heap.size w w')∧Aside0 (KeptB b W w')∧Aside0 (fround l f=(l.drop j).foldl fstep f2))
    case atStart=>exact ⟨0,n,f,rfl,by omega,by omega,by omega,BK,MP,HB,KP,⟨rfl⟩⟩
    case round=>
      clear BK MP HB KP;obtain ⟨j,n2,f2,rfl,hjl,hkj,hn2,BK,MP,HB,KP,HG⟩:=hrel;by_cases hjt:j<l.length;rotate_left
      · obtain rfl : j = l.length := by omega
        go_wp2
        go_roundg (l.length - (i+1))
        case measure=>omega
        case rel=>exact ⟨i+1,mb,n2,f2,by first|rfl|go_num,by omega,Nat.le_refl _,by omega,HM,BK,MP,HB,KP,⟨by
          have e:fround l f=f2:=by rw [HG.out,List.drop_length];rfl
          rw [HF.out,show l.length - i=(l.length - (i+1))+1 by omega]
          show frounds l _ (fround l f)=_
          rw [e]⟩⟩
      have hjz:(j:Int)<(l.length:Int):=by omega
      obtain ⟨x,hx⟩: ∃x:Int,x=(j:Int):=⟨_,rfl⟩;have HX0:=am_ (show 0≤x by omega);have HX1:=am_ (show x<(l.length:Int) by omega);have HD:=am_ (fround_drop hjt f2);rw [←hx] at HD;have HXI:=Aside0.mk hx;rw [←hx];have hltx:x<(l.length:Int):=HX1.out;have SM:=am_ (smallW_rd HS.out x);clear hjz hx;have p6:0≤x:=HX0.out;have q6:x<(l.length:Int):=HX1.out;obtain ⟨ad,e6,k0,k1,k2,k3,k4⟩:=at_T39 HR.out x p6 q6;cases e6;have k0:=zx_ HB k0;have k1:=zx_ HB k1;have k2:=zx_ HB k2;have k3:=zx_ HB k3;have k4:=zx_ HB k4;replace p6:=eq_true p6;replace q6:=eq_true q6;by_cases e1:(rd_T39 l x).f1=⟨#[]⟩
      · have hE : (rd_T39 l x).f1.toList.isEmpty = true := by rw [e1, ByteArray.toList_eq]; rfl
        have E1:=Aside0.mk e1
        clear e1
        go_wp2_with (first|((with_reducible refine gate_dst (N:=3) rfl ?_);refine bx_ (N:=3) (cs:=#[.string ⟨#[]⟩, .string ⟨#[]⟩, .int .i64 0, .int .i64 0, .int .i64 0]) (t:=39) ?_;intro gb3 hg w4 hbox hb;have NE:=am_ (show b≠gb3 from by have:=blk_lt BK.out;rw [hg];exact Nat.ne_of_lt this);have NM:=am_ (show mb≠gb3 from by have:=MP.out.lt;rw [hg];exact Nat.ne_of_lt this);have GW:=am_ (show W.heap.size≤gb3 from by rw [hg];exact KP.out.2);have GE3:=am_ (show w.heap.size≤gb3 from by rw [hg];exact below_size HB.out);have n0_:=am_ (blk_below BK.out hb);have n1_:=am_ (MP.out.below hb);have n2_:=am_ (below_step HB.out hb);have n3_:=am_ (keptB_below KP.out hb);have BK3:=Aside0.mk hbox;clear BK MP HB KP hb hbox hg;have BK:=n0_;have MP:=n1_;have HB:=n2_;have KP:=n3_;clear n0_ n1_ n2_ n3_;have c3_0:=zz_ BK3 0;have c3_1:=zz_ BK3 1;have c3_2:=zz_ BK3 2;have c3_3:=zz_ BK3 3;have c3_4:=zz_ BK3 4)|((with_reducible refine gate_store (t:=39) (p:=3) (v:= .tmp 26) rfl ?_);refine store_all BK3.out 39 (.tmp 3) (.tmp 26) rfl rfl rfl (.agg #[.string (rd_T39 l x).f0, .string (rd_T39 l x).f1, .int .i64 (rd_T39 l x).f2.f0, .int .i64 (rd_T39 l x).f2.f1, .int .i64 (rd_T39 l x).f2.f2]) [.string (rd_T39 l x).f0, .string (rd_T39 l x).f1, .int .i64 (rd_T39 l x).f2.f0, .int .i64 (rd_T39 l x).f2.f1, .int .i64 (rd_T39 l x).f2.f2] rfl rfl rfl (by kernel_rfl) rfl (by intro q hq;simp only [List.mem_cons,List.not_mem_nil,or_false] at hq;rcases hq with rfl|rfl|rfl|rfl|rfl<;>rfl) ?_;intro w5 hbk hg;clear c3_0 c3_1 c3_2 c3_3 c3_4;have n0_:=am_ (blk_put_other BK.out hg NE.out);have n1_:=am_ (MP.out.other hg NM.out);have n2_:=am_ (below_put HB.out (below_size HB.out) hg GE3.out);have n3_:=am_ (keptB_put KP.out hg (.inr GW.out));have n4_:=Aside0.mk hbk;clear BK MP HB KP BK3 hbk hg;have BK:=n0_;have MP:=n1_;have HB:=n2_;have KP:=n3_;have BK3:=n4_;clear n0_ n1_ n2_ n3_ n4_;have c3_1:=zz_ BK3 1))
        clear k0 k1 k2 k3 k4 p6 q6
        have n0_:=am_ (blk_drew BK.out)
        have n1_:=am_ (MP.out.kept (w':=w5.drew) rfl)
        have n2_:=am_ (below_drew1 HB.out)
        have n3_:=am_ (keptB_below KP.out (below_drew1 (Below.refl _ _)))
        have n4_:=am_ (blk_drew BK3.out)
        clear BK MP HB KP BK3 c3_1
        have BK:=n0_
        have MP:=n1_
        have HB:=n2_
        have KP:=n3_
        have BK3:=n4_
        clear n0_ n1_ n2_ n3_ n4_
        refine start_ (n:=7) (S:=fun w'=>w'.cell? ⟨b,1,none⟩=some (.map (some mb))∧w'.cell? ⟨gb3,0,none⟩=some (.string (rd_T39 l x).f0)) (ds:=[6]) (bs_ 7 0) (by kernel_rfl) rfl rfl ⟨(blk_cell BK.out 1).trans rfl,(blk_cell BK3.out 0).trans rfl⟩ (fun hHeld=> ?_)
        generalize w5.drew=w9 at BK MP HB KP BK3 hHeld ⊢
        refine pv_ (i:=0) (N:=some 30) (bs_ 7 1) ?_
        refine pv_ (i:=1) (N:=some 31) (bs_ 7 2) ?_
        refine pv_ (i:=2) (N:=some 32) (bs_ 7 3) ?_
        refine tv_ (i:=3) (N:=some 33) (bs_ 7 4) hHeld ?_
        refine pv_ (i:=4) (N:=some 34) (bs_ 7 5) ?_
        refine tv_ (i:=5) (N:=some 35) (bs_ 7 6) hHeld ?_
        refine last_ (i:=6) (N:=none) (bs_ 7 7) rfl rfl (by kernel_rfl) (by decide) (fun K hK=> ?_)
        refine map_step MP.out (by rfl) 111 Try.underlying111 (.tmp 33) (.tmp 35) (.const (.int .i64 1)) rfl rfl _ _ rfl rfl rfl (by unfold maxLen;omega) SM.out.1 (by decide) ?_
        intro w10 hm hg
        have n0_:=am_ (blk_put_other BK.out hg (fun e=>HM.out.1 e.symm))
        have n1_:=Aside0.mk hm
        have n2_:=am_ (below_put HB.out (below_size HB.out) hg (Nat.le_trans (below_size HBW.out) HM.out.2))
        have n3_:=am_ (keptB_put KP.out hg (.inr HM.out.2))
        clear BK MP HB KP BK3 hm hg
        have BK:=n0_
        have MP:=n1_
        have HB:=n2_
        have KP:=n3_
        clear n0_ n1_ n2_ n3_
        refine hK.out _ _ ?_
        clear hK K hHeld
        refine done_ (by kernel_rfl) ?_
        go_wp2
        go_roundg (l.length - (j+1))
        case measure=>omega
        case rel=>exact ⟨j+1,n2+1,_,by rw [HXI.out,wnx (by omega)],by omega,Nat.le_refl _,by omega,BK,MP,HB,KP,⟨by rw [HG.out,HD.out];unfold fstep;rw [if_pos E1.out]⟩⟩
      have hE:(rd_T39 l x).f1.toList.isEmpty=false:=by
        cases q:(rd_T39 l x).f1.toList with
        |nil=>exact absurd (ByteArray.ext (Array.toList_inj.1 (by rw [←ByteArray.toList_eq,q]))) e1
        |cons _ _=>rfl
      have E1:=Aside0.mk e1;clear e1
      go_wp2_with (first|((with_reducible refine gate_dst (N:=3) rfl ?_);refine bx_ (N:=3) (cs:=#[.string ⟨#[]⟩, .string ⟨#[]⟩, .int .i64 0, .int .i64 0, .int .i64 0]) (t:=39) ?_;intro gb3 hg w4 hbox hb;have NE:=am_ (show b≠gb3 from by have:=blk_lt BK.out;rw [hg];exact Nat.ne_of_lt this);have NM:=am_ (show mb≠gb3 from by have:=MP.out.lt;rw [hg];exact Nat.ne_of_lt this);have GW:=am_ (show W.heap.size≤gb3 from by rw [hg];exact KP.out.2);have GE3:=am_ (show w.heap.size≤gb3 from by rw [hg];exact below_size HB.out);have n0_:=am_ (blk_below BK.out hb);have n1_:=am_ (MP.out.below hb);have n2_:=am_ (below_step HB.out hb);have n3_:=am_ (keptB_below KP.out hb);have BK3:=Aside0.mk hbox;clear BK MP HB KP hb hbox hg;have BK:=n0_;have MP:=n1_;have HB:=n2_;have KP:=n3_;clear n0_ n1_ n2_ n3_;have c3_0:=zz_ BK3 0;have c3_1:=zz_ BK3 1;have c3_2:=zz_ BK3 2;have c3_3:=zz_ BK3 3;have c3_4:=zz_ BK3 4)|((with_reducible refine gate_store (t:=39) (p:=3) (v:= .tmp 26) rfl ?_);refine store_all BK3.out 39 (.tmp 3) (.tmp 26) rfl rfl rfl (.agg #[.string (rd_T39 l x).f0, .string (rd_T39 l x).f1, .int .i64 (rd_T39 l x).f2.f0, .int .i64 (rd_T39 l x).f2.f1, .int .i64 (rd_T39 l x).f2.f2]) [.string (rd_T39 l x).f0, .string (rd_T39 l x).f1, .int .i64 (rd_T39 l x).f2.f0, .int .i64 (rd_T39 l x).f2.f1, .int .i64 (rd_T39 l x).f2.f2] rfl rfl rfl (by kernel_rfl) rfl (by intro q hq;simp only [List.mem_cons,List.not_mem_nil,or_false] at hq;rcases hq with rfl|rfl|rfl|rfl|rfl<;>rfl) ?_;intro w5 hbk hg;clear c3_0 c3_1 c3_2 c3_3 c3_4;have n0_:=am_ (blk_put_other BK.out hg NE.out);have n1_:=am_ (MP.out.other hg NM.out);have n2_:=am_ (below_put HB.out (below_size HB.out) hg GE3.out);have n3_:=am_ (keptB_put KP.out hg (.inr GW.out));have n4_:=Aside0.mk hbk;clear BK MP HB KP BK3 hbk hg;have BK:=n0_;have MP:=n1_;have HB:=n2_;have KP:=n3_;have BK3:=n4_;clear n0_ n1_ n2_ n3_ n4_;have c3_1:=zz_ BK3 1))
      clear k0 k1 k2 k3 k4 p6 q6;have cb_1:=zz_ BK 1;have z0:=fun (n_:Nat)=>(show (w5.drewN n_).cell? _=some _ from cb_1)
      have z1:=fun (n_:Nat)=>(show (w5.drewN n_).cell? _=some _ from c3_1)
      have z2:=fun (n_:Nat)=>MP.out.look Try.underlying111 SM.out.2 (w5.drewN n_) rfl
      by_cases e2:0<f2 (rd_T39 l x).f1;rotate_left
      · have E2 := Aside0.mk e2
        go_quiet (fail)
        try go_wp2
        clear z0 z1 z2 cb_1 c3_1
        replace BK:=am_ (blk_drewN BK.out nq)
        replace MP:=am_ (MP.out.kept (w':=w5.drewN nq) rfl)
        replace HB:=am_ (pw_below_drewN HB.out nq)
        replace KP:=am_ (keptB_below KP.out (pw_below_drewN (Below.refl _ _) nq))
        replace BK3:=am_ (blk_drewN BK3.out nq)
        generalize w5.drewN nq=w8 at BK MP HB KP BK3 ⊢
        go_roundg (l.length - (j+1))
        case measure=>omega
        case rel=>exact ⟨j+1,n2,f2,by rw [HXI.out,wnx (by omega)],by omega,Nat.le_refl _,by omega,BK,MP,HB,KP,⟨by rw [HG.out,HD.out];unfold fstep;rw [if_neg E1.out,if_neg (by have:=E2.out;omega)]⟩⟩
      have E2:=Aside0.mk e2;go_quiet (fail)
      try go_wp2
      clear z0 z1 z2 cb_1 c3_1;replace BK:=am_ (blk_drewN BK.out nq);replace MP:=am_ (MP.out.kept (w':=w5.drewN nq) rfl);replace HB:=am_ (pw_below_drewN HB.out nq);replace KP:=am_ (keptB_below KP.out (pw_below_drewN (Below.refl _ _) nq));replace BK3:=am_ (blk_drewN BK3.out nq);generalize w5.drewN nq=w8 at BK MP HB KP BK3 ⊢;replace BK:=am_ (blk_drew BK.out);replace MP:=am_ (MP.out.kept (w':=w8.drew) rfl);replace HB:=am_ (below_drew1 HB.out);replace KP:=am_ (keptB_below KP.out (below_drew1 (Below.refl _ _)));replace BK3:=am_ (blk_drew BK3.out);refine start_ (n:=9) (S:=fun w'=>w'.cell? ⟨b,1,none⟩=some (.map (some mb))∧w'.cell? ⟨gb3,0,none⟩=some (.string (rd_T39 l x).f0)) (ds:=[8]) (bs_ 9 0) (by kernel_rfl) rfl rfl ⟨(blk_cell BK.out 1).trans rfl,(blk_cell BK3.out 0).trans rfl⟩ (fun hHeld=> ?_);generalize w8.drew=w9 at BK MP HB KP BK3 hHeld ⊢;refine pv_ (i:=0) (N:=some 45) (bs_ 9 1) ?_;refine pv_ (i:=1) (N:=some 46) (bs_ 9 2) ?_;refine pv_ (i:=2) (N:=some 47) (bs_ 9 3) ?_;refine tv_ (i:=3) (N:=some 48) (bs_ 9 4) hHeld ?_;refine pv_ (i:=4) (N:=some 49) (bs_ 9 5) ?_;refine tv_ (i:=5) (N:=some 50) (bs_ 9 6) hHeld ?_;refine pv_ (i:=6) (N:=some 51) (bs_ 9 7) ?_;refine pv_ (i:=7) (N:=some 52) (bs_ 9 8) ?_;refine last_ (i:=8) (N:=none) (bs_ 9 9) rfl rfl (by kernel_rfl) (by decide) (fun K hK=> ?_);refine map_step MP.out (by rfl) 111 Try.underlying111 (.tmp 48) (.tmp 50) (.tmp 52) rfl rfl _ _ rfl rfl rfl (by unfold maxLen;omega) SM.out.1 (wf64 _) ?_;intro w10 hm hg
      have n0_:=am_ (blk_put_other BK.out hg (fun e=>HM.out.1 e.symm));have n1_:=Aside0.mk hm;have n2_:=am_ (below_put HB.out (below_size HB.out) hg (Nat.le_trans (below_size HBW.out) HM.out.2));have n3_:=am_ (keptB_put KP.out hg (.inr HM.out.2));clear BK MP HB KP BK3 hm hg;have BK:=n0_;have MP:=n1_;have HB:=n2_;have KP:=n3_;clear n0_ n1_ n2_ n3_;refine hK.out _ _ ?_;clear hK K hHeld;refine done_ (by kernel_rfl) ?_;go_wp2
      go_roundg (l.length - (j+1))
      case measure=>omega
      case rel=>exact ⟨j+1,n2+1,_,by rw [HXI.out,wnx (by omega)],by omega,Nat.le_refl _,by omega,BK,MP,HB,KP,⟨by rw [HG.out,HD.out];unfold fstep;rw [if_neg E1.out,if_pos E2.out]⟩⟩
end Go.Proofs.Ytahidkjncljkaaa.Print
