/- PlanMade: a part -/
import Derived.Shelf.Abstract
import Derived.Laws.Strings
import Derived.Maps.OwnOps
import Derived.Maps.Views
import Derived.Sort.LotA
import Derived.StillTailTactics
import Derived.RangeFuncNested
import Derived.RangeFuncBound
import Derived.RangeFuncCalls
import Derived.RangeFuncLeaves
import Derived.Shelf.RegionOpen
import Derived.WalkKit
import Derived.OwnWalkIn
import Derived.TacticsInMore
import Derived.LoopNIn
import Derived.LoopIn
import Derived.Test.YtahidkjncljkaaaBPlanMade0
import Derived.Test.YtahidkjncljkaaaBPlanMade1
set_option linter.unusedVariables false
set_option linter.unusedSimpArgs false
namespace Go.Proofs.Ytahidkjncljkaaa.Print
open Go.RowKit Go.Proofs.YtahidkjncljkaaaW.PrintWords Go.Proofs.YtahidkjncljkaaaW.PrintLast Go.Proofs.YtahidkjncljkaaaW.PrintMore
attribute [local go_sem] max2_int min2_int max_two min_two max_three min_three max_four min_four

attribute [local go_sem high] eqA37
mutual
def r16_Steps.l0:Nat→List (S39)→List (S84)→List (S79)→List (S39)→Bool→Int→Option ((List (S76))×Int)
 |0,_,_,_,_,_,_=>none
 |k+1,x0,x1,x2,x8,x9,x10=>if x10<(x8.length:Int) then (if 0≤x10 then ((r10_Find.f k x2 ((rd_T39 x8 x10).f0)).bind fun t7=>(if t7≥0 then ((r16_marked.f k x1 ((rd_T39 x8 x10).f0)).bind fun t9=>(if t9<0 then (some (([]:List (S76)),3)) else (if x9=true then (r16_Steps.l0 k x0 x1 x2 x8 true (wrap64 (x10+1))) else (if 0≤t7 then (if t7<(x2.length:Int) then (r16_Steps.l0 k x0 x1 x2 x8 (((rd_T79 x2 t7).f1).toList !=((rd_T39 x8 x10).f1).toList) (wrap64 (x10+1))) else (none)) else (none))))) else (if x9=true then (r16_Steps.l0 k x0 x1 x2 x8 true (wrap64 (x10+1))) else (r16_Steps.l0 k x0 x1 x2 x8 false (wrap64 (x10+1)))))) else (none)) else (r16_Steps.l1 k x0 x1 x2 x8 x9 ([]:List (S76)) 0)
def r16_Steps.l1:Nat→List (S39)→List (S84)→List (S79)→List (S39)→Bool→List (S76)→Int→Option ((List (S76))×Int)
 |0,_,_,_,_,_,_,_=>none
 |k+1,x0,x1,x2,x8,x9,x12,x13=>if x13<(x8.length:Int) then (if 0≤x13 then ((r10_Find.f k x2 ((rd_T39 x8 x13).f0)).bind fun t14=>((r16_up.f k ((rd_T39 x8 x13).f0) ((rd_T39 x8 x13).f1) ((rd_T39 x8 x13).f2.f0) ((rd_T39 x8 x13).f2.f1) ((rd_T39 x8 x13).f2.f2) x2 x9).bind fun bt15=>(if t14<0 then (if x12.length<2199023255552 then (r16_Steps.l1 k x0 x1 x2 x8 x9 (x12++ [(⟨1,(rd_T39 x8 x13).f0,(rd_T39 x8 x13).f1,(⟨bt15.1,bt15.2.1,bt15.2.2⟩:S37)⟩:S76)]) (wrap64 (x13+1))) else (none)) else (if 0≤t14 then (if t14<(x2.length:Int) then (if (!(((rd_T79 x2 t14).f2.f0)==bt15.1)||(!(((rd_T79 x2 t14).f2.f1)==bt15.2.1)||(!(((rd_T79 x2 t14).f2.f2)==bt15.2.2))))=true then (if x12.length<2199023255552 then (r16_Steps.l1 k x0 x1 x2 x8 x9 (x12++ [(⟨2,(rd_T39 x8 x13).f0,(⟨#[]⟩:ByteArray),(⟨bt15.1,bt15.2.1,bt15.2.2⟩:S37)⟩:S76)]) (wrap64 (x13+1))) else (none)) else (r16_Steps.l1 k x0 x1 x2 x8 x9 x12 (wrap64 (x13+1)))) else (none)) else (none))))) else (none)) else (r16_Steps.l2 k x0 x1 x2 x8 x9 x12 0)
def r16_Steps.l2:Nat→List (S39)→List (S84)→List (S79)→List (S39)→Bool→List (S76)→Int→Option ((List (S76))×Int)
 |0,_,_,_,_,_,_,_=>none
 |k+1,x0,x1,x2,x8,x9,x12,x17=>if x17<(x8.length:Int) then (if 0≤x17 then ((r10_Find.f k x2 ((rd_T39 x8 x17).f0)).bind fun t27=>(if t27≥0 then (if 0≤t27 then (if t27<(x2.length:Int) then (if ((rd_T79 x2 t27).f1).toList=((rd_T39 x8 x17).f1).toList then (r16_Steps.l2 k x0 x1 x2 x8 x9 x12 (wrap64 (x17+1))) else (if x12.length<2199023255552 then (r16_Steps.l2 k x0 x1 x2 x8 x9 (x12++ [(⟨3,(rd_T39 x8 x17).f0,(rd_T39 x8 x17).f1,(⟨0,0,0⟩:S37)⟩:S76)]) (wrap64 (x17+1))) else (none))) else (none)) else (none)) else (r16_Steps.l2 k x0 x1 x2 x8 x9 x12 (wrap64 (x17+1))))) else (none)) else (r16_Steps.l3 k x0 x1 x2 x8 x9 x12 (wrap64 ((x8.length:Int) - 1)))
def r16_Steps.l3:Nat→List (S39)→List (S84)→List (S79)→List (S39)→Bool→List (S76)→Int→Option ((List (S76))×Int)
 |0,_,_,_,_,_,_,_=>none
 |k+1,x0,x1,x2,x8,x9,x12,x19=>if x19≥0 then (if 0≤x19 then (if x19<(x8.length:Int) then ((r16_up.f k ((rd_T39 x8 x19).f0) ((rd_T39 x8 x19).f1) ((rd_T39 x8 x19).f2.f0) ((rd_T39 x8 x19).f2.f1) ((rd_T39 x8 x19).f2.f2) x2 x9).bind fun bt36=>(if (!(bt36.1==((rd_T39 x8 x19).f2.f0))||(!(bt36.2.1==((rd_T39 x8 x19).f2.f1))||(!(bt36.2.2==((rd_T39 x8 x19).f2.f2)))))=true then (if x12.length<2199023255552 then (r16_Steps.l3 k x0 x1 x2 x8 x9 (x12++ [(⟨2,(rd_T39 x8 x19).f0,(⟨#[]⟩:ByteArray),(⟨(rd_T39 x8 x19).f2.f0,(rd_T39 x8 x19).f2.f1,(rd_T39 x8 x19).f2.f2⟩:S37)⟩:S76)]) (wrap64 (x19 - 1))) else (none)) else (r16_Steps.l3 k x0 x1 x2 x8 x9 x12 (wrap64 (x19 - 1))))) else (none)) else (none)) else ((r16_goes.f k x0 x1 x2).bind fun t45=>(r16_Steps.l4 k x12 t45 0))
def r16_Steps.l4:Nat→List (S76)→List ByteArray→Int→Option ((List (S76))×Int)
 |0,_,_,_=>none
 |k+1,x12,x20,x21=>if x21<(x20.length:Int) then (if 0≤x21 then (if x12.length<2199023255552 then (r16_Steps.l4 k (x12++ [(⟨4,rdOf ByteArray.empty x20 x21,(⟨#[]⟩:ByteArray),(⟨0,0,0⟩:S37)⟩:S76)]) x20 (wrap64 (x21+1))) else (none)) else (none)) else (some (x12,0))
end
def r16_Steps.f (k:Nat) (l0:List (S39)) (l1:List (S84)) (l2:List (S79)):Option ((List (S76))×Int):=(r10_Check.f k l0).bind fun t2=>(if t2=0 then ((r10_Top.f k l0).bind fun t3=>(r16_Steps.l0 k l0 l1 l2 t3 false 0)) else (some (([]:List (S76)),t2)))
theorem r16_Steps.mono_l: ∀k,(∀y0 y1 y2 y3 y4 y5,LeO (r16_Steps.l0 k y0 y1 y2 y3 y4 y5) (r16_Steps.l0 (k+1) y0 y1 y2 y3 y4 y5))∧(∀y0 y1 y2 y3 y4 y5 y6,LeO (r16_Steps.l1 k y0 y1 y2 y3 y4 y5 y6) (r16_Steps.l1 (k+1) y0 y1 y2 y3 y4 y5 y6))∧(∀y0 y1 y2 y3 y4 y5 y6,LeO (r16_Steps.l2 k y0 y1 y2 y3 y4 y5 y6) (r16_Steps.l2 (k+1) y0 y1 y2 y3 y4 y5 y6))∧(∀y0 y1 y2 y3 y4 y5 y6,LeO (r16_Steps.l3 k y0 y1 y2 y3 y4 y5 y6) (r16_Steps.l3 (k+1) y0 y1 y2 y3 y4 y5 y6))∧(∀y0 y1 y2,LeO (r16_Steps.l4 k y0 y1 y2) (r16_Steps.l4 (k+1) y0 y1 y2))
 |0=>⟨fun _ _ _ _ _ _ r h=>by simp [r16_Steps.l0] at h,fun _ _ _ _ _ _ _ r h=>by simp [r16_Steps.l1] at h,fun _ _ _ _ _ _ _ r h=>by simp [r16_Steps.l2] at h,fun _ _ _ _ _ _ _ r h=>by simp [r16_Steps.l3] at h,fun _ _ _ r h=>by simp [r16_Steps.l4] at h⟩
 |k+1=>by
  obtain ⟨ih0,ih1,ih2,ih3,ih4⟩:=r16_Steps.mono_l k;refine ⟨?_, ?_, ?_, ?_, ?_⟩<;>(intros;first|unfold r16_Steps.l0|unfold r16_Steps.l1|unfold r16_Steps.l2|unfold r16_Steps.l3|unfold r16_Steps.l4)<;>repeat' with_reducible first|apply ih0|apply ih1|apply ih2|apply ih3|apply ih4|apply r10_Check.mono|apply r10_Find.mono|apply r10_Top.mono|apply r16_goes.mono|apply r16_marked.mono|apply r16_up.mono|apply LeO.refl|apply LeO.none|apply LeO.ite|refine LeO.bind ?_ fun _=> ?_
theorem r16_Steps.mono: ∀a0 a1 a2 k,LeO (r16_Steps.f k a0 a1 a2) (r16_Steps.f (k+1) a0 a1 a2):=by
 intro a0 a1 a2 k;obtain ⟨ih0,ih1,ih2,ih3,ih4⟩:=r16_Steps.mono_l k;unfold r16_Steps.f
 repeat' with_reducible first|apply ih0|apply ih1|apply ih2|apply ih3|apply ih4|apply r10_Check.mono|apply r10_Find.mono|apply r10_Top.mono|apply r16_goes.mono|apply r16_marked.mono|apply r16_up.mono|apply LeO.refl|apply LeO.none|apply LeO.ite|refine LeO.bind ?_ fun _=> ?_
def r16_Steps.T12:Bool×List (List Nat×List Nat):=(true,[([],[]),([0],[0]),([1],[1]),([2,1],[1,2]),([3,1,1],[1,3]),([4],[4]),([4],[4]),([5,6,4],[4,5,6]),([7,4],[4,7]),([8,4],[4,8]),([4],[4]),([4],[4]),([10,11,4],[4,10,11]),([12,4],[4,12]),([13,4],[4,13]),([9,14,4],[4,9,14]),([4,15,1],[1,4,15]),([1,16],[1,16]),([17,4,0,1,2,3,4,5,6,7,8,9,10,11,12,13,14,15,16,17],[0,17])])
def r16_Steps.B12:List Nat:=[0,1,3,7,15,31,31,127,255,511,31,31,3103,7199,15391,32767,65535,131071,262143]
theorem r16_Steps.tab12:rtab .any (opsOf Try.f39 12)=r16_Steps.T12:=by kernel_rfl
theorem r16_Steps.bits12:waitsOk r16_Steps.T12.2 r16_Steps.B12=true:=by kernel_rfl
def r16_Steps.T28:Bool×List (List Nat×List Nat):=(true,[([],[]),([0],[0]),([1],[1]),([2],[2]),([2],[2]),([3,4,2],[2,3,4]),([5,2],[2,5]),([6,2],[2,6]),([2],[2]),([2],[2]),([8,9,2],[2,8,9]),([10,2],[2,10]),([11,2],[2,11]),([7,12,2],[2,7,12]),([2,13],[2,13])])
def r16_Steps.B28:List Nat:=[0,1,3,7,7,31,63,127,7,7,775,1799,3847,8191,16383]
theorem r16_Steps.tab28:rtab .any (opsOf Try.f39 28)=r16_Steps.T28:=by kernel_rfl
theorem r16_Steps.bits28:waitsOk r16_Steps.T28.2 r16_Steps.B28=true:=by kernel_rfl
def r16_Steps.T29:Bool×List (List Nat×List Nat):=(true,[([],[]),([],[]),([],[]),([1,2],[1,2]),([3],[3]),([4],[4]),([],[]),([],[]),([6,7],[6,7]),([8],[8]),([9],[9]),([5,10],[5,10]),([11],[11]),([0,12],[0,12]),([13,13,0,1,2,3,4,5,6,7,8,9,10,11,12,13],[0,13])])
def r16_Steps.B29:List Nat:=[0,0,0,6,14,30,0,0,192,448,960,2046,4094,8191,16383]
theorem r16_Steps.tab29:rtab .any (opsOf Try.f39 29)=r16_Steps.T29:=by kernel_rfl
theorem r16_Steps.bits29:waitsOk r16_Steps.T29.2 r16_Steps.B29=true:=by kernel_rfl
def r16_Steps.T33:Bool×List (List Nat×List Nat):=(true,[([],[]),([],[]),([0,1],[0,1]),([2],[2]),([],[]),([],[]),([3,4,5],[3,4,5]),([],[]),([],[]),([7,8],[7,8]),([9],[9]),([10],[10]),([6,11],[6,11])])
def r16_Steps.B33:List Nat:=[0,0,3,7,0,0,63,0,0,384,896,1920,4095]
theorem r16_Steps.tab33:rtab .any (opsOf Try.f39 33)=r16_Steps.T33:=by kernel_rfl
theorem r16_Steps.bits33:waitsOk r16_Steps.T33.2 r16_Steps.B33=true:=by kernel_rfl
def r16_Steps.T34:Bool×List (List Nat×List Nat):=(true,[([],[]),([],[]),([],[]),([1,2],[1,2]),([3],[3]),([4],[4]),([],[]),([],[]),([6,7],[6,7]),([8],[8]),([9],[9]),([5,10],[5,10]),([11],[11]),([0,12],[0,12]),([13,13,0,1,2,3,4,5,6,7,8,9,10,11,12,13],[0,13])])
def r16_Steps.B34:List Nat:=[0,0,0,6,14,30,0,0,192,448,960,2046,4094,8191,16383]
theorem r16_Steps.tab34:rtab .any (opsOf Try.f39 34)=r16_Steps.T34:=by kernel_rfl
theorem r16_Steps.bits34:waitsOk r16_Steps.T34.2 r16_Steps.B34=true:=by kernel_rfl
set_option maxHeartbeats 8000000 in
set_option maxRecDepth 100000 in
theorem r16_Steps.calls (k:Nat) (A0:Option Addr) (c0:Nat) (l0:List (S39)) (A1:Option Addr) (c1:Nat) (l1:List (S84)) (A2:Option Addr) (c2:Nat) (l2:List (S79)) (r1:List (S76)) (r2:Int) (w:World) (hr0:Kd.C k39 w A0 l0.length l0) (hc0:l0.length≤c0) (hr1:Kd.C k84 w A1 l1.length l1) (hc1:l1.length≤c1) (hr2:Kd.C k79 w A2 l2.length l2) (hc2:l2.length≤c2) (h:r16_Steps.f k l0 l1 l2=some (r1,r2)):
  Calls Try.prog 39 #[.slice A0 l0.length c0, .slice A1 l1.length c1, .slice A2 l2.length c2] w fun e w'=> ∃v0_:Value,e= .returned (.agg #[v0_, .int .i64 r2])∧Kd.R k76 76 w' w.heap.size (fun _=>True) v0_ r1∧Below w.heap.size w w':=by
 have hu51:=Try.underlying51;have hu39:=Try.underlying39;have hu37:=Try.underlying37;have hu76:=Try.underlying76;have HR0:=Aside0.mk hr0;have HC0:=Aside0.mk hc0;clear hr0 hc0;have HR1:=Aside0.mk hr1;have HC1:=Aside0.mk hc1;clear hr1 hc1;have HR2:=Aside0.mk hr2;have HC2:=Aside0.mk hc2;clear hr2 hc2;have HB:=am_ (Below.refl w.heap.size w);have H:((r10_Check.f k l0).bind fun t2=>(if t2=0 then ((r10_Top.f k l0).bind fun t3=>(r16_Steps.l0 k l0 l1 l2 t3 false 0)) else (some (([]:List (S76)),t2))))=some (r1,r2):=h;clear h;replace H:=zbd_ H;obtain ⟨t2,A4,H⟩:=H;try dsimp only at H
 by_cases c5:t2=0;rotate_left
 ·rw [if_neg c5] at H;have c5b0:=beq_eq_false_iff_ne.mpr c5;have c5b1:=bne_iff_ne.mpr c5;simp only [Option.some.injEq,Prod.mk.injEq] at H;obtain ⟨rfl,rfl⟩:=H;go_enter Try.func39,Try.ntmps39;go_wp2_with (first|((with_reducible refine gate_dst (N:=6) rfl ?_);refine bx_ (N:=6) (cs:=#[.slice none 0 0, .int .i64 0]) (t:=51) ?_;intro gb1 hg w109 hbox hb;have BK1:=am_ (hbox);have GE1:=am_ ((zg0_ HB hg:w.heap.size≤gb1));replace HB:=am_ (below_step (zl0_ HB) hb);clear hb hbox hg)|((with_reducible refine gate_callee (f:=24) rfl ?_);refine gl_ (some 23) Try.func24 #[.slice A0 l0.length c0] ?_;(with_reducible refine (r10_Check.calls k _ _ l0 t2 _ ?side1 ?side2 A4.out).mono ?_);(case side1=>exact zc_ (Kd.C_below HR0.out HB.out));(case side2=>exact HC0.out);rintro e w110 ⟨rfl,hb⟩;refine ⟨_,rfl, ?_⟩;replace BK1:=bb_ BK1 hb;replace HB:=am_ (below_step (zl1_ HB GE1) hb);(try clear hb);obtain ⟨hcz111_0,hcz111_1⟩:=x2_ BK1;have hfz111_0:=blk_frozen BK1.out 0;have hfz111_1:=blk_frozen BK1.out 1))
  refine bodyPost_ret (results_cell_row rfl _ _ gb1 51 #[.slice none 0 0, .int .i64 t2] (0,0) _ rfl (zw_ BK1) Try.underlying51 rfl (by kernel_rfl)) rfl ?_;exact ⟨_,by first|rfl|(simp [errW_none,errW_some]<;>rfl)|(simp [*,errW_none,errW_some]<;>rfl),by first|exact Kd.R_nil _ _ _ _ _|exact Kd.N_nil _ _ _ _ _|exact Kd.V_nil _ _ _ _ _|exact Kd.Q_nil _ _ _ _ _|exact Kd.S_nil _ _ _ _ _,zl1_ HB GE1⟩

 rw [if_pos c5] at H;have c5b0:=beq_iff_eq.mpr c5;have c5b1:=bne_eq_false_iff_eq.mpr c5;clear c5;replace H:=zbd_ H;obtain ⟨t3,A6,H⟩:=H;try dsimp only at H
 have H':=Aside0.mk H;clear H;go_enter Try.func39,Try.ntmps39;go_wp2_with (first|((with_reducible refine gate_dst (N:=6) rfl ?_);refine bx_ (N:=6) (cs:=#[.slice none 0 0, .int .i64 0]) (t:=51) ?_;intro gb1 hg w7 hbox hb;have BK1:=am_ (hbox);have GE1:=am_ ((zg0_ HB hg:w.heap.size≤gb1));replace HB:=am_ (below_step (zl0_ HB) hb);clear hb hbox hg)|((with_reducible refine gate_callee (f:=24) rfl ?_);refine gl_ (some 23) Try.func24 #[.slice A0 l0.length c0] ?_;(with_reducible refine (r10_Check.calls k _ _ l0 t2 _ ?side1 ?side2 A4.out).mono ?_);(case side1=>exact zc_ (Kd.C_below HR0.out HB.out));(case side2=>exact HC0.out);rintro e w8 ⟨rfl,hb⟩;refine ⟨_,rfl, ?_⟩;replace BK1:=bb_ BK1 hb;replace HB:=am_ (below_step (zl1_ HB GE1) hb);(try clear hb))|((with_reducible refine gate_callee (f:=31) rfl ?_);refine gl_ (some 29) Try.func31 #[.slice A0 l0.length c0] ?_;(with_reducible refine (r10_Top.calls k _ _ l0 t3 _ ?side1 ?side2 A6.out).mono ?_);(case side1=>exact zc_ (Kd.C_below HR0.out HB.out));(case side2=>exact HC0.out);rintro e w9 ⟨v4,rfl,ho0,hb⟩;refine ⟨_,rfl, ?_⟩;have HO5:=am_ (Kd.R_lower ho0 (below_size (zl1_ HB GE1)));replace BK1:=bb_ BK1 hb;replace HB:=am_ (below_step (zl1_ HB GE1) hb);(try clear hb ho0)))
 go_loopg [9,10] k (fun kq v9 v10 w'=> ∃(x9_1:Bool) (x10_1:Int) (x2001_1:Int),v9= .bool x9_1∧v10= .int .i64 x10_1∧Aside0 (r16_Steps.l0 kq l0 l1 l2 t3 x9_1 x10_1=some (r1,r2))∧Aside0 (kq≤k)∧Aside0 (Kd.R k39 39 w' w.heap.size (fun _=>True) v4 t3)∧Aside0 (w'.heap[gb1]?=some (.cells #[(.slice none 0 0), .int .i64 x2001_1] 51 (0,0)))∧Aside0 (Below w.heap.size w w'))
 case atStart=>exact ⟨(false),(0),(0),rf_,rf_,H',⟨Nat.le_refl _⟩,am_ (zr_ HO5),am_ (zb_ BK1),⟨zl1_ HB GE1⟩⟩
 case round=>
  clear H';obtain ⟨x9_1,x10_1,x2001_1,rfl,rfl,HA,HK1,HO_8,BK1,HB⟩:=hrel
  cases gk with
  |zero=>exact absurd HA.out (by simp [r16_Steps.l0])
  |succ k1=>
   have H:=HA.out;clear HA;simp only [r16_Steps.l0] at H;by_cases c10:x10_1<(t3.length:Int)
   ·rw [if_pos c10] at H;have c10b0:=decide_eq_true c10;clear c10;replace H:=zif_ H;obtain ⟨c11,H⟩:=H;have c11b0:=decide_eq_true c11;clear c11;replace H:=zbd_ H;obtain ⟨t7,A12,H⟩:=H;try dsimp only at H
    by_cases c13:t7≥0;rotate_left
    ·rw [if_neg c13] at H;have c13b0:decide (0≤t7)=false:=decide_eq_false c13;clear c13;by_cases c25:x9_1=true
     ·subst c25;rw [if_pos rfl] at H;have H':=Aside0.mk H;clear H;obtain ⟨Ao26,co26,eo26⟩:=Kd.R_slice HO_8.out;subst eo26;obtain ⟨p6,q6,ad6,e6,hx6_0,hx6_1,hx6_2,hx6_3,hx6_4⟩:=zat_ (at_T39 (Kd.R_reads' HO_8.out).2.2 x10_1);cases e6;try go_wp2_with (first|((with_reducible refine gate_callee (f:=52) rfl ?_);refine gl_ (some 42) Try.func52 #[.slice A2 l2.length c2, .string ((rd_T39 t3 x10_1).f0)] ?_;(with_reducible refine (r10_Find.calls k1 _ _ l2 ((rd_T39 t3 x10_1).f0) t7 _ ?side1 ?side2 A12.out).mono ?_);(case side1=>exact zc_ (Kd.C_below HR2.out HB.out));(case side2=>exact HC2.out);rintro e w' ⟨rfl,⟨nd,rfl⟩⟩;refine ⟨_,rfl, ?_⟩))
      (try (rw [drewN_self wr];generalize hq_:World.drewN wr _=wr;replace HO_8:=am_ (Kd.R_at hq_ HO_8.out);replace BK1:=am_ (blk_at hq_ BK1.out);replace HB:=am_ (below_at hq_ HB.out);clear hq_));replace HO_8:=am_ (Kd.R_drew HO_8.out);replace BK1:=am_ (blk_drew BK1.out);replace HB:=am_ (below_drew1 HB.out);refine start_ (n:=19) (S:=fun w'=>True) (ds:=[]) (bs_ 19 0) (by kernel_rfl) rfl rfl trivial (fun hHeld=> ?_);refine with_tabW r16_Steps.tab12 r16_Steps.bits12 (fun HT_ HW_=> ?_);generalize wr.drew=w27 at HO_8 BK1 HB hHeld ⊢;(iterate 19 first|refine qn_ HT_ ?_|refine qu_ HT_ ?_);refine done_ (done_of HT_.out (by kernel_rfl)) ?_;try go_wp2
      go_roundg k1
      case measure=>have:=HK1.out;omega
      case rel=>exact ⟨(true),(wrap64 (x10_1+1)),(x2001_1),rf_,rf_,H',⟨by have:=HK1.out;omega⟩,am_ (zr_ HO_8),am_ (zb_ BK1),⟨zl1_ HB GE1⟩⟩
     replace c25:=Bool.eq_false_iff.mpr c25;subst c25;rw [if_neg (show¬(false=true) by decide)] at H;have H':=Aside0.mk H;clear H;obtain ⟨Ao28,co28,eo28⟩:=Kd.R_slice HO_8.out;subst eo28;obtain ⟨p6,q6,ad6,e6,hx6_0,hx6_1,hx6_2,hx6_3,hx6_4⟩:=zat_ (at_T39 (Kd.R_reads' HO_8.out).2.2 x10_1);cases e6;try go_wp2_with (first|((with_reducible refine gate_callee (f:=52) rfl ?_);refine gl_ (some 42) Try.func52 #[.slice A2 l2.length c2, .string ((rd_T39 t3 x10_1).f0)] ?_;(with_reducible refine (r10_Find.calls k1 _ _ l2 ((rd_T39 t3 x10_1).f0) t7 _ ?side1 ?side2 A12.out).mono ?_);(case side1=>exact zc_ (Kd.C_below HR2.out HB.out));(case side2=>exact HC2.out);rintro e w' ⟨rfl,⟨nd,rfl⟩⟩;refine ⟨_,rfl, ?_⟩))
     (try (rw [drewN_self wr];generalize hq_:World.drewN wr _=wr;replace HO_8:=am_ (Kd.R_at hq_ HO_8.out);replace BK1:=am_ (blk_at hq_ BK1.out);replace HB:=am_ (below_at hq_ HB.out);clear hq_));replace HO_8:=am_ (Kd.R_drew HO_8.out);replace BK1:=am_ (blk_drew BK1.out);replace HB:=am_ (below_drew1 HB.out);refine start_ (n:=19) (S:=fun w'=>True) (ds:=[]) (bs_ 19 0) (by kernel_rfl) rfl rfl trivial (fun hHeld=> ?_);refine with_tabW r16_Steps.tab12 r16_Steps.bits12 (fun HT_ HW_=> ?_);generalize wr.drew=w29 at HO_8 BK1 HB hHeld ⊢;(iterate 19 first|refine qn_ HT_ ?_|refine qu_ HT_ ?_);refine done_ (done_of HT_.out (by kernel_rfl)) ?_;try go_wp2
     go_roundg k1
     case measure=>have:=HK1.out;omega
     case rel=>exact ⟨(false),(wrap64 (x10_1+1)),(x2001_1),rf_,rf_,H',⟨by have:=HK1.out;omega⟩,am_ (zr_ HO_8),am_ (zb_ BK1),⟨zl1_ HB GE1⟩⟩
    rw [if_pos c13] at H;have c13b0:decide (0≤t7)=true:=decide_eq_true c13;clear c13;replace H:=zbd_ H;obtain ⟨t9,A14,H⟩:=H;try dsimp only at H
    by_cases c15:t9<0
    ·rw [if_pos c15] at H;have c15b0:=decide_eq_true c15;clear c15;simp only [Option.some.injEq,Prod.mk.injEq] at H;obtain ⟨rfl,rfl⟩:=H;obtain ⟨Ao16,co16,eo16⟩:=Kd.R_slice HO_8.out;subst eo16;obtain ⟨p6,q6,ad6,e6,hx6_0,hx6_1,hx6_2,hx6_3,hx6_4⟩:=zat_ (at_T39 (Kd.R_reads' HO_8.out).2.2 x10_1);cases e6
     go_wp2_with (first|((with_reducible refine gate_callee (f:=52) rfl ?_);refine gl_ (some 42) Try.func52 #[.slice A2 l2.length c2, .string ((rd_T39 t3 x10_1).f0)] ?_;(with_reducible refine (r10_Find.calls k1 _ _ l2 ((rd_T39 t3 x10_1).f0) t7 _ ?side1 ?side2 A12.out).mono ?_);(case side1=>exact zc_ (Kd.C_below HR2.out HB.out));(case side2=>exact HC2.out);rintro e w' ⟨rfl,⟨nd,rfl⟩⟩;refine ⟨_,rfl, ?_⟩;(try (rw [drewN_self wr];generalize hq_:World.drewN wr _=wr;replace HO_8:=am_ (Kd.R_at hq_ HO_8.out);replace BK1:=am_ (blk_at hq_ BK1.out);replace HB:=am_ (below_at hq_ HB.out);clear hq_));have p8:0≤(x10_1:Int):=of_decide_eq_true zq_;have q8:x10_1<(t3.length:Int):=of_decide_eq_true zq_;obtain ⟨ad8,e8,hx8_0,hx8_1,hx8_2,hx8_3,hx8_4⟩:=at_T39 (Kd.R_reads' HO_8.out).2.2 x10_1 p8 q8;obtain rfl:ad6=ad8:=(by injection e8);replace p8:=eq_true p8;replace q8:=eq_true q8)|(go_at_call 85;(with_reducible refine (r16_marked.calls k1 _ _ l1 ((rd_T39 t3 x10_1).f0) t9 _ ?side1 ?side2 A14.out).mono ?_);(case side1=>exact zc_ (Kd.C_below HR1.out HB.out));(case side2=>exact HC1.out);rintro e w' ⟨rfl,⟨nd,rfl⟩⟩;(try (rw [drewN_self wr];generalize hq_:World.drewN wr _=wr;replace HO_8:=am_ (Kd.R_at hq_ HO_8.out);replace BK1:=am_ (blk_at hq_ BK1.out);replace HB:=am_ (below_at hq_ HB.out);clear hq_));obtain ⟨hcz17_0,hcz17_1⟩:=x2_ BK1;have hfz17_0:=blk_frozen BK1.out 0;have hfz17_1:=blk_frozen BK1.out 1))
     refine bodyPost_ret (results_cell_row rfl _ _ gb1 51 #[.slice none 0 0, .int .i64 3] (0,0) _ rfl (zw_ BK1) Try.underlying51 rfl (by kernel_rfl)) rfl ?_;exact ⟨_,by first|rfl|(simp [errW_none,errW_some]<;>rfl)|(simp [*,errW_none,errW_some]<;>rfl),by first|exact Kd.R_nil _ _ _ _ _|exact Kd.N_nil _ _ _ _ _|exact Kd.V_nil _ _ _ _ _|exact Kd.Q_nil _ _ _ _ _|exact Kd.S_nil _ _ _ _ _,zl1_ HB GE1⟩
    rw [if_neg c15] at H;have c15b0:=decide_eq_false c15;clear c15;by_cases c18:x9_1=true
    ·subst c18;rw [if_pos rfl] at H;have H':=Aside0.mk H;clear H;obtain ⟨Ao19,co19,eo19⟩:=Kd.R_slice HO_8.out;subst eo19;obtain ⟨p6,q6,ad6,e6,hx6_0,hx6_1,hx6_2,hx6_3,hx6_4⟩:=zat_ (at_T39 (Kd.R_reads' HO_8.out).2.2 x10_1);cases e6;try go_wp2_with (first|((with_reducible refine gate_callee (f:=52) rfl ?_);refine gl_ (some 42) Try.func52 #[.slice A2 l2.length c2, .string ((rd_T39 t3 x10_1).f0)] ?_;(with_reducible refine (r10_Find.calls k1 _ _ l2 ((rd_T39 t3 x10_1).f0) t7 _ ?side1 ?side2 A12.out).mono ?_);(case side1=>exact zc_ (Kd.C_below HR2.out HB.out));(case side2=>exact HC2.out);rintro e w' ⟨rfl,⟨nd,rfl⟩⟩;refine ⟨_,rfl, ?_⟩;have p8:0≤(x10_1:Int):=of_decide_eq_true zq_;have q8:x10_1<(t3.length:Int):=of_decide_eq_true zq_;obtain ⟨ad8,e8,hx8_0,hx8_1,hx8_2,hx8_3,hx8_4⟩:=at_T39 (Kd.R_reads' HO_8.out).2.2 x10_1 p8 q8;obtain rfl:ad6=ad8:=(by injection e8);replace p8:=eq_true p8;replace q8:=eq_true q8)|(go_at_call 85;(with_reducible refine (r16_marked.calls k1 _ _ l1 ((rd_T39 t3 x10_1).f0) t9 _ ?side1 ?side2 A14.out).mono ?_);(case side1=>repeat (first|exact (Kd.C_below HR1.out (zl1_ HB GE1))|(with_reducible refine Kd.C_alloc ?_ _)|(with_reducible refine Kd.C_drewN ?_ _)|(with_reducible refine Kd.C_drew ?_)));(case side2=>exact HC1.out);rintro e w' ⟨rfl,⟨nd,rfl⟩⟩))
     (try (rw [drewN_self wr];generalize hq_:World.drewN wr _=wr;replace HO_8:=am_ (Kd.R_at hq_ HO_8.out);replace BK1:=am_ (blk_at hq_ BK1.out);replace HB:=am_ (below_at hq_ HB.out);clear hq_));replace HO_8:=am_ (Kd.R_drew HO_8.out);replace BK1:=am_ (blk_drew BK1.out);replace HB:=am_ (below_drew1 HB.out);refine start_ (n:=19) (S:=fun w'=>True) (ds:=[]) (bs_ 19 0) (by kernel_rfl) rfl rfl trivial (fun hHeld=> ?_);refine with_tabW r16_Steps.tab12 r16_Steps.bits12 (fun HT_ HW_=> ?_);generalize wr.drew=w20 at HO_8 BK1 HB hHeld ⊢;(iterate 19 first|refine qn_ HT_ ?_|refine qu_ HT_ ?_);refine done_ (done_of HT_.out (by kernel_rfl)) ?_;try go_wp2
     go_roundg k1
     case measure=>have:=HK1.out;omega
     case rel=>exact ⟨(true),(wrap64 (x10_1+1)),(x2001_1),rf_,rf_,H',⟨by have:=HK1.out;omega⟩,am_ (zr_ HO_8),am_ (zb_ BK1),⟨zl1_ HB GE1⟩⟩
    replace c18:=Bool.eq_false_iff.mpr c18;subst c18;rw [if_neg (show¬(false=true) by decide)] at H;replace H:=zif_ H;obtain ⟨c21,H⟩:=H;have c21b0:=decide_eq_true c21;clear c21;replace H:=zif_ H;obtain ⟨c22,H⟩:=H;have c22b0:=decide_eq_true c22;clear c22;have H':=Aside0.mk H;clear H;obtain ⟨Ao23,co23,eo23⟩:=Kd.R_slice HO_8.out;subst eo23;obtain ⟨p6,q6,ad6,e6,hx6_0,hx6_1,hx6_2,hx6_3,hx6_4⟩:=zat_ (at_T39 (Kd.R_reads' HO_8.out).2.2 x10_1);cases e6;try go_wp2_with (first|((with_reducible refine gate_callee (f:=52) rfl ?_);refine gl_ (some 42) Try.func52 #[.slice A2 l2.length c2, .string ((rd_T39 t3 x10_1).f0)] ?_;(with_reducible refine (r10_Find.calls k1 _ _ l2 ((rd_T39 t3 x10_1).f0) t7 _ ?side1 ?side2 A12.out).mono ?_);(case side1=>exact zc_ (Kd.C_below HR2.out HB.out));(case side2=>exact HC2.out);rintro e w' ⟨rfl,⟨nd,rfl⟩⟩;refine ⟨_,rfl, ?_⟩;have p8:0≤(x10_1:Int):=of_decide_eq_true zq_;have q8:x10_1<(t3.length:Int):=of_decide_eq_true zq_;obtain ⟨ad8,e8,hx8_0,hx8_1,hx8_2,hx8_3,hx8_4⟩:=at_T39 (Kd.R_reads' HO_8.out).2.2 x10_1 p8 q8;obtain rfl:ad6=ad8:=(by injection e8);replace p8:=eq_true p8;replace q8:=eq_true q8)|(go_at_call 85;(with_reducible refine (r16_marked.calls k1 _ _ l1 ((rd_T39 t3 x10_1).f0) t9 _ ?side1 ?side2 A14.out).mono ?_);(case side1=>repeat (first|exact (Kd.C_below HR1.out (zl1_ HB GE1))|(with_reducible refine Kd.C_alloc ?_ _)|(with_reducible refine Kd.C_drewN ?_ _)|(with_reducible refine Kd.C_drew ?_)));(case side2=>exact HC1.out);rintro e w' ⟨rfl,⟨nd,rfl⟩⟩))
    (try (rw [drewN_self wr];generalize hq_:World.drewN wr _=wr;replace HO_8:=am_ (Kd.R_at hq_ HO_8.out);replace BK1:=am_ (blk_at hq_ BK1.out);replace HB:=am_ (below_at hq_ HB.out);clear hq_));replace HO_8:=am_ (Kd.R_drew HO_8.out);replace BK1:=am_ (blk_drew BK1.out);replace HB:=am_ (below_drew1 HB.out);have p10:0≤(t7:Int):=of_decide_eq_true zq_;have q10:t7<(l2.length:Int):=of_decide_eq_true zq_;obtain ⟨ad10,e10,hx10_0,hx10_1,hx10_2,hx10_3,hx10_4,hx10_5,hx10_6,hx10_7,hx10_8,hx10_9,hx10_10,hx10_11⟩:=at_T79 HR2.out t7 p10 q10;have hw10_1:=hx10_1;cases e10;replace hx10_0:=zx12_ HB hx10_0 hx10_1 hx10_2 hx10_3 hx10_4 hx10_5 hx10_6 hx10_7 hx10_8 hx10_9 hx10_10 hx10_11;clear hx10_1 hx10_2 hx10_3 hx10_4 hx10_5 hx10_6 hx10_7 hx10_8 hx10_9 hx10_10 hx10_11;obtain ⟨hx10_0,hx10_1,hx10_2,hx10_3,hx10_4,hx10_5,hx10_6,hx10_7,hx10_8,hx10_9,hx10_10,hx10_11⟩:=hx10_0;replace p10:=eq_true p10;replace q10:=eq_true q10;obtain ⟨p11,q11,ad11,e11,hx11_0,hx11_1,hx11_2,hx11_3,hx11_4⟩:=zat_ (at_T39 (Kd.R_reads' HO_8.out).2.2 x10_1);obtain rfl:ad6=ad11:=(by injection e11);refine start_ (n:=19) (S:=fun w'=>w'.cell? ⟨(ad10.add ((t7).toNat*12)).block,(ad10.add ((t7).toNat*12)).off+1,none⟩=some (.string ((rd_T79 l2 t7).f1))∧w'.cell? ⟨(ad6.add ((x10_1).toNat*5)).block,(ad6.add ((x10_1).toNat*5)).off+1,none⟩=some (.string ((rd_T39 t3 x10_1).f1))) (ds:=[]) (bt_ 19 0) (by kernel_rfl) rfl rfl ⟨(zx_ HB hw10_1:),hx11_1⟩ (fun hHeld=> ?_);refine with_tabW r16_Steps.tab12 r16_Steps.bits12 (fun HT_ HW_=> ?_)
    generalize wr.drew=w24 at HO_8 BK1 HB hx10_0 hx10_1 hx10_10 hx10_11 hx10_2 hx10_3 hx10_4 hx10_5 hx10_6 hx10_7 hx10_8 hx10_9 hx11_0 hx11_1 hx11_2 hx11_3 hx11_4 hHeld ⊢;refine ru_ 0 HT_ ?_;refine ru_ 1 HT_ ?_;refine ru_ 2 HT_ ?_;refine ru_ 3 HT_ ?_;refine ru_ 4 HT_ ?_;refine ru_ 5 HT_ ?_;refine ru_ 6 HT_ ?_;refine ru_ 7 HT_ ?_;refine ru_ 8 HT_ ?_;refine ru_ 10 HT_ ?_;refine ru_ 11 HT_ ?_;refine ru_ 12 HT_ ?_;refine ru_ 13 HT_ ?_;refine rk_ 9 HT_ HW_ hHeld ?_;refine rk_ 14 HT_ HW_ hHeld ?_;refine ru_ 15 HT_ ?_;refine ru_ 16 HT_ ?_;refine ru_ 17 HT_ ?_;refine ru_ 18 HT_ ?_;refine done_ (done_of HT_.out (by kernel_rfl)) ?_;try go_wp2
    go_roundg k1
    case measure=>have:=HK1.out;omega
    case rel=>exact ⟨((((rd_T79 l2 t7).f1).toList !=((rd_T39 t3 x10_1).f1).toList)),(wrap64 (x10_1+1)),(x2001_1),rf_,rf_,H',⟨by have:=HK1.out;omega⟩,am_ (zr_ HO_8),am_ (zb_ BK1),⟨zl1_ HB GE1⟩⟩
   rw [if_neg c10] at H;have c10b0:=decide_eq_false c10;clear c10;have H':=Aside0.mk H;clear H;obtain ⟨Ao30,co30,eo30⟩:=Kd.R_slice HO_8.out;subst eo30;go_wp2
   go_loopg [12,13] k1 (fun kq v12 v13 w'=> ∃(x12_2:List (S76)) (x13_2:Int),v13= .int .i64 x13_2∧Aside0 (r16_Steps.l1 kq l0 l1 l2 t3 x9_1 x12_2 x13_2=some (r1,r2))∧Aside0 (kq≤k1)∧Aside0 (Kd.R k39 39 w' w.heap.size (fun _=>True) (.slice Ao30 t3.length co30) t3)∧Aside0 (Kd.R k76 76 w' w.heap.size (fun _=>True) v12 x12_2)∧Aside0 (w'.heap[gb1]?=some (.cells #[(.slice none 0 0), .int .i64 x2001_1] 51 (0,0)))∧Aside0 (Below w.heap.size w w'))
   case atStart=>exact ⟨(([]:List (S76))),(0),rf_,H',⟨Nat.le_refl _⟩,am_ (zr_ HO_8),⟨by first|exact Kd.R_nil _ _ _ _ _|exact Kd.N_nil _ _ _ _ _|exact Kd.V_nil _ _ _ _ _|exact Kd.Q_nil _ _ _ _ _|exact Kd.S_nil _ _ _ _ _⟩,am_ (zb_ BK1),⟨zl1_ HB GE1⟩⟩
   case round=>
    clear H';obtain ⟨x12_2,x13_2,rfl,HA,HK2,HO_8,HO_12,BK1,HB⟩:=hrel
    cases gk with
    |zero=>exact absurd HA.out (by simp [r16_Steps.l1])
    |succ k2=>
     have H:=HA.out;clear HA;simp only [r16_Steps.l1] at H;by_cases c31:x13_2<(t3.length:Int)
     ·rw [if_pos c31] at H;have c31b0:=decide_eq_true c31;clear c31;replace H:=zif_ H;obtain ⟨c32,H⟩:=H;have c32b0:=decide_eq_true c32;clear c32;replace H:=zbd_ H;obtain ⟨t14,A33,H⟩:=H;try dsimp only at H
      replace H:=zbd_ H;obtain ⟨⟨t15,t16,t17⟩,A34,H⟩:=H;try dsimp only at H
      by_cases c35:t14<0
      ·rw [if_pos c35] at H;have c35b0:=decide_eq_true c35;clear c35;replace H:=zif_ H;obtain ⟨c36,H⟩:=H;have LMc36:=Aside0.mk c36;clear c36;obtain ⟨y19,hy19⟩: ∃y_:List (S76),y_=(x12_2++ [(⟨1,(rd_T39 t3 x13_2).f0,(rd_T39 t3 x13_2).f1,(⟨t15,t16,t17⟩:S37)⟩:S76)]):=⟨_,rfl⟩;(first|replace H:=zsb_ hy19 H|rw [←hy19] at H);have Ny19:=Aside0.mk hy19;clear hy19;have H':=Aside0.mk H;clear H;obtain ⟨p12,q12,ad12,e12,hx12_0,hx12_1,hx12_2,hx12_3,hx12_4⟩:=zat_ (at_T39 (Kd.R_reads' HO_8.out).2.2 x13_2);cases e12
       go_wp2_with (first|((with_reducible refine gate_dst (N:=14) rfl ?_);refine bx_ (N:=14) (cs:=#[.string (⟨#[]⟩:ByteArray), .string (⟨#[]⟩:ByteArray), .int .i64 0, .int .i64 0, .int .i64 0]) (t:=39) ?_;intro gb13 hg w37 hbox hb;replace HO_8:=am_ (Kd.R_below (Kd.R_elderB (zr_ HO_8) gb13 (Nat.le_of_eq hg.symm)) hb);replace HO_12:=ob_ HO_12 hb;have BK13:=am_ (hbox);have GE13:=am_ ((zg1_ HB GE1 hg:w.heap.size≤gb13));replace HB:=am_ (below_step (zl1_ HB GE1) hb);have NB1_13:=am_ ((zn_ BK1 hg:gb1≠gb13));have NB13_1:=am_ ((zm_ BK1 hg:gb13≠gb1));replace BK1:=bb_ BK1 hb;clear hb hbox hg;have hnb38:=NB13_1.out;have hnc38:=NB1_13.out;obtain ⟨hcz39_0,hcz39_1,hcz39_2,hcz39_3,hcz39_4⟩:=x5_ BK13;have hfz39_0:=blk_frozen BK13.out 0;have hfz39_1:=blk_frozen BK13.out 1;have hfz39_2:=blk_frozen BK13.out 2;have hfz39_3:=blk_frozen BK13.out 3;have hfz39_4:=blk_frozen BK13.out 4)|((with_reducible refine gate_callee (f:=52) rfl ?_);refine gl_ (some 87) Try.func52 #[.slice A2 l2.length c2, .string ((rd_T39 t3 x13_2).f0)] ?_;(with_reducible refine (r10_Find.calls k2 _ _ l2 ((rd_T39 t3 x13_2).f0) t14 _ ?side1 ?side2 A33.out).mono ?_);(case side1=>exact Kd.C_below HR2.out (zl2_ HB GE1 GE13));(case side2=>exact HC2.out);rintro e w' ⟨rfl,⟨nd,rfl⟩⟩;refine ⟨_,rfl, ?_⟩)|((with_reducible refine gate_callee (f:=86) rfl ?_);refine gl_ (some 91) Try.func86 #[.agg #[.string ((rd_T39 t3 x13_2).f0), .string ((rd_T39 t3 x13_2).f1), .int .i64 ((rd_T39 t3 x13_2).f2.f0), .int .i64 ((rd_T39 t3 x13_2).f2.f1), .int .i64 ((rd_T39 t3 x13_2).f2.f2)], .slice A2 l2.length c2, .bool x9_1] ?_;(with_reducible refine (r16_up.calls k2 ((rd_T39 t3 x13_2).f0) ((rd_T39 t3 x13_2).f1) ((rd_T39 t3 x13_2).f2.f0) ((rd_T39 t3 x13_2).f2.f1) ((rd_T39 t3 x13_2).f2.f2) _ _ l2 x9_1 t15 t16 t17 _ ?side1 ?side2 A34.out).mono ?_);(case side1=>exact Kd.C_below HR2.out (zl2_ HB GE1 GE13));(case side2=>exact HC2.out);rintro e w40 ⟨rfl,hb⟩;refine ⟨_,rfl, ?_⟩;replace HO_8:=am_ (Kd.R_below (by refine zt_ ?_;exact (zu2_ gb13 HO_8)) hb);replace HO_12:=am_ (Kd.R_below (by refine zt_ ?_;exact (zv2_ HO_12 BK13)) hb);replace BK1:=am_ (blk_below (g:=gb1) (o:= .cells #[.slice none 0 0, .int .i64 x2001_1] 51 (0,0)) (zw_ BK1) hb);replace BK13:=am_ (blk_below (g:=gb13) (o:= .cells #[.string ((rd_T39 t3 x13_2).f0), .string ((rd_T39 t3 x13_2).f1), .int .i64 ((rd_T39 t3 x13_2).f2.f0), .int .i64 ((rd_T39 t3 x13_2).f2.f1), .int .i64 ((rd_T39 t3 x13_2).f2.f2)] 39 (0,0)) (zw_ BK13) hb);replace HB:=am_ (below_step (zl2_ HB GE1 GE13) hb);(try clear hb))|((with_reducible refine gate_dst (N:=16) rfl ?_);refine bx_ (N:=16) (cs:=#[.int .i64 0, .int .i64 0, .int .i64 0]) (t:=37) ?_;intro gb18 hg w41 hbox hb;replace HO_8:=ob_ HO_8 hb;replace HO_12:=ob_ HO_12 hb;have BK18:=am_ (hbox);have GE18:=am_ ((zg2_ HB GE1 GE13 hg:w.heap.size≤gb18));replace HB:=am_ (below_step (zl2_ HB GE1 GE13) hb);have NB1_18:=am_ ((zn_ BK1 hg:gb1≠gb18));have NB18_1:=am_ ((zm_ BK1 hg:gb18≠gb1));replace BK1:=bb_ BK1 hb;have NB13_18:=am_ ((zn_ BK13 hg:gb13≠gb18));have NB18_13:=am_ ((zm_ BK13 hg:gb18≠gb13));replace BK13:=bb_ BK13 hb;clear hb hbox hg;have hnb42:=NB18_1.out;have hnc42:=NB1_18.out;have hnb43:=NB18_13.out;have hnc43:=NB13_18.out;obtain ⟨hcz44_0,hcz44_1,hcz44_2,hfz44_0,hfz44_1,hfz44_2⟩:=y3_ BK18;obtain ⟨hcz45_0,hcz45_1,hcz45_2,hcz45_3,hcz45_4⟩:=x5_ BK13;have hfz45_0:=blk_frozen BK13.out 0;have hfz45_1:=blk_frozen BK13.out 1;have hfz45_2:=blk_frozen BK13.out 2;have hfz45_3:=blk_frozen BK13.out 3;have hfz45_4:=blk_frozen BK13.out 4)|((with_reducible refine gate_builtin (b:= .append) (xs:=#[.tmp 94, .tmp 101]) rfl ?_);at_builtin;refine Kd.R_append k76 (w0:=w) w.heap.size rfl (.tmp 94) (.tmp 101) 49 76 (.agg #[(.int .i64 0),(.string ⟨#[]⟩),(.string ⟨#[]⟩),(.int .i64 0),(.int .i64 0),(.int .i64 0)]) 64 rfl Try.underlying49 info76 rfl (by decide) (by omega) u12 x12_2 (⟨1,(rd_T39 t3 x13_2).f0,(rd_T39 t3 x13_2).f1,(⟨t15,t16,t17⟩:S37)⟩:S76) [.int .i64 1, .string ((rd_T39 t3 x13_2).f0), .string ((rd_T39 t3 x13_2).f1), .int .i64 t15, .int .i64 t16, .int .i64 t17] (fun _=>True) (fun _=>False) rfl (by first|(go_simp;done)|(go_simp;rfl)) ?aP (fun _ hk=>hk.elim) ?aF ?aO ?aB ?aS ?aL ?_;(case aP=>exact k76_mkM _ _ _ (⟨1,(rd_T39 t3 x13_2).f0,(rd_T39 t3 x13_2).f1,(⟨t15,t16,t17⟩:S37)⟩:S76));(case aB=>exact (zl3_ HB GE1 GE13 GE18));(case aF=>exact (fun _ _=>trivial));(case aO=>exact (by refine zt_ ?_;exact zy_ HO_12 BK18));(case aS=>exact (below_size (zl3_ HB GE1 GE13 GE18)));(case aL=>have:=LMc36.out;omega);intro v20 w46 ho hb hg hat;rw [←Ny19.out] at ho;have n0_:=am_ (Kd.R_over' (by refine zt_ ?_;exact (zv2_ HO_8 BK18)) (Kd.R_typed (by refine zt_ ?_;exact (zv2_ HO_12 BK18))) (by decide) hg);have n1_:=am_ (blk_grown (g:=gb1) (o:= .cells #[.slice none 0 0, .int .i64 x2001_1] 51 (0,0)) (zw_ BK1) hg (Kd.R_ne HO_12.out BK1.out (by decide)));have n2_:=am_ (blk_grown (g:=gb13) (o:= .cells #[.string ((rd_T39 t3 x13_2).f0), .string ((rd_T39 t3 x13_2).f1), .int .i64 ((rd_T39 t3 x13_2).f2.f0), .int .i64 ((rd_T39 t3 x13_2).f2.f1), .int .i64 ((rd_T39 t3 x13_2).f2.f2)] 39 (0,0)) (zw_ BK13) hg (Kd.R_ne HO_12.out BK13.out (by decide)));have n3_:=am_ (blk_grown (g:=gb18) (o:= .cells #[.int .i64 t15, .int .i64 t16, .int .i64 t17] 37 (0,0)) (zw_ BK18) hg (Kd.R_ne HO_12.out BK18.out (by decide)));have n4_:=am_ (hb);have n5_:=am_ (ho);clear HO_8;clear BK1;clear BK13;clear BK18;clear HB;clear HO_12;have HO_8:=n0_;have BK1:=n1_;have BK13:=n2_;have BK18:=n3_;have HB:=n4_;have HO21:=n5_;clear n0_ n1_ n2_ n3_ n4_ n5_;clear ho hb hg hat))
       go_roundg k2
       case measure=>have:=HK1.out;have:=HK2.out;omega
       case rel=>exact ⟨(y19),(wrap64 (x13_2+1)),rf_,H',⟨by have:=HK1.out;have:=HK2.out;omega⟩,⟨by (with_reducible repeat (first|apply Kd.R_alloc|apply Kd.R_drewN|apply Kd.R_drew));exact Kd.R_mono HO_8.out (fun _ hk=>trivial)⟩,am_ (zr_ HO21),am_ (zb_ BK1),⟨zl3_ HB GE1 GE13 GE18⟩⟩
      rw [if_neg c35] at H;have c35b0:=decide_eq_false c35;clear c35;replace H:=zif_ H;obtain ⟨c47,H⟩:=H;have c47b0:=decide_eq_true c47;clear c47;replace H:=zif_ H;obtain ⟨c48,H⟩:=H;have c48b0:=decide_eq_true c48;clear c48;by_cases c49:(!(((rd_T79 l2 t14).f2.f0)==t15)||(!(((rd_T79 l2 t14).f2.f1)==t16)||(!(((rd_T79 l2 t14).f2.f2)==t17))))=true;rotate_left
      ·rw [if_neg c49] at H;have c49b0:(!(((rd_T79 l2 t14).f2.f0)==t15)||(!(((rd_T79 l2 t14).f2.f1)==t16)||(!(((rd_T79 l2 t14).f2.f2)==t17))))=false:=by simpa using c49
       clear c49;have H':=Aside0.mk H;clear H;obtain ⟨p12,q12,ad12,e12,hx12_0,hx12_1,hx12_2,hx12_3,hx12_4⟩:=zat_ (at_T39 (Kd.R_reads' HO_8.out).2.2 x13_2);cases e12
       try go_wp2_with (first|((with_reducible refine gate_dst (N:=14) rfl ?_);refine bx_ (N:=14) (cs:=#[.string (⟨#[]⟩:ByteArray), .string (⟨#[]⟩:ByteArray), .int .i64 0, .int .i64 0, .int .i64 0]) (t:=39) ?_;intro gb13 hg w64 hbox hb;replace HO_8:=am_ (Kd.R_below (Kd.R_elderB (zr_ HO_8) gb13 (Nat.le_of_eq hg.symm)) hb);replace HO_12:=ob_ HO_12 hb;have BK13:=am_ (hbox);have GE13:=am_ ((zg1_ HB GE1 hg:w.heap.size≤gb13));replace HB:=am_ (below_step (zl1_ HB GE1) hb);have NB1_13:=am_ ((zn_ BK1 hg:gb1≠gb13));have NB13_1:=am_ ((zm_ BK1 hg:gb13≠gb1));replace BK1:=bb_ BK1 hb;clear hb hbox hg;have hnb65:=NB13_1.out;have hnc65:=NB1_13.out;obtain ⟨hcz66_0,hcz66_1,hcz66_2,hcz66_3,hcz66_4⟩:=x5_ BK13;have hfz66_0:=blk_frozen BK13.out 0;have hfz66_1:=blk_frozen BK13.out 1;have hfz66_2:=blk_frozen BK13.out 2;have hfz66_3:=blk_frozen BK13.out 3;have hfz66_4:=blk_frozen BK13.out 4)|((with_reducible refine gate_callee (f:=52) rfl ?_);refine gl_ (some 87) Try.func52 #[.slice A2 l2.length c2, .string ((rd_T39 t3 x13_2).f0)] ?_;(with_reducible refine (r10_Find.calls k2 _ _ l2 ((rd_T39 t3 x13_2).f0) t14 _ ?side1 ?side2 A33.out).mono ?_);(case side1=>exact Kd.C_below HR2.out (zl2_ HB GE1 GE13));(case side2=>exact HC2.out);rintro e w' ⟨rfl,⟨nd,rfl⟩⟩;refine ⟨_,rfl, ?_⟩)|((with_reducible refine gate_callee (f:=86) rfl ?_);refine gl_ (some 91) Try.func86 #[.agg #[.string ((rd_T39 t3 x13_2).f0), .string ((rd_T39 t3 x13_2).f1), .int .i64 ((rd_T39 t3 x13_2).f2.f0), .int .i64 ((rd_T39 t3 x13_2).f2.f1), .int .i64 ((rd_T39 t3 x13_2).f2.f2)], .slice A2 l2.length c2, .bool x9_1] ?_;(with_reducible refine (r16_up.calls k2 ((rd_T39 t3 x13_2).f0) ((rd_T39 t3 x13_2).f1) ((rd_T39 t3 x13_2).f2.f0) ((rd_T39 t3 x13_2).f2.f1) ((rd_T39 t3 x13_2).f2.f2) _ _ l2 x9_1 t15 t16 t17 _ ?side1 ?side2 A34.out).mono ?_);(case side1=>exact Kd.C_below HR2.out (zl2_ HB GE1 GE13));(case side2=>exact HC2.out);rintro e w67 ⟨rfl,hb⟩;refine ⟨_,rfl, ?_⟩;replace HO_8:=am_ (Kd.R_below (by refine zt_ ?_;exact (zu2_ gb13 HO_8)) hb);replace HO_12:=am_ (Kd.R_below (by refine zt_ ?_;exact (zv2_ HO_12 BK13)) hb);replace BK1:=am_ (blk_below (g:=gb1) (o:= .cells #[.slice none 0 0, .int .i64 x2001_1] 51 (0,0)) (zw_ BK1) hb);replace BK13:=am_ (blk_below (g:=gb13) (o:= .cells #[.string ((rd_T39 t3 x13_2).f0), .string ((rd_T39 t3 x13_2).f1), .int .i64 ((rd_T39 t3 x13_2).f2.f0), .int .i64 ((rd_T39 t3 x13_2).f2.f1), .int .i64 ((rd_T39 t3 x13_2).f2.f2)] 39 (0,0)) (zw_ BK13) hb);replace HB:=am_ (below_step (zl2_ HB GE1 GE13) hb);(try clear hb))|((with_reducible refine gate_dst (N:=16) rfl ?_);refine bx_ (N:=16) (cs:=#[.int .i64 0, .int .i64 0, .int .i64 0]) (t:=37) ?_;intro gb18 hg w68 hbox hb;replace HO_8:=ob_ HO_8 hb;replace HO_12:=ob_ HO_12 hb;have BK18:=am_ (hbox);have GE18:=am_ ((zg2_ HB GE1 GE13 hg:w.heap.size≤gb18));replace HB:=am_ (below_step (zl2_ HB GE1 GE13) hb);have NB1_18:=am_ ((zn_ BK1 hg:gb1≠gb18));have NB18_1:=am_ ((zm_ BK1 hg:gb18≠gb1));replace BK1:=bb_ BK1 hb;have NB13_18:=am_ ((zn_ BK13 hg:gb13≠gb18));have NB18_13:=am_ ((zm_ BK13 hg:gb18≠gb13));replace BK13:=bb_ BK13 hb;clear hb hbox hg;have hnb69:=NB18_1.out;have hnc69:=NB1_18.out;have hnb70:=NB18_13.out;have hnc70:=NB13_18.out;obtain ⟨hcz71_0,hcz71_1,hcz71_2⟩:=x3_ BK18;have hfz71_0:=blk_frozen BK18.out 0;have hfz71_1:=blk_frozen BK18.out 1;have hfz71_2:=blk_frozen BK18.out 2))
       have n0_:Aside0 (Kd.R k39 39 (((w68.setCell ⟨gb18,0,none⟩ (.int .i64 t15)).setCell ⟨gb18,1,none⟩ (.int .i64 t16)).setCell ⟨gb18,2,none⟩ (.int .i64 t17)) w.heap.size (fun k_=>k_≠gb13) (.slice (some ad12) t3.length co30) t3):=⟨by (with_reducible repeat (first|apply Kd.R_alloc|apply Kd.R_drewN|apply Kd.R_drew));exact Kd.R_mono (Kd.R_far (p:=⟨gb18,2,none⟩) (Kd.R_far (p:=⟨gb18,1,none⟩) (Kd.R_far (p:=⟨gb18,0,none⟩) (Kd.R_types HO_8.out BK18.out (by decide)) (fun _ hk=>hk.2) (.int .i64 t15)) (fun _ hk=>hk.2) (.int .i64 t16)) (fun _ hk=>hk.2) (.int .i64 t17)) (fun _ hk=>hk.1.2)⟩;have n1_:Aside0 (Kd.R k76 76 (((w68.setCell ⟨gb18,0,none⟩ (.int .i64 t15)).setCell ⟨gb18,1,none⟩ (.int .i64 t16)).setCell ⟨gb18,2,none⟩ (.int .i64 t17)) w.heap.size (fun _=>True) u12 x12_2):=⟨zy_ HO_12 BK18⟩;have n2_:Aside0 ((((w68.setCell ⟨gb18,0,none⟩ (.int .i64 t15)).setCell ⟨gb18,1,none⟩ (.int .i64 t16)).setCell ⟨gb18,2,none⟩ (.int .i64 t17)).heap[gb1]?=some (.cells #[.slice none 0 0, .int .i64 x2001_1] 51 (0,0))):=⟨zw_ BK1⟩;have n3_:Aside0 ((((w68.setCell ⟨gb18,0,none⟩ (.int .i64 t15)).setCell ⟨gb18,1,none⟩ (.int .i64 t16)).setCell ⟨gb18,2,none⟩ (.int .i64 t17)).heap[gb13]?=some (.cells #[.string ((rd_T39 t3 x13_2).f0), .string ((rd_T39 t3 x13_2).f1), .int .i64 ((rd_T39 t3 x13_2).f2.f0), .int .i64 ((rd_T39 t3 x13_2).f2.f1), .int .i64 ((rd_T39 t3 x13_2).f2.f2)] 39 (0,0))):=⟨zw_ BK13⟩
       have n4_:Aside0 ((((w68.setCell ⟨gb18,0,none⟩ (.int .i64 t15)).setCell ⟨gb18,1,none⟩ (.int .i64 t16)).setCell ⟨gb18,2,none⟩ (.int .i64 t17)).heap[gb18]?=some (.cells #[.int .i64 t15, .int .i64 t16, .int .i64 t17] 37 (0,0))):=⟨zw_ BK18⟩;have n5_:Aside0 (Below w.heap.size w (((w68.setCell ⟨gb18,0,none⟩ (.int .i64 t15)).setCell ⟨gb18,1,none⟩ (.int .i64 t16)).setCell ⟨gb18,2,none⟩ (.int .i64 t17))):=⟨zl3_ HB GE1 GE13 GE18⟩;generalize (((w68.setCell ⟨gb18,0,none⟩ (.int .i64 t15)).setCell ⟨gb18,1,none⟩ (.int .i64 t16)).setCell ⟨gb18,2,none⟩ (.int .i64 t17))=w72 at n0_ n1_ n2_ n3_ n4_ n5_ ⊢;have HO_8:=n0_;have HO_12:=n1_;have BK1:=n2_;have BK13:=n3_;have BK18:=n4_;have HB:=n5_;clear n0_ n1_ n2_ n3_ n4_ n5_;replace HO_8:=am_ (Kd.R_drew HO_8.out);replace HO_12:=am_ (Kd.R_drew HO_12.out);replace BK1:=am_ (blk_drew BK1.out);replace BK13:=am_ (blk_drew BK13.out);replace BK18:=am_ (blk_drew BK18.out);replace HB:=am_ (below_drew1 HB.out);have p22:0≤(t14:Int):=of_decide_eq_true zq_;have q22:t14<(l2.length:Int):=of_decide_eq_true zq_;obtain ⟨ad22,e22,hx22_0,hx22_1,hx22_2,hx22_3,hx22_4,hx22_5,hx22_6,hx22_7,hx22_8,hx22_9,hx22_10,hx22_11⟩:=at_T79 HR2.out t14 p22 q22;have hw22_11:=hx22_11;have hw22_10:=hx22_10;have hw22_9:=hx22_9;have hw22_8:=hx22_8;have hw22_7:=hx22_7;have hw22_6:=hx22_6;have hw22_5:=hx22_5;have hw22_4:=hx22_4;have hw22_3:=hx22_3;have hw22_2:=hx22_2;have hw22_1:=hx22_1;have hw22_0:=hx22_0;cases e22
       replace hx22_0:=zx12_ HB hx22_0 hx22_1 hx22_2 hx22_3 hx22_4 hx22_5 hx22_6 hx22_7 hx22_8 hx22_9 hx22_10 hx22_11;clear hx22_1 hx22_2 hx22_3 hx22_4 hx22_5 hx22_6 hx22_7 hx22_8 hx22_9 hx22_10 hx22_11;obtain ⟨hx22_0,hx22_1,hx22_2,hx22_3,hx22_4,hx22_5,hx22_6,hx22_7,hx22_8,hx22_9,hx22_10,hx22_11⟩:=hx22_0;replace p22:=eq_true p22;replace q22:=eq_true q22
       refine start_ (n:=7) (S:=fun w'=>w'.cell? ⟨gb18,0,none⟩=some (.int .i64 t15)∧w'.cell? ⟨gb18,1,none⟩=some (.int .i64 t16)∧w'.cell? ⟨gb18,2,none⟩=some (.int .i64 t17)∧w'.cell? (ad22.add ((t14).toNat*12))=some (.string ((rd_T79 l2 t14).f0))∧w'.cell? ⟨(ad22.add ((t14).toNat*12)).block,(ad22.add ((t14).toNat*12)).off+1,none⟩=some (.string ((rd_T79 l2 t14).f1))∧w'.cell? ⟨(ad22.add ((t14).toNat*12)).block,(ad22.add ((t14).toNat*12)).off+2,none⟩=some (.int .i64 ((rd_T79 l2 t14).f2.f0))∧w'.cell? ⟨(ad22.add ((t14).toNat*12)).block,(ad22.add ((t14).toNat*12)).off+3,none⟩=some (.int .i64 ((rd_T79 l2 t14).f2.f1))∧w'.cell? ⟨(ad22.add ((t14).toNat*12)).block,(ad22.add ((t14).toNat*12)).off+4,none⟩=some (.int .i64 ((rd_T79 l2 t14).f2.f2))∧w'.cell? ⟨(ad22.add ((t14).toNat*12)).block,(ad22.add ((t14).toNat*12)).off+5,none⟩=some (.int .i64 ((rd_T79 l2 t14).f3.f0))∧w'.cell? ⟨(ad22.add ((t14).toNat*12)).block,(ad22.add ((t14).toNat*12)).off+6,none⟩=some (.int .i64 ((rd_T79 l2 t14).f3.f1))∧w'.cell? ⟨(ad22.add ((t14).toNat*12)).block,(ad22.add ((t14).toNat*12)).off+7,none⟩=some (.int .i64 ((rd_T79 l2 t14).f3.f2))∧w'.cell? ⟨(ad22.add ((t14).toNat*12)).block,(ad22.add ((t14).toNat*12)).off+8,none⟩=some (.int .i64 ((rd_T79 l2 t14).f4.f0))∧w'.cell? ⟨(ad22.add ((t14).toNat*12)).block,(ad22.add ((t14).toNat*12)).off+9,none⟩=some (.int .i64 ((rd_T79 l2 t14).f4.f1))∧w'.cell? ⟨(ad22.add ((t14).toNat*12)).block,(ad22.add ((t14).toNat*12)).off+10,none⟩=some (.int .i64 ((rd_T79 l2 t14).f4.f2))∧w'.cell? ⟨(ad22.add ((t14).toNat*12)).block,(ad22.add ((t14).toNat*12)).off+11,none⟩=some (.int .i64 ((rd_T79 l2 t14).f5))) (ds:=[]) (bt_ 7 0) (by kernel_rfl) rfl rfl ⟨(blk_cell BK18.out 0).trans rfl,(blk_cell BK18.out 1).trans rfl,(blk_cell BK18.out 2).trans rfl,(zx_ HB hw22_0:),(zx_ HB hw22_1:),(zx_ HB hw22_2:),(zx_ HB hw22_3:),(zx_ HB hw22_4:),(zx_ HB hw22_5:),(zx_ HB hw22_6:),(zx_ HB hw22_7:),(zx_ HB hw22_8:),(zx_ HB hw22_9:),(zx_ HB hw22_10:),(zx_ HB hw22_11:)⟩ (fun hHeld=> ?_)
       generalize w72.drew=w73 at HO_8 HO_12 BK1 BK13 BK18 HB hx22_0 hx22_1 hx22_10 hx22_11 hx22_2 hx22_3 hx22_4 hx22_5 hx22_6 hx22_7 hx22_8 hx22_9 hHeld ⊢;refine pure_ (i:=0) (N:=some 103) (v:= ?_) (a':= ?_) (bt_ 7 1) rfl rfl (by kernel_rfl) (fun _ _ _ h=>h) (Or.inl ⟨by rfl, ?_⟩) ?_ ?_;rotate_left
       ·intro w';go_simp
        with_reducible rfl
       rotate_left
       ·simp only [Act.put,List.setIfInBounds_toArray,List.set_cons_zero,List.set_cons_succ,i64_w,i32_w]
        rfl
       refine pure_ (i:=1) (N:=some 104) (v:= ?_) (a':= ?_) (bt_ 7 3) rfl rfl (by kernel_rfl) (fun _ _ _ h=>h) (Or.inl ⟨by rfl, ?_⟩) ?_ ?_;rotate_left
       ·intro w';go_simp
        with_reducible rfl
       rotate_left
       ·simp only [Act.put,List.setIfInBounds_toArray,List.set_cons_zero,List.set_cons_succ,i64_w,i32_w]
        rfl
       refine pure_ (i:=2) (N:=some 105) (v:= ?_) (a':= ?_) (bt_ 7 7) rfl rfl (by kernel_rfl) (fun _ _ _ h=>h) (Or.inl ⟨by rfl, ?_⟩) ?_ ?_;rotate_left
       ·intro w';go_simp
        with_reducible rfl
       rotate_left
       ·simp only [Act.put,List.setIfInBounds_toArray,List.set_cons_zero,List.set_cons_succ,i64_w,i32_w]
        rfl
       refine pure_ (i:=3) (N:=some 106) (v:= ?_) (a':= ?_) (bt_ 7 15) rfl rfl (by kernel_rfl) (fun _ _ _ h=>h) (Or.inl ⟨by rfl, ?_⟩) ?_ ?_;rotate_left
       ·intro w';go_simp
        with_reducible rfl
       rotate_left
       ·simp only [Act.put,List.setIfInBounds_toArray,List.set_cons_zero,List.set_cons_succ,i64_w,i32_w]
        rfl
       refine take_ (i:=4) (N:=some 107) (v:= ?_) (a':= ?_) (bt_ 7 31) rfl rfl (by kernel_rfl) (fun _ _ _ h=>h) (Or.inl ⟨by rfl, ?_⟩) hHeld ?_ ?_;rotate_left
       ·rintro w' ⟨s0,s1,s2,s3,s4,s5,s6,s7,s8,s9,s10,s11,s12,s13,s14⟩;go_simp
        with_reducible rfl
       rotate_left
       ·simp only [Act.put,List.setIfInBounds_toArray,List.set_cons_zero,List.set_cons_succ,i64_w,i32_w]
        rfl
       refine take_ (i:=5) (N:=some 108) (v:= ?_) (a':= ?_) (bt_ 7 63) rfl rfl (by kernel_rfl) (fun _ _ _ h=>h) (Or.inl ⟨by rfl, ?_⟩) hHeld ?_ ?_;rotate_left
       ·rintro w' ⟨s0,s1,s2,s3,s4,s5,s6,s7,s8,s9,s10,s11,s12,s13,s14⟩;go_simp
        with_reducible rfl
       rotate_left
       ·simp only [Act.put,List.setIfInBounds_toArray,List.set_cons_zero,List.set_cons_succ,i64_w,i32_w]
        rfl
       refine pure_ (i:=6) (N:=some 109) (v:= ?_) (a':= ?_) (bt_ 7 127) rfl rfl (by kernel_rfl) (fun _ _ _ h=>h) (Or.inl ⟨by rfl, ?_⟩) ?_ ?_;rotate_left
       ·intro w';go_simp
        with_reducible rfl
       rotate_left
       ·simp only [Act.put,List.setIfInBounds_toArray,List.set_cons_zero,List.set_cons_succ,i64_w,i32_w]
        rfl
       refine done_ (by kernel_rfl) ?_;try go_wp2
       go_roundg k2
       case measure=>have:=HK1.out;have:=HK2.out;omega
       case rel=>exact ⟨(x12_2),(wrap64 (x13_2+1)),rf_,H',⟨by have:=HK1.out;have:=HK2.out;omega⟩,⟨by (with_reducible repeat (first|apply Kd.R_alloc|apply Kd.R_drewN|apply Kd.R_drew));exact Kd.R_mono HO_8.out (fun _ hk=>trivial)⟩,am_ (zr_ HO_12),am_ (zb_ BK1),⟨zl3_ HB GE1 GE13 GE18⟩⟩
      rw [if_pos c49] at H;have c49b0:(!(((rd_T79 l2 t14).f2.f0)==t15)||(!(((rd_T79 l2 t14).f2.f1)==t16)||(!(((rd_T79 l2 t14).f2.f2)==t17))))=true:=c49;clear c49;replace H:=zif_ H;obtain ⟨c50,H⟩:=H;have LMc50:=Aside0.mk c50;clear c50;obtain ⟨y23,hy23⟩: ∃y_:List (S76),y_=(x12_2++ [(⟨2,(rd_T39 t3 x13_2).f0,(⟨#[]⟩:ByteArray),(⟨t15,t16,t17⟩:S37)⟩:S76)]):=⟨_,rfl⟩;(first|replace H:=zsb_ hy23 H|rw [←hy23] at H);have Ny23:=Aside0.mk hy23;clear hy23;have H':=Aside0.mk H;clear H;obtain ⟨p12,q12,ad12,e12,hx12_0,hx12_1,hx12_2,hx12_3,hx12_4⟩:=zat_ (at_T39 (Kd.R_reads' HO_8.out).2.2 x13_2);cases e12
      try go_wp2_with (first|((with_reducible refine gate_dst (N:=14) rfl ?_);refine bx_ (N:=14) (cs:=#[.string (⟨#[]⟩:ByteArray), .string (⟨#[]⟩:ByteArray), .int .i64 0, .int .i64 0, .int .i64 0]) (t:=39) ?_;intro gb13 hg w51 hbox hb;replace HO_8:=am_ (Kd.R_below (Kd.R_elderB (zr_ HO_8) gb13 (Nat.le_of_eq hg.symm)) hb);replace HO_12:=ob_ HO_12 hb;have BK13:=am_ (hbox);have GE13:=am_ ((zg1_ HB GE1 hg:w.heap.size≤gb13));replace HB:=am_ (below_step (zl1_ HB GE1) hb);have NB1_13:=am_ ((zn_ BK1 hg:gb1≠gb13));have NB13_1:=am_ ((zm_ BK1 hg:gb13≠gb1));replace BK1:=bb_ BK1 hb;clear hb hbox hg;have hnb52:=NB13_1.out;have hnc52:=NB1_13.out;obtain ⟨hcz53_0,hcz53_1,hcz53_2,hcz53_3,hcz53_4⟩:=x5_ BK13;have hfz53_0:=blk_frozen BK13.out 0;have hfz53_1:=blk_frozen BK13.out 1;have hfz53_2:=blk_frozen BK13.out 2;have hfz53_3:=blk_frozen BK13.out 3;have hfz53_4:=blk_frozen BK13.out 4)|((with_reducible refine gate_callee (f:=52) rfl ?_);refine gl_ (some 87) Try.func52 #[.slice A2 l2.length c2, .string ((rd_T39 t3 x13_2).f0)] ?_;(with_reducible refine (r10_Find.calls k2 _ _ l2 ((rd_T39 t3 x13_2).f0) t14 _ ?side1 ?side2 A33.out).mono ?_);(case side1=>exact Kd.C_below HR2.out (zl2_ HB GE1 GE13));(case side2=>exact HC2.out);rintro e w' ⟨rfl,⟨nd,rfl⟩⟩;refine ⟨_,rfl, ?_⟩)|((with_reducible refine gate_callee (f:=86) rfl ?_);refine gl_ (some 91) Try.func86 #[.agg #[.string ((rd_T39 t3 x13_2).f0), .string ((rd_T39 t3 x13_2).f1), .int .i64 ((rd_T39 t3 x13_2).f2.f0), .int .i64 ((rd_T39 t3 x13_2).f2.f1), .int .i64 ((rd_T39 t3 x13_2).f2.f2)], .slice A2 l2.length c2, .bool x9_1] ?_;(with_reducible refine (r16_up.calls k2 ((rd_T39 t3 x13_2).f0) ((rd_T39 t3 x13_2).f1) ((rd_T39 t3 x13_2).f2.f0) ((rd_T39 t3 x13_2).f2.f1) ((rd_T39 t3 x13_2).f2.f2) _ _ l2 x9_1 t15 t16 t17 _ ?side1 ?side2 A34.out).mono ?_);(case side1=>exact Kd.C_below HR2.out (zl2_ HB GE1 GE13));(case side2=>exact HC2.out);rintro e w54 ⟨rfl,hb⟩;refine ⟨_,rfl, ?_⟩;replace HO_8:=am_ (Kd.R_below (by refine zt_ ?_;exact (zu2_ gb13 HO_8)) hb);replace HO_12:=am_ (Kd.R_below (by refine zt_ ?_;exact (zv2_ HO_12 BK13)) hb);replace BK1:=am_ (blk_below (g:=gb1) (o:= .cells #[.slice none 0 0, .int .i64 x2001_1] 51 (0,0)) (zw_ BK1) hb);replace BK13:=am_ (blk_below (g:=gb13) (o:= .cells #[.string ((rd_T39 t3 x13_2).f0), .string ((rd_T39 t3 x13_2).f1), .int .i64 ((rd_T39 t3 x13_2).f2.f0), .int .i64 ((rd_T39 t3 x13_2).f2.f1), .int .i64 ((rd_T39 t3 x13_2).f2.f2)] 39 (0,0)) (zw_ BK13) hb);replace HB:=am_ (below_step (zl2_ HB GE1 GE13) hb);(try clear hb))|((with_reducible refine gate_dst (N:=16) rfl ?_);refine bx_ (N:=16) (cs:=#[.int .i64 0, .int .i64 0, .int .i64 0]) (t:=37) ?_;intro gb18 hg w55 hbox hb;replace HO_8:=ob_ HO_8 hb;replace HO_12:=ob_ HO_12 hb;have BK18:=am_ (hbox);have GE18:=am_ ((zg2_ HB GE1 GE13 hg:w.heap.size≤gb18));replace HB:=am_ (below_step (zl2_ HB GE1 GE13) hb);have NB1_18:=am_ ((zn_ BK1 hg:gb1≠gb18));have NB18_1:=am_ ((zm_ BK1 hg:gb18≠gb1));replace BK1:=bb_ BK1 hb;have NB13_18:=am_ ((zn_ BK13 hg:gb13≠gb18));have NB18_13:=am_ ((zm_ BK13 hg:gb18≠gb13));replace BK13:=bb_ BK13 hb;clear hb hbox hg;have hnb56:=NB18_1.out;have hnc56:=NB1_18.out;have hnb57:=NB18_13.out;have hnc57:=NB13_18.out;obtain ⟨hcz58_0,hcz58_1,hcz58_2⟩:=x3_ BK18;have hfz58_0:=blk_frozen BK18.out 0;have hfz58_1:=blk_frozen BK18.out 1;have hfz58_2:=blk_frozen BK18.out 2))
      have n0_:Aside0 (Kd.R k39 39 (((w55.setCell ⟨gb18,0,none⟩ (.int .i64 t15)).setCell ⟨gb18,1,none⟩ (.int .i64 t16)).setCell ⟨gb18,2,none⟩ (.int .i64 t17)) w.heap.size (fun k_=>k_≠gb13) (.slice (some ad12) t3.length co30) t3):=⟨by (with_reducible repeat (first|apply Kd.R_alloc|apply Kd.R_drewN|apply Kd.R_drew));exact Kd.R_mono (Kd.R_far (p:=⟨gb18,2,none⟩) (Kd.R_far (p:=⟨gb18,1,none⟩) (Kd.R_far (p:=⟨gb18,0,none⟩) (Kd.R_types HO_8.out BK18.out (by decide)) (fun _ hk=>hk.2) (.int .i64 t15)) (fun _ hk=>hk.2) (.int .i64 t16)) (fun _ hk=>hk.2) (.int .i64 t17)) (fun _ hk=>hk.1.2)⟩;have n1_:Aside0 (Kd.R k76 76 (((w55.setCell ⟨gb18,0,none⟩ (.int .i64 t15)).setCell ⟨gb18,1,none⟩ (.int .i64 t16)).setCell ⟨gb18,2,none⟩ (.int .i64 t17)) w.heap.size (fun _=>True) u12 x12_2):=⟨zy_ HO_12 BK18⟩;have n2_:Aside0 ((((w55.setCell ⟨gb18,0,none⟩ (.int .i64 t15)).setCell ⟨gb18,1,none⟩ (.int .i64 t16)).setCell ⟨gb18,2,none⟩ (.int .i64 t17)).heap[gb1]?=some (.cells #[.slice none 0 0, .int .i64 x2001_1] 51 (0,0))):=⟨zw_ BK1⟩;have n3_:Aside0 ((((w55.setCell ⟨gb18,0,none⟩ (.int .i64 t15)).setCell ⟨gb18,1,none⟩ (.int .i64 t16)).setCell ⟨gb18,2,none⟩ (.int .i64 t17)).heap[gb13]?=some (.cells #[.string ((rd_T39 t3 x13_2).f0), .string ((rd_T39 t3 x13_2).f1), .int .i64 ((rd_T39 t3 x13_2).f2.f0), .int .i64 ((rd_T39 t3 x13_2).f2.f1), .int .i64 ((rd_T39 t3 x13_2).f2.f2)] 39 (0,0))):=⟨zw_ BK13⟩
      have n4_:Aside0 ((((w55.setCell ⟨gb18,0,none⟩ (.int .i64 t15)).setCell ⟨gb18,1,none⟩ (.int .i64 t16)).setCell ⟨gb18,2,none⟩ (.int .i64 t17)).heap[gb18]?=some (.cells #[.int .i64 t15, .int .i64 t16, .int .i64 t17] 37 (0,0))):=⟨zw_ BK18⟩;have n5_:Aside0 (Below w.heap.size w (((w55.setCell ⟨gb18,0,none⟩ (.int .i64 t15)).setCell ⟨gb18,1,none⟩ (.int .i64 t16)).setCell ⟨gb18,2,none⟩ (.int .i64 t17))):=⟨zl3_ HB GE1 GE13 GE18⟩;generalize (((w55.setCell ⟨gb18,0,none⟩ (.int .i64 t15)).setCell ⟨gb18,1,none⟩ (.int .i64 t16)).setCell ⟨gb18,2,none⟩ (.int .i64 t17))=w59 at n0_ n1_ n2_ n3_ n4_ n5_ ⊢;have HO_8:=n0_;have HO_12:=n1_;have BK1:=n2_;have BK13:=n3_;have BK18:=n4_;have HB:=n5_;clear n0_ n1_ n2_ n3_ n4_ n5_;replace HO_8:=am_ (Kd.R_drew HO_8.out);replace HO_12:=am_ (Kd.R_drew HO_12.out);replace BK1:=am_ (blk_drew BK1.out);replace BK13:=am_ (blk_drew BK13.out);replace BK18:=am_ (blk_drew BK18.out);replace HB:=am_ (below_drew1 HB.out);have p22:0≤(t14:Int):=of_decide_eq_true zq_;have q22:t14<(l2.length:Int):=of_decide_eq_true zq_;obtain ⟨ad22,e22,hx22_0,hx22_1,hx22_2,hx22_3,hx22_4,hx22_5,hx22_6,hx22_7,hx22_8,hx22_9,hx22_10,hx22_11⟩:=at_T79 HR2.out t14 p22 q22;have hw22_11:=hx22_11;have hw22_10:=hx22_10;have hw22_9:=hx22_9;have hw22_8:=hx22_8;have hw22_7:=hx22_7;have hw22_6:=hx22_6;have hw22_5:=hx22_5;have hw22_4:=hx22_4;have hw22_3:=hx22_3;have hw22_2:=hx22_2;have hw22_1:=hx22_1;have hw22_0:=hx22_0;cases e22
      replace hx22_0:=zx12_ HB hx22_0 hx22_1 hx22_2 hx22_3 hx22_4 hx22_5 hx22_6 hx22_7 hx22_8 hx22_9 hx22_10 hx22_11;clear hx22_1 hx22_2 hx22_3 hx22_4 hx22_5 hx22_6 hx22_7 hx22_8 hx22_9 hx22_10 hx22_11;obtain ⟨hx22_0,hx22_1,hx22_2,hx22_3,hx22_4,hx22_5,hx22_6,hx22_7,hx22_8,hx22_9,hx22_10,hx22_11⟩:=hx22_0;replace p22:=eq_true p22;replace q22:=eq_true q22
      refine start_ (n:=7) (S:=fun w'=>w'.cell? ⟨gb18,0,none⟩=some (.int .i64 t15)∧w'.cell? ⟨gb18,1,none⟩=some (.int .i64 t16)∧w'.cell? ⟨gb18,2,none⟩=some (.int .i64 t17)∧w'.cell? (ad22.add ((t14).toNat*12))=some (.string ((rd_T79 l2 t14).f0))∧w'.cell? ⟨(ad22.add ((t14).toNat*12)).block,(ad22.add ((t14).toNat*12)).off+1,none⟩=some (.string ((rd_T79 l2 t14).f1))∧w'.cell? ⟨(ad22.add ((t14).toNat*12)).block,(ad22.add ((t14).toNat*12)).off+2,none⟩=some (.int .i64 ((rd_T79 l2 t14).f2.f0))∧w'.cell? ⟨(ad22.add ((t14).toNat*12)).block,(ad22.add ((t14).toNat*12)).off+3,none⟩=some (.int .i64 ((rd_T79 l2 t14).f2.f1))∧w'.cell? ⟨(ad22.add ((t14).toNat*12)).block,(ad22.add ((t14).toNat*12)).off+4,none⟩=some (.int .i64 ((rd_T79 l2 t14).f2.f2))∧w'.cell? ⟨(ad22.add ((t14).toNat*12)).block,(ad22.add ((t14).toNat*12)).off+5,none⟩=some (.int .i64 ((rd_T79 l2 t14).f3.f0))∧w'.cell? ⟨(ad22.add ((t14).toNat*12)).block,(ad22.add ((t14).toNat*12)).off+6,none⟩=some (.int .i64 ((rd_T79 l2 t14).f3.f1))∧w'.cell? ⟨(ad22.add ((t14).toNat*12)).block,(ad22.add ((t14).toNat*12)).off+7,none⟩=some (.int .i64 ((rd_T79 l2 t14).f3.f2))∧w'.cell? ⟨(ad22.add ((t14).toNat*12)).block,(ad22.add ((t14).toNat*12)).off+8,none⟩=some (.int .i64 ((rd_T79 l2 t14).f4.f0))∧w'.cell? ⟨(ad22.add ((t14).toNat*12)).block,(ad22.add ((t14).toNat*12)).off+9,none⟩=some (.int .i64 ((rd_T79 l2 t14).f4.f1))∧w'.cell? ⟨(ad22.add ((t14).toNat*12)).block,(ad22.add ((t14).toNat*12)).off+10,none⟩=some (.int .i64 ((rd_T79 l2 t14).f4.f2))∧w'.cell? ⟨(ad22.add ((t14).toNat*12)).block,(ad22.add ((t14).toNat*12)).off+11,none⟩=some (.int .i64 ((rd_T79 l2 t14).f5))) (ds:=[]) (bt_ 7 0) (by kernel_rfl) rfl rfl ⟨(blk_cell BK18.out 0).trans rfl,(blk_cell BK18.out 1).trans rfl,(blk_cell BK18.out 2).trans rfl,(zx_ HB hw22_0:),(zx_ HB hw22_1:),(zx_ HB hw22_2:),(zx_ HB hw22_3:),(zx_ HB hw22_4:),(zx_ HB hw22_5:),(zx_ HB hw22_6:),(zx_ HB hw22_7:),(zx_ HB hw22_8:),(zx_ HB hw22_9:),(zx_ HB hw22_10:),(zx_ HB hw22_11:)⟩ (fun hHeld=> ?_)
      generalize w59.drew=w60 at HO_8 HO_12 BK1 BK13 BK18 HB hx22_0 hx22_1 hx22_10 hx22_11 hx22_2 hx22_3 hx22_4 hx22_5 hx22_6 hx22_7 hx22_8 hx22_9 hHeld ⊢;refine pure_ (i:=0) (N:=some 103) (v:= ?_) (a':= ?_) (bt_ 7 1) rfl rfl (by kernel_rfl) (fun _ _ _ h=>h) (Or.inl ⟨by rfl, ?_⟩) ?_ ?_;rotate_left
      ·intro w';go_simp
       with_reducible rfl
      rotate_left
      ·simp only [Act.put,List.setIfInBounds_toArray,List.set_cons_zero,List.set_cons_succ,i64_w,i32_w]
       rfl
      refine pure_ (i:=1) (N:=some 104) (v:= ?_) (a':= ?_) (bt_ 7 3) rfl rfl (by kernel_rfl) (fun _ _ _ h=>h) (Or.inl ⟨by rfl, ?_⟩) ?_ ?_;rotate_left
      ·intro w';go_simp
       with_reducible rfl
      rotate_left
      ·simp only [Act.put,List.setIfInBounds_toArray,List.set_cons_zero,List.set_cons_succ,i64_w,i32_w]
       rfl
      refine pure_ (i:=2) (N:=some 105) (v:= ?_) (a':= ?_) (bt_ 7 7) rfl rfl (by kernel_rfl) (fun _ _ _ h=>h) (Or.inl ⟨by rfl, ?_⟩) ?_ ?_;rotate_left
      ·intro w';go_simp
       with_reducible rfl
      rotate_left
      ·simp only [Act.put,List.setIfInBounds_toArray,List.set_cons_zero,List.set_cons_succ,i64_w,i32_w]
       rfl
      refine pure_ (i:=3) (N:=some 106) (v:= ?_) (a':= ?_) (bt_ 7 15) rfl rfl (by kernel_rfl) (fun _ _ _ h=>h) (Or.inl ⟨by rfl, ?_⟩) ?_ ?_;rotate_left
      ·intro w';go_simp
       with_reducible rfl
      rotate_left
      ·simp only [Act.put,List.setIfInBounds_toArray,List.set_cons_zero,List.set_cons_succ,i64_w,i32_w]
       rfl
      refine take_ (i:=4) (N:=some 107) (v:= ?_) (a':= ?_) (bt_ 7 31) rfl rfl (by kernel_rfl) (fun _ _ _ h=>h) (Or.inl ⟨by rfl, ?_⟩) hHeld ?_ ?_;rotate_left
      ·rintro w' ⟨s0,s1,s2,s3,s4,s5,s6,s7,s8,s9,s10,s11,s12,s13,s14⟩;go_simp
       with_reducible rfl
      rotate_left
      ·simp only [Act.put,List.setIfInBounds_toArray,List.set_cons_zero,List.set_cons_succ,i64_w,i32_w]
       rfl
      refine take_ (i:=5) (N:=some 108) (v:= ?_) (a':= ?_) (bt_ 7 63) rfl rfl (by kernel_rfl) (fun _ _ _ h=>h) (Or.inl ⟨by rfl, ?_⟩) hHeld ?_ ?_;rotate_left
      ·rintro w' ⟨s0,s1,s2,s3,s4,s5,s6,s7,s8,s9,s10,s11,s12,s13,s14⟩;go_simp
       with_reducible rfl
      rotate_left
      ·simp only [Act.put,List.setIfInBounds_toArray,List.set_cons_zero,List.set_cons_succ,i64_w,i32_w]
       rfl
      refine pure_ (i:=6) (N:=some 109) (v:= ?_) (a':= ?_) (bt_ 7 127) rfl rfl (by kernel_rfl) (fun _ _ _ h=>h) (Or.inl ⟨by rfl, ?_⟩) ?_ ?_;rotate_left
      ·intro w';go_simp
       with_reducible rfl
      rotate_left
      ·simp only [Act.put,List.setIfInBounds_toArray,List.set_cons_zero,List.set_cons_succ,i64_w,i32_w]
       rfl
      refine done_ (by kernel_rfl) ?_;obtain ⟨hcz61_0,hcz61_1,hcz61_2,hcz61_3,hcz61_4,hfz61_0,hfz61_1,hfz61_2,hfz61_3,hfz61_4⟩:=y5_ BK13;obtain ⟨hcz62_0,hcz62_1,hcz62_2,hfz62_0,hfz62_1,hfz62_2⟩:=y3_ BK18
      try go_wp2_with (first|((with_reducible refine gate_builtin (b:= .append) (xs:=#[.tmp 110, .tmp 115]) rfl ?_);at_builtin;refine Kd.R_append k76 (w0:=w) w.heap.size rfl (.tmp 110) (.tmp 115) 49 76 (.agg #[(.int .i64 0),(.string ⟨#[]⟩),(.string ⟨#[]⟩),(.int .i64 0),(.int .i64 0),(.int .i64 0)]) 64 rfl Try.underlying49 info76 rfl (by decide) (by omega) u12 x12_2 (⟨2,(rd_T39 t3 x13_2).f0,(⟨#[]⟩:ByteArray),(⟨t15,t16,t17⟩:S37)⟩:S76) [.int .i64 2, .string ((rd_T39 t3 x13_2).f0), .string (⟨#[]⟩:ByteArray), .int .i64 t15, .int .i64 t16, .int .i64 t17] (fun _=>True) (fun _=>False) rfl rfl ?aP (fun _ hk=>hk.elim) ?aF ?aO ?aB ?aS ?aL ?_;(case aP=>exact k76_mkM _ _ _ (⟨2,(rd_T39 t3 x13_2).f0,(⟨#[]⟩:ByteArray),(⟨t15,t16,t17⟩:S37)⟩:S76));(case aB=>exact (zl3_ HB GE1 GE13 GE18));(case aF=>exact (fun _ _=>trivial));(case aO=>exact (zr_ HO_12));(case aS=>exact (below_size (zl3_ HB GE1 GE13 GE18)));(case aL=>have:=LMc50.out;omega);intro v24 w63 ho hb hg hat;rw [←Ny23.out] at ho;have n0_:=am_ (Kd.R_over' (zr_ HO_8) (Kd.R_typed (zr_ HO_12)) (by decide) hg);have n1_:=am_ (blk_grown (zb_ BK1) hg (Kd.R_ne HO_12.out BK1.out (by decide)));have n2_:=am_ (blk_grown (zb_ BK13) hg (Kd.R_ne HO_12.out BK13.out (by decide)));have n3_:=am_ (blk_grown (zb_ BK18) hg (Kd.R_ne HO_12.out BK18.out (by decide)));have n4_:=am_ (hb);have n5_:=am_ (ho);clear HO_8;clear BK1;clear BK13;clear BK18;clear HB;clear HO_12;have HO_8:=n0_;have BK1:=n1_;have BK13:=n2_;have BK18:=n3_;have HB:=n4_;have HO25:=n5_;clear n0_ n1_ n2_ n3_ n4_ n5_;clear ho hb hg hat))
      go_roundg k2
      case measure=>have:=HK1.out;have:=HK2.out;omega
      case rel=>exact ⟨(y23),(wrap64 (x13_2+1)),rf_,H',⟨by have:=HK1.out;have:=HK2.out;omega⟩,⟨by (with_reducible repeat (first|apply Kd.R_alloc|apply Kd.R_drewN|apply Kd.R_drew));exact Kd.R_mono HO_8.out (fun _ hk=>trivial)⟩,am_ (zr_ HO25),am_ (zb_ BK1),⟨zl3_ HB GE1 GE13 GE18⟩⟩
     rw [if_neg c31] at H;have c31b0:=decide_eq_false c31;clear c31;have H':=Aside0.mk H;clear H;go_wp2
     go_loopg [12,17] k2 (fun kq v12 v17 w'=> ∃(x12_3:List (S76)) (x17_3:Int),v17= .int .i64 x17_3∧Aside0 (r16_Steps.l2 kq l0 l1 l2 t3 x9_1 x12_3 x17_3=some (r1,r2))∧Aside0 (kq≤k2)∧Aside0 (Kd.R k39 39 w' w.heap.size (fun _=>True) (.slice Ao30 t3.length co30) t3)∧Aside0 (Kd.R k76 76 w' w.heap.size (fun _=>True) v12 x12_3)∧Aside0 (w'.heap[gb1]?=some (.cells #[(.slice none 0 0), .int .i64 x2001_1] 51 (0,0)))∧Aside0 (Below w.heap.size w w'))
     case atStart=>exact ⟨(x12_2),(0),rf_,H',⟨Nat.le_refl _⟩,am_ (zr_ HO_8),am_ (zr_ HO_12),am_ (zb_ BK1),⟨zl1_ HB GE1⟩⟩
     case round=>
      clear H';obtain ⟨x12_3,x17_3,rfl,HA,HK3,HO_8,HO_12,BK1,HB⟩:=hrel
      cases gk with
      |zero=>exact absurd HA.out (by simp [r16_Steps.l2])
      |succ k3=>
       have H:=HA.out;clear HA;simp only [r16_Steps.l2] at H;by_cases c74:x17_3<(t3.length:Int)
       ·rw [if_pos c74] at H;have c74b0:=decide_eq_true c74;clear c74;replace H:=zif_ H;obtain ⟨c75,H⟩:=H;have c75b0:=decide_eq_true c75;clear c75;replace H:=zbd_ H;obtain ⟨t27,A76,H⟩:=H;try dsimp only at H
        by_cases c77:t27≥0;rotate_left
        ·rw [if_neg c77] at H;have c77b0:decide (0≤t27)=false:=decide_eq_false c77;clear c77;have H':=Aside0.mk H;clear H;obtain ⟨p26,q26,ad26,e26,hx26_0,hx26_1,hx26_2,hx26_3,hx26_4⟩:=zat_ (at_T39 (Kd.R_reads' HO_8.out).2.2 x17_3);cases e26;try go_wp2_with (first|((with_reducible refine gate_callee (f:=52) rfl ?_);refine gl_ (some 129) Try.func52 #[.slice A2 l2.length c2, .string ((rd_T39 t3 x17_3).f0)] ?_;(with_reducible refine (r10_Find.calls k3 _ _ l2 ((rd_T39 t3 x17_3).f0) t27 _ ?side1 ?side2 A76.out).mono ?_);(case side1=>exact zc_ (Kd.C_below HR2.out HB.out));(case side2=>exact HC2.out);rintro e w' ⟨rfl,⟨nd,rfl⟩⟩;refine ⟨_,rfl, ?_⟩))
         (try (rw [drewN_self wr];generalize hq_:World.drewN wr _=wr;replace HO_12:=am_ (Kd.R_at hq_ HO_12.out);replace HO_8:=am_ (Kd.R_at hq_ HO_8.out);replace BK1:=am_ (blk_at hq_ BK1.out);replace HB:=am_ (below_at hq_ HB.out);clear hq_));replace HO_8:=am_ (Kd.R_drew HO_8.out);replace HO_12:=am_ (Kd.R_drew HO_12.out);replace BK1:=am_ (blk_drew BK1.out);replace HB:=am_ (below_drew1 HB.out);refine start_ (n:=15) (S:=fun w'=>True) (ds:=[]) (bs_ 15 0) (by kernel_rfl) rfl rfl trivial (fun hHeld=> ?_);refine with_tabW r16_Steps.tab28 r16_Steps.bits28 (fun HT_ HW_=> ?_);generalize wr.drew=w86 at HO_8 HO_12 BK1 HB hHeld ⊢;(iterate 15 first|refine qn_ HT_ ?_|refine qu_ HT_ ?_);refine done_ (done_of HT_.out (by kernel_rfl)) ?_;try go_wp2
         go_roundg k3
         case measure=>have:=HK1.out;have:=HK2.out;have:=HK3.out;omega
         case rel=>exact ⟨(x12_3),(wrap64 (x17_3+1)),rf_,H',⟨by have:=HK1.out;have:=HK2.out;have:=HK3.out;omega⟩,am_ (zr_ HO_8),am_ (zr_ HO_12),am_ (zb_ BK1),⟨zl1_ HB GE1⟩⟩
        rw [if_pos c77] at H;have c77b0:decide (0≤t27)=true:=decide_eq_true c77;clear c77;replace H:=zif_ H;obtain ⟨c78,H⟩:=H;have c78b0:=decide_eq_true c78;clear c78;replace H:=zif_ H;obtain ⟨c79,H⟩:=H;have c79b0:=decide_eq_true c79;clear c79;by_cases c80:((rd_T79 l2 t27).f1).toList=((rd_T39 t3 x17_3).f1).toList
        ·rw [if_pos c80] at H;have c80b0:=beq_iff_eq.mpr c80;have c80b1:=bne_eq_false_iff_eq.mpr c80;clear c80;have H':=Aside0.mk H;clear H;obtain ⟨p26,q26,ad26,e26,hx26_0,hx26_1,hx26_2,hx26_3,hx26_4⟩:=zat_ (at_T39 (Kd.R_reads' HO_8.out).2.2 x17_3);cases e26;try go_wp2_with (first|((with_reducible refine gate_callee (f:=52) rfl ?_);refine gl_ (some 129) Try.func52 #[.slice A2 l2.length c2, .string ((rd_T39 t3 x17_3).f0)] ?_;(with_reducible refine (r10_Find.calls k3 _ _ l2 ((rd_T39 t3 x17_3).f0) t27 _ ?side1 ?side2 A76.out).mono ?_);(case side1=>exact zc_ (Kd.C_below HR2.out HB.out));(case side2=>exact HC2.out);rintro e w' ⟨rfl,⟨nd,rfl⟩⟩;refine ⟨_,rfl, ?_⟩))
         (try (rw [drewN_self wr];generalize hq_:World.drewN wr _=wr;replace HO_12:=am_ (Kd.R_at hq_ HO_12.out);replace HO_8:=am_ (Kd.R_at hq_ HO_8.out);replace BK1:=am_ (blk_at hq_ BK1.out);replace HB:=am_ (below_at hq_ HB.out);clear hq_));replace HO_8:=am_ (Kd.R_drew HO_8.out);replace HO_12:=am_ (Kd.R_drew HO_12.out);replace BK1:=am_ (blk_drew BK1.out);replace HB:=am_ (below_drew1 HB.out);have p28:0≤(t27:Int):=of_decide_eq_true zq_;have q28:t27<(l2.length:Int):=of_decide_eq_true zq_;obtain ⟨ad28,e28,hx28_0,hx28_1,hx28_2,hx28_3,hx28_4,hx28_5,hx28_6,hx28_7,hx28_8,hx28_9,hx28_10,hx28_11⟩:=at_T79 HR2.out t27 p28 q28;have hw28_1:=hx28_1;cases e28;replace hx28_0:=zx12_ HB hx28_0 hx28_1 hx28_2 hx28_3 hx28_4 hx28_5 hx28_6 hx28_7 hx28_8 hx28_9 hx28_10 hx28_11;clear hx28_1 hx28_2 hx28_3 hx28_4 hx28_5 hx28_6 hx28_7 hx28_8 hx28_9 hx28_10 hx28_11;obtain ⟨hx28_0,hx28_1,hx28_2,hx28_3,hx28_4,hx28_5,hx28_6,hx28_7,hx28_8,hx28_9,hx28_10,hx28_11⟩:=hx28_0;replace p28:=eq_true p28;replace q28:=eq_true q28;obtain ⟨p29,q29,ad29,e29,hx29_0,hx29_1,hx29_2,hx29_3,hx29_4⟩:=zat_ (at_T39 (Kd.R_reads' HO_8.out).2.2 x17_3);obtain rfl:ad26=ad29:=(by injection e29)
         refine start_ (n:=15) (S:=fun w'=>w'.cell? ⟨(ad28.add ((t27).toNat*12)).block,(ad28.add ((t27).toNat*12)).off+1,none⟩=some (.string ((rd_T79 l2 t27).f1))∧w'.cell? (ad26.add ((x17_3).toNat*5))=some (.string ((rd_T39 t3 x17_3).f0))∧w'.cell? ⟨(ad26.add ((x17_3).toNat*5)).block,(ad26.add ((x17_3).toNat*5)).off+1,none⟩=some (.string ((rd_T39 t3 x17_3).f1))) (ds:=[]) (bt_ 15 0) (by kernel_rfl) rfl rfl ⟨(zx_ HB hw28_1:),hx29_0,hx29_1⟩ (fun hHeld=> ?_);refine with_tabW r16_Steps.tab28 r16_Steps.bits28 (fun HT_ HW_=> ?_);generalize wr.drew=w81 at HO_8 HO_12 BK1 HB hx28_0 hx28_1 hx28_10 hx28_11 hx28_2 hx28_3 hx28_4 hx28_5 hx28_6 hx28_7 hx28_8 hx28_9 hx29_0 hx29_1 hx29_2 hx29_3 hx29_4 hHeld ⊢;refine ru_ 0 HT_ ?_;refine ru_ 1 HT_ ?_;refine ru_ 2 HT_ ?_;refine ru_ 3 HT_ ?_;refine ru_ 4 HT_ ?_;refine ru_ 5 HT_ ?_;refine ru_ 6 HT_ ?_;refine ru_ 8 HT_ ?_;refine ru_ 9 HT_ ?_;refine ru_ 10 HT_ ?_;refine ru_ 11 HT_ ?_;refine rk_ 7 HT_ HW_ hHeld ?_;refine rk_ 12 HT_ HW_ hHeld ?_;refine ru_ 13 HT_ ?_;refine ru_ 14 HT_ ?_;refine done_ (done_of HT_.out (by kernel_rfl)) ?_;try go_wp2
         go_roundg k3
         case measure=>have:=HK1.out;have:=HK2.out;have:=HK3.out;omega
         case rel=>exact ⟨(x12_3),(wrap64 (x17_3+1)),rf_,H',⟨by have:=HK1.out;have:=HK2.out;have:=HK3.out;omega⟩,am_ (zr_ HO_8),am_ (zr_ HO_12),am_ (zb_ BK1),⟨zl1_ HB GE1⟩⟩
        rw [if_neg c80] at H;have c80b0:=beq_eq_false_iff_ne.mpr c80;have c80b1:=bne_iff_ne.mpr c80;replace H:=zif_ H;obtain ⟨c82,H⟩:=H;have LMc82:=Aside0.mk c82;clear c82;obtain ⟨y32,hy32⟩: ∃y_:List (S76),y_=(x12_3++ [(⟨3,(rd_T39 t3 x17_3).f0,(rd_T39 t3 x17_3).f1,(⟨0,0,0⟩:S37)⟩:S76)]):=⟨_,rfl⟩;(first|replace H:=zsb_ hy32 H|rw [←hy32] at H);have Ny32:=Aside0.mk hy32;clear hy32;have H':=Aside0.mk H;clear H;obtain ⟨p26,q26,ad26,e26,hx26_0,hx26_1,hx26_2,hx26_3,hx26_4⟩:=zat_ (at_T39 (Kd.R_reads' HO_8.out).2.2 x17_3);cases e26;try go_wp2_with (first|((with_reducible refine gate_callee (f:=52) rfl ?_);refine gl_ (some 129) Try.func52 #[.slice A2 l2.length c2, .string ((rd_T39 t3 x17_3).f0)] ?_;(with_reducible refine (r10_Find.calls k3 _ _ l2 ((rd_T39 t3 x17_3).f0) t27 _ ?side1 ?side2 A76.out).mono ?_);(case side1=>exact zc_ (Kd.C_below HR2.out HB.out));(case side2=>exact HC2.out);rintro e w' ⟨rfl,⟨nd,rfl⟩⟩;refine ⟨_,rfl, ?_⟩))
        (try (rw [drewN_self wr];generalize hq_:World.drewN wr _=wr;replace HO_12:=am_ (Kd.R_at hq_ HO_12.out);replace HO_8:=am_ (Kd.R_at hq_ HO_8.out);replace BK1:=am_ (blk_at hq_ BK1.out);replace HB:=am_ (below_at hq_ HB.out);clear hq_));replace HO_8:=am_ (Kd.R_drew HO_8.out);replace HO_12:=am_ (Kd.R_drew HO_12.out);replace BK1:=am_ (blk_drew BK1.out);replace HB:=am_ (below_drew1 HB.out);have p28:0≤(t27:Int):=of_decide_eq_true zq_;have q28:t27<(l2.length:Int):=of_decide_eq_true zq_;obtain ⟨ad28,e28,hx28_0,hx28_1,hx28_2,hx28_3,hx28_4,hx28_5,hx28_6,hx28_7,hx28_8,hx28_9,hx28_10,hx28_11⟩:=at_T79 HR2.out t27 p28 q28;have hw28_1:=hx28_1;cases e28;replace hx28_0:=zx12_ HB hx28_0 hx28_1 hx28_2 hx28_3 hx28_4 hx28_5 hx28_6 hx28_7 hx28_8 hx28_9 hx28_10 hx28_11;clear hx28_1 hx28_2 hx28_3 hx28_4 hx28_5 hx28_6 hx28_7 hx28_8 hx28_9 hx28_10 hx28_11;obtain ⟨hx28_0,hx28_1,hx28_2,hx28_3,hx28_4,hx28_5,hx28_6,hx28_7,hx28_8,hx28_9,hx28_10,hx28_11⟩:=hx28_0;replace p28:=eq_true p28;replace q28:=eq_true q28;obtain ⟨p29,q29,ad29,e29,hx29_0,hx29_1,hx29_2,hx29_3,hx29_4⟩:=zat_ (at_T39 (Kd.R_reads' HO_8.out).2.2 x17_3);obtain rfl:ad26=ad29:=(by injection e29)
        refine start_ (n:=15) (S:=fun w'=>w'.cell? ⟨(ad28.add ((t27).toNat*12)).block,(ad28.add ((t27).toNat*12)).off+1,none⟩=some (.string ((rd_T79 l2 t27).f1))∧w'.cell? (ad26.add ((x17_3).toNat*5))=some (.string ((rd_T39 t3 x17_3).f0))∧w'.cell? ⟨(ad26.add ((x17_3).toNat*5)).block,(ad26.add ((x17_3).toNat*5)).off+1,none⟩=some (.string ((rd_T39 t3 x17_3).f1))) (ds:=[]) (bt_ 15 0) (by kernel_rfl) rfl rfl ⟨(zx_ HB hw28_1:),hx29_0,hx29_1⟩ (fun hHeld=> ?_);refine with_tabW r16_Steps.tab28 r16_Steps.bits28 (fun HT_ HW_=> ?_);generalize wr.drew=w83 at HO_8 HO_12 BK1 HB hx28_0 hx28_1 hx28_10 hx28_11 hx28_2 hx28_3 hx28_4 hx28_5 hx28_6 hx28_7 hx28_8 hx28_9 hx29_0 hx29_1 hx29_2 hx29_3 hx29_4 hHeld ⊢;refine ru_ 0 HT_ ?_;refine ru_ 1 HT_ ?_;refine ru_ 2 HT_ ?_;refine ru_ 3 HT_ ?_;refine ru_ 4 HT_ ?_;refine ru_ 5 HT_ ?_;refine ru_ 6 HT_ ?_;refine ru_ 8 HT_ ?_;refine ru_ 9 HT_ ?_;refine ru_ 10 HT_ ?_;refine ru_ 11 HT_ ?_;refine rk_ 7 HT_ HW_ hHeld ?_;refine rk_ 12 HT_ HW_ hHeld ?_;refine ru_ 13 HT_ ?_;refine ru_ 14 HT_ ?_;refine done_ (done_of HT_.out (by kernel_rfl)) ?_;try go_wp2
        replace HO_8:=am_ (Kd.R_drew HO_8.out);replace HO_12:=am_ (Kd.R_drew HO_12.out);replace BK1:=am_ (blk_drew BK1.out);replace HB:=am_ (below_drew1 HB.out);obtain ⟨p30,q30,ad30,e30,hx30_0,hx30_1,hx30_2,hx30_3,hx30_4⟩:=zat_ (at_T39 (Kd.R_reads' HO_8.out).2.2 x17_3);obtain rfl:ad26=ad30:=(by injection e30);obtain ⟨p31,q31,ad31,e31,hx31_0,hx31_1,hx31_2,hx31_3,hx31_4⟩:=zat_ (at_T39 (Kd.R_reads' HO_8.out).2.2 x17_3);obtain rfl:ad26=ad31:=(by injection e31);refine start_ (n:=15) (S:=fun w'=>w'.cell? (ad26.add ((x17_3).toNat*5))=some (.string ((rd_T39 t3 x17_3).f0))∧w'.cell? ⟨(ad26.add ((x17_3).toNat*5)).block,(ad26.add ((x17_3).toNat*5)).off+1,none⟩=some (.string ((rd_T39 t3 x17_3).f1))) (ds:=[12,13]) (bt_ 15 0) (by kernel_rfl) rfl rfl ⟨hx30_0,hx30_1⟩ (fun hHeld=> ?_);refine with_tabW r16_Steps.tab29 r16_Steps.bits29 (fun HT_ HW_=> ?_);generalize w83.drew=w84 at HO_8 HO_12 BK1 HB hx30_0 hx30_1 hx30_2 hx30_3 hx30_4 hx31_0 hx31_1 hx31_2 hx31_3 hx31_4 hHeld ⊢;refine ru_ 0 HT_ ?_;refine ru_ 1 HT_ ?_;refine ru_ 2 HT_ ?_;refine ru_ 3 HT_ ?_;refine ru_ 4 HT_ ?_;refine ru_ 6 HT_ ?_;refine ru_ 7 HT_ ?_;refine ru_ 8 HT_ ?_;refine ru_ 9 HT_ ?_;refine rk_ 5 HT_ HW_ hHeld ?_;refine rk_ 10 HT_ HW_ hHeld ?_;refine ru_ 11 HT_ ?_;refine last_ (i:=12) (N:=some 157) (bt_ 15 8191) rfl rfl (one_of HT_.out (by kernel_rfl)) (by decide) (fun K hK=> ?_);refine value_ (w1:= ?_) (v:= ?_) (by rfl) rfl ?_ ?_
        rotate_left 2
        ·go_simp
         constructor
         ·rfl
         rfl
        refine hK.out _ _ ?_;clear hK K;refine no_ (N:=some 157) ?_;refine last_ (i:=13) (N:=some 158) (bt_ 15 16383) rfl rfl (one_of HT_.out (by kernel_rfl)) (by decide) (fun K hK=> ?_);refine Kd.R_append_step k76 (w0:=w) w.heap.size (by rfl) (.tmp 145) (.tmp 157) 49 76 (.agg #[(.int .i64 0),(.string ⟨#[]⟩),(.string ⟨#[]⟩),(.int .i64 0),(.int .i64 0),(.int .i64 0)]) 64 rfl Try.underlying49 info76 rfl (by decide) (by omega) u12 x12_3 (⟨3,(rd_T39 t3 x17_3).f0,(rd_T39 t3 x17_3).f1,(⟨0,0,0⟩:S37)⟩:S76) [.int .i64 3, .string ((rd_T39 t3 x17_3).f0), .string ((rd_T39 t3 x17_3).f1), .int .i64 0, .int .i64 0, .int .i64 0] (fun _=>True) (fun _=>False) rfl rfl ?aP (fun _ hk=>hk.elim) ?aF ?aO ?aB ?aS ?aL ?_;(case aP=>exact k76_mkM _ _ _ (⟨3,(rd_T39 t3 x17_3).f0,(rd_T39 t3 x17_3).f1,(⟨0,0,0⟩:S37)⟩:S76));(case aB=>exact (zl1_ HB GE1));(case aF=>exact (fun _ _=>trivial));(case aO=>exact (zr_ HO_12));(case aS=>exact (below_size (zl1_ HB GE1)));(case aL=>have:=LMc82.out;omega);intro v33 w85 ho hb hg hat;rw [←Ny32.out] at ho;have n0_:=am_ (Kd.R_over' (zr_ HO_8) (Kd.R_typed (zr_ HO_12)) (by decide) hg);have n1_:=am_ (blk_grown (zb_ BK1) hg (Kd.R_ne HO_12.out BK1.out (by decide)));have n2_:=am_ (hb);have n3_:=am_ (ho);clear HO_8 BK1 HB HO_12;have HO_8:=n0_;have BK1:=n1_;have HB:=n2_;have HO34:=n3_;clear n0_ n1_ n2_ n3_ ho hb hg hat;refine hK.out _ _ ?_;clear hK K;refine no_ (N:=some 158) ?_;refine ru_ 14 HT_ ?_;refine done_ (done_of HT_.out (by kernel_rfl)) ?_;try go_wp2
        go_roundg k3
        case measure=>have:=HK1.out;have:=HK2.out;have:=HK3.out;omega
        case rel=>exact ⟨(y32),(wrap64 (x17_3+1)),rf_,H',⟨by have:=HK1.out;have:=HK2.out;have:=HK3.out;omega⟩,am_ (zr_ HO_8),am_ (zr_ HO34),am_ (zb_ BK1),⟨zl1_ HB GE1⟩⟩
       rw [if_neg c74] at H;have c74b0:=decide_eq_false c74;clear c74;have H':=Aside0.mk H;clear H;go_wp2
       go_loopg [12,19] k3 (fun kq v12 v19 w'=> ∃(x12_4:List (S76)) (x19_4:Int),v19= .int .i64 x19_4∧Aside0 (r16_Steps.l3 kq l0 l1 l2 t3 x9_1 x12_4 x19_4=some (r1,r2))∧Aside0 (kq≤k3)∧Aside0 (Kd.R k39 39 w' w.heap.size (fun _=>True) (.slice Ao30 t3.length co30) t3)∧Aside0 (Kd.R k76 76 w' w.heap.size (fun _=>True) v12 x12_4)∧Aside0 (w'.heap[gb1]?=some (.cells #[(.slice none 0 0), .int .i64 x2001_1] 51 (0,0)))∧Aside0 (Below w.heap.size w w'))
       case atStart=>exact ⟨(x12_3),(wrap64 ((t3.length:Int) - 1)),rf_,H',⟨Nat.le_refl _⟩,am_ (zr_ HO_8),am_ (zr_ HO_12),am_ (zb_ BK1),⟨zl1_ HB GE1⟩⟩
       case round=>
        clear H';obtain ⟨x12_4,x19_4,rfl,HA,HK4,HO_8,HO_12,BK1,HB⟩:=hrel
        cases gk with
        |zero=>exact absurd HA.out (by simp [r16_Steps.l3])
        |succ k4=>
         have H:=HA.out;clear HA;simp only [r16_Steps.l3] at H;by_cases c87:x19_4≥0;rotate_left
         ·rw [if_neg c87] at H;have c87b0:decide (0≤x19_4)=false:=decide_eq_false c87;clear c87;replace H:=zbd_ H;obtain ⟨t45,A99,H⟩:=H;try dsimp only at H
          have H':=Aside0.mk H;clear H;go_wp2_with (first|((with_reducible refine gate_callee (f:=87) rfl ?_);refine gl_ (some 196) Try.func87 #[.slice A0 l0.length c0, .slice A1 l1.length c1, .slice A2 l2.length c2] ?_;(with_reducible refine (r16_goes.calls k4 _ _ l0 _ _ l1 _ _ l2 t45 _ ?side1 ?side2 ?side3 ?side4 ?side5 ?side6 A99.out).mono ?_);(case side1=>exact zc_ (Kd.C_below HR0.out HB.out));(case side2=>exact HC0.out);(case side3=>exact zc_ (Kd.C_below HR1.out HB.out));(case side4=>exact HC1.out);(case side5=>exact zc_ (Kd.C_below HR2.out HB.out));(case side6=>exact HC2.out);rintro e w100 ⟨v46,rfl,ho0,hb⟩;refine ⟨_,rfl, ?_⟩;replace HO_8:=ob_ HO_8 hb;replace HO_12:=ob_ HO_12 hb;have HO47:=am_ (Kd.R_lower ho0 (below_size (zl1_ HB GE1)));replace BK1:=bb_ BK1 hb;replace HB:=am_ (below_step (zl1_ HB GE1) hb);(try clear hb ho0)))
          go_loopg [12,21] k4 (fun kq v12 v21 w'=> ∃(x12_5:List (S76)) (x21_5:Int),v21= .int .i64 x21_5∧Aside0 (r16_Steps.l4 kq x12_5 t45 x21_5=some (r1,r2))∧Aside0 (kq≤k4)∧Aside0 (Kd.R k76 76 w' w.heap.size (fun _=>True) v12 x12_5)∧Aside0 (Kd.R Kd.string 9 w' w.heap.size (fun _=>True) v46 t45)∧Aside0 (w'.heap[gb1]?=some (.cells #[(.slice none 0 0), .int .i64 x2001_1] 51 (0,0)))∧Aside0 (Below w.heap.size w w'))
          case atStart=>exact ⟨(x12_4),(0),rf_,H',⟨Nat.le_refl _⟩,am_ (zr_ HO_12),am_ (zr_ HO47),am_ (zb_ BK1),⟨zl1_ HB GE1⟩⟩
          case round=>
           clear H';obtain ⟨x12_5,x21_5,rfl,HA,HK5,HO_12,HO_20,BK1,HB⟩:=hrel
           cases gk with
           |zero=>exact absurd HA.out (by simp [r16_Steps.l4])
           |succ k5=>
            have H:=HA.out;clear HA;simp only [r16_Steps.l4] at H;by_cases c101:x21_5<(t45.length:Int);rotate_left
            ·rw [if_neg c101] at H;have c101b0:=decide_eq_false c101;clear c101;simp only [Option.some.injEq,Prod.mk.injEq] at H;obtain ⟨rfl,rfl⟩:=H;obtain ⟨Ao106,co106,eo106⟩:=Kd.R_slice HO_20.out;subst eo106;obtain ⟨Ao107,co107,eo107⟩:=Kd.R_slice HO_12.out;subst eo107;obtain ⟨hcz108_0,hcz108_1,hfz108_0,hfz108_1⟩:=y2_ BK1;go_wp2
             refine bodyPost_ret (results_cell_row rfl _ _ gb1 51 #[.slice Ao107 x12_5.length co107, .int .i64 0] (0,0) _ rfl (zw_ BK1) Try.underlying51 rfl (by kernel_rfl)) rfl ?_;exact ⟨_,by first|rfl|(simp [errW_none,errW_some]<;>rfl)|(simp [*,errW_none,errW_some]<;>rfl),zy_ HO_12 BK1,zl1_ HB GE1⟩
            rw [if_pos c101] at H;have c101b0:=decide_eq_true c101;clear c101;replace H:=zif_ H;obtain ⟨c102,H⟩:=H;have c102b0:=decide_eq_true c102;clear c102;replace H:=zif_ H;obtain ⟨c103,H⟩:=H;have LMc103:=Aside0.mk c103;clear c103;obtain ⟨y49,hy49⟩: ∃y_:List (S76),y_=(x12_5++ [(⟨4,rdOf ByteArray.empty t45 x21_5,(⟨#[]⟩:ByteArray),(⟨0,0,0⟩:S37)⟩:S76)]):=⟨_,rfl⟩;(first|replace H:=zsb_ hy49 H|rw [←hy49] at H);have Ny49:=Aside0.mk hy49;clear hy49;have H':=Aside0.mk H;clear H;obtain ⟨Ao104,co104,eo104⟩:=Kd.R_slice HO_20.out;subst eo104;obtain ⟨p48,q48,ad48,e48,hx48_0⟩:=zat_ (Kd.at_string (Kd.R_reads' HO_20.out).2.2 x21_5);cases e48
            go_wp2_with (first|((with_reducible refine gate_builtin (b:= .append) (xs:=#[.tmp 203, .tmp 209]) rfl ?_);at_builtin;refine Kd.R_append k76 (w0:=w) w.heap.size rfl (.tmp 203) (.tmp 209) 49 76 (.agg #[(.int .i64 0),(.string ⟨#[]⟩),(.string ⟨#[]⟩),(.int .i64 0),(.int .i64 0),(.int .i64 0)]) 64 rfl Try.underlying49 info76 rfl (by decide) (by omega) u12 x12_5 (⟨4,rdOf ByteArray.empty t45 x21_5,(⟨#[]⟩:ByteArray),(⟨0,0,0⟩:S37)⟩:S76) [.int .i64 4, .string (rdOf ByteArray.empty t45 x21_5), .string (⟨#[]⟩:ByteArray), .int .i64 0, .int .i64 0, .int .i64 0] (fun _=>True) (fun _=>False) rfl rfl ?aP (fun _ hk=>hk.elim) ?aF ?aO ?aB ?aS ?aL ?_;(case aP=>exact k76_mkM _ _ _ (⟨4,rdOf ByteArray.empty t45 x21_5,(⟨#[]⟩:ByteArray),(⟨0,0,0⟩:S37)⟩:S76));(case aB=>exact (zl1_ HB GE1));(case aF=>exact (fun _ _=>trivial));(case aO=>exact (zr_ HO_12));(case aS=>exact (below_size (zl1_ HB GE1)));(case aL=>have:=LMc103.out;omega);intro v50 w105 ho hb hg hat;rw [←Ny49.out] at ho;have n0_:=am_ (Kd.R_over' (zr_ HO_20) (Kd.R_typed (zr_ HO_12)) (by decide) hg);have n1_:=am_ (blk_grown (zb_ BK1) hg (Kd.R_ne HO_12.out BK1.out (by decide)));have n2_:=am_ (hb);have n3_:=am_ (ho);clear HO_20;clear BK1;clear HB;clear HO_12;have HO_20:=n0_;have BK1:=n1_;have HB:=n2_;have HO51:=n3_;clear n0_ n1_ n2_ n3_;clear ho hb hg hat))
            go_roundg k5
            case measure=>have:=HK1.out;have:=HK2.out;have:=HK3.out;have:=HK4.out;have:=HK5.out;omega
            case rel=>exact ⟨(y49),(wrap64 (x21_5+1)),rf_,H',⟨by have:=HK1.out;have:=HK2.out;have:=HK3.out;have:=HK4.out;have:=HK5.out;omega⟩,am_ (zr_ HO51),am_ (zr_ HO_20),am_ (zb_ BK1),⟨zl1_ HB GE1⟩⟩
         rw [if_pos c87] at H;have c87b0:decide (0≤x19_4)=true:=decide_eq_true c87;clear c87;replace H:=zif_ H;obtain ⟨c88,H⟩:=H;have c88b0:=decide_eq_true c88;clear c88;replace H:=zif_ H;obtain ⟨c89,H⟩:=H;have c89b0:=decide_eq_true c89;clear c89;replace H:=zbd_ H;obtain ⟨⟨t36,t37,t38⟩,A90,H⟩:=H;try dsimp only at H
         by_cases c91:(!(t36==((rd_T39 t3 x19_4).f2.f0))||(!(t37==((rd_T39 t3 x19_4).f2.f1))||(!(t38==((rd_T39 t3 x19_4).f2.f2)))))=true;rotate_left
         ·rw [if_neg c91] at H;have c91b0:(!(t36==((rd_T39 t3 x19_4).f2.f0))||(!(t37==((rd_T39 t3 x19_4).f2.f1))||(!(t38==((rd_T39 t3 x19_4).f2.f2)))))=false:=by simpa using c91
          clear c91;have H':=Aside0.mk H;clear H;try go_wp2
          replace HO_8:=am_ (Kd.R_drew HO_8.out);replace HO_12:=am_ (Kd.R_drew HO_12.out);replace BK1:=am_ (blk_drew BK1.out);replace HB:=am_ (below_drew1 HB.out);obtain ⟨p35,q35,ad35,e35,hx35_0,hx35_1,hx35_2,hx35_3,hx35_4⟩:=zat_ (at_T39 (Kd.R_reads' HO_8.out).2.2 x19_4);cases e35;obtain ⟨p39,q39,ad39,e39,hx39_0,hx39_1,hx39_2,hx39_3,hx39_4⟩:=zat_ (at_T39 (Kd.R_reads' HO_8.out).2.2 x19_4);obtain rfl:ad35=ad39:=(by injection e39);refine start_ (n:=13) (S:=fun w'=>w'.cell? (ad35.add ((x19_4).toNat*5))=some (.string ((rd_T39 t3 x19_4).f0))∧w'.cell? ⟨(ad35.add ((x19_4).toNat*5)).block,(ad35.add ((x19_4).toNat*5)).off+1,none⟩=some (.string ((rd_T39 t3 x19_4).f1))∧w'.cell? ⟨(ad35.add ((x19_4).toNat*5)).block,(ad35.add ((x19_4).toNat*5)).off+2,none⟩=some (.int .i64 ((rd_T39 t3 x19_4).f2.f0))∧w'.cell? ⟨(ad35.add ((x19_4).toNat*5)).block,(ad35.add ((x19_4).toNat*5)).off+3,none⟩=some (.int .i64 ((rd_T39 t3 x19_4).f2.f1))∧w'.cell? ⟨(ad35.add ((x19_4).toNat*5)).block,(ad35.add ((x19_4).toNat*5)).off+4,none⟩=some (.int .i64 ((rd_T39 t3 x19_4).f2.f2))) (ds:=[]) (bt_ 13 0) (by kernel_rfl) rfl rfl ⟨hx35_0,hx35_1,hx35_2,hx35_3,hx35_4⟩ (fun hHeld=> ?_);refine with_tabW r16_Steps.tab33 r16_Steps.bits33 (fun HT_ HW_=> ?_);generalize wr.drew=w97 at HO_8 HO_12 BK1 HB hx35_0 hx35_1 hx35_2 hx35_3 hx35_4 hx39_0 hx39_1 hx39_2 hx39_3 hx39_4 hHeld ⊢;refine ru_ 0 HT_ ?_;refine ru_ 1 HT_ ?_;refine ru_ 2 HT_ ?_;refine ru_ 4 HT_ ?_;refine ru_ 5 HT_ ?_;refine ru_ 7 HT_ ?_;refine ru_ 8 HT_ ?_
          refine ru_ 9 HT_ ?_;refine ru_ 10 HT_ ?_;refine rk_ 3 HT_ HW_ hHeld ?_;refine rk_ 11 HT_ HW_ hHeld ?_;refine on_ (i:=6) (N:=some 172) (bt_ 13 4095) HT_ (fun K hK=> ?_);refine gs_ Try.func86 #[.agg #[.string ((rd_T39 t3 x19_4).f0), .string ((rd_T39 t3 x19_4).f1), .int .i64 ((rd_T39 t3 x19_4).f2.f0), .int .i64 ((rd_T39 t3 x19_4).f2.f1), .int .i64 ((rd_T39 t3 x19_4).f2.f2)], .slice A2 l2.length c2, .bool x9_1] ?_
          with_reducible refine (r16_up.calls k4 ((rd_T39 t3 x19_4).f0) ((rd_T39 t3 x19_4).f1) ((rd_T39 t3 x19_4).f2.f0) ((rd_T39 t3 x19_4).f2.f1) ((rd_T39 t3 x19_4).f2.f2) _ _ l2 x9_1 t36 t37 t38 _ ?side1 ?side2 A90.out).mono ?_
          (case side1=>exact zc_ (Kd.C_below HR2.out HB.out));(case side2=>exact HC2.out);rintro e w98 ⟨rfl,hb⟩;have HS_:=And.intro hb hHeld;refine ⟨_,rfl, ?_⟩;replace HO_8:=ob_ HO_8 hb;replace HO_12:=ob_ HO_12 hb;replace BK1:=bb_ BK1 hb;replace HB:=am_ (below_step (zl1_ HB GE1) hb);(try clear hb);refine hK.out _ _ (hk_ HS_) (fun hHeld=> ?_);clear hK K;refine no_ (N:=some 172) ?_;refine ru_ 12 HT_ ?_;refine done_ (done_of HT_.out (by kernel_rfl)) ?_;try go_wp2
          go_roundg k4
          case measure=>have:=HK1.out;have:=HK2.out;have:=HK3.out;have:=HK4.out;omega
          case rel=>exact ⟨(x12_4),(wrap64 (x19_4 - 1)),rf_,H',⟨by have:=HK1.out;have:=HK2.out;have:=HK3.out;have:=HK4.out;omega⟩,am_ (zr_ HO_8),am_ (zr_ HO_12),am_ (zb_ BK1),⟨zl1_ HB GE1⟩⟩
         rw [if_pos c91] at H;have c91b0:(!(t36==((rd_T39 t3 x19_4).f2.f0))||(!(t37==((rd_T39 t3 x19_4).f2.f1))||(!(t38==((rd_T39 t3 x19_4).f2.f2)))))=true:=c91;clear c91;replace H:=zif_ H;obtain ⟨c92,H⟩:=H;have LMc92:=Aside0.mk c92;clear c92;obtain ⟨y42,hy42⟩: ∃y_:List (S76),y_=(x12_4++ [(⟨2,(rd_T39 t3 x19_4).f0,(⟨#[]⟩:ByteArray),(⟨(rd_T39 t3 x19_4).f2.f0,(rd_T39 t3 x19_4).f2.f1,(rd_T39 t3 x19_4).f2.f2⟩:S37)⟩:S76)]):=⟨_,rfl⟩;(first|replace H:=zsb_ hy42 H|rw [←hy42] at H);have Ny42:=Aside0.mk hy42;clear hy42;have H':=Aside0.mk H;clear H;try go_wp2
         replace HO_8:=am_ (Kd.R_drew HO_8.out);replace HO_12:=am_ (Kd.R_drew HO_12.out);replace BK1:=am_ (blk_drew BK1.out);replace HB:=am_ (below_drew1 HB.out);obtain ⟨p35,q35,ad35,e35,hx35_0,hx35_1,hx35_2,hx35_3,hx35_4⟩:=zat_ (at_T39 (Kd.R_reads' HO_8.out).2.2 x19_4);cases e35;obtain ⟨p39,q39,ad39,e39,hx39_0,hx39_1,hx39_2,hx39_3,hx39_4⟩:=zat_ (at_T39 (Kd.R_reads' HO_8.out).2.2 x19_4);obtain rfl:ad35=ad39:=(by injection e39);refine start_ (n:=13) (S:=fun w'=>w'.cell? (ad35.add ((x19_4).toNat*5))=some (.string ((rd_T39 t3 x19_4).f0))∧w'.cell? ⟨(ad35.add ((x19_4).toNat*5)).block,(ad35.add ((x19_4).toNat*5)).off+1,none⟩=some (.string ((rd_T39 t3 x19_4).f1))∧w'.cell? ⟨(ad35.add ((x19_4).toNat*5)).block,(ad35.add ((x19_4).toNat*5)).off+2,none⟩=some (.int .i64 ((rd_T39 t3 x19_4).f2.f0))∧w'.cell? ⟨(ad35.add ((x19_4).toNat*5)).block,(ad35.add ((x19_4).toNat*5)).off+3,none⟩=some (.int .i64 ((rd_T39 t3 x19_4).f2.f1))∧w'.cell? ⟨(ad35.add ((x19_4).toNat*5)).block,(ad35.add ((x19_4).toNat*5)).off+4,none⟩=some (.int .i64 ((rd_T39 t3 x19_4).f2.f2))) (ds:=[]) (bt_ 13 0) (by kernel_rfl) rfl rfl ⟨hx35_0,hx35_1,hx35_2,hx35_3,hx35_4⟩ (fun hHeld=> ?_);refine with_tabW r16_Steps.tab33 r16_Steps.bits33 (fun HT_ HW_=> ?_);generalize wr.drew=w93 at HO_8 HO_12 BK1 HB hx35_0 hx35_1 hx35_2 hx35_3 hx35_4 hx39_0 hx39_1 hx39_2 hx39_3 hx39_4 hHeld ⊢;refine ru_ 0 HT_ ?_;refine ru_ 1 HT_ ?_;refine ru_ 2 HT_ ?_;refine ru_ 4 HT_ ?_;refine ru_ 5 HT_ ?_;refine ru_ 7 HT_ ?_;refine ru_ 8 HT_ ?_
         refine ru_ 9 HT_ ?_;refine ru_ 10 HT_ ?_;refine rk_ 3 HT_ HW_ hHeld ?_;refine rk_ 11 HT_ HW_ hHeld ?_;refine on_ (i:=6) (N:=some 172) (bt_ 13 4095) HT_ (fun K hK=> ?_);refine gs_ Try.func86 #[.agg #[.string ((rd_T39 t3 x19_4).f0), .string ((rd_T39 t3 x19_4).f1), .int .i64 ((rd_T39 t3 x19_4).f2.f0), .int .i64 ((rd_T39 t3 x19_4).f2.f1), .int .i64 ((rd_T39 t3 x19_4).f2.f2)], .slice A2 l2.length c2, .bool x9_1] ?_
         with_reducible refine (r16_up.calls k4 ((rd_T39 t3 x19_4).f0) ((rd_T39 t3 x19_4).f1) ((rd_T39 t3 x19_4).f2.f0) ((rd_T39 t3 x19_4).f2.f1) ((rd_T39 t3 x19_4).f2.f2) _ _ l2 x9_1 t36 t37 t38 _ ?side1 ?side2 A90.out).mono ?_
         (case side1=>exact zc_ (Kd.C_below HR2.out HB.out));(case side2=>exact HC2.out);rintro e w94 ⟨rfl,hb⟩;have HS_:=And.intro hb hHeld;refine ⟨_,rfl, ?_⟩;replace HO_8:=ob_ HO_8 hb;replace HO_12:=ob_ HO_12 hb;replace BK1:=bb_ BK1 hb;replace HB:=am_ (below_step (zl1_ HB GE1) hb);(try clear hb);refine hK.out _ _ (hk_ HS_) (fun hHeld=> ?_);clear hK K;refine no_ (N:=some 172) ?_;refine ru_ 12 HT_ ?_;refine done_ (done_of HT_.out (by kernel_rfl)) ?_;try go_wp2
         replace HO_8:=am_ (Kd.R_drew HO_8.out);replace HO_12:=am_ (Kd.R_drew HO_12.out);replace BK1:=am_ (blk_drew BK1.out);replace HB:=am_ (below_drew1 HB.out);obtain ⟨p40,q40,ad40,e40,hx40_0,hx40_1,hx40_2,hx40_3,hx40_4⟩:=zat_ (at_T39 (Kd.R_reads' HO_8.out).2.2 x19_4);obtain rfl:ad35=ad40:=(by injection e40);obtain ⟨p41,q41,ad41,e41,hx41_0,hx41_1,hx41_2,hx41_3,hx41_4⟩:=zat_ (at_T39 (Kd.R_reads' HO_8.out).2.2 x19_4);obtain rfl:ad35=ad41:=(by injection e41);refine start_ (n:=15) (S:=fun w'=>w'.cell? (ad35.add ((x19_4).toNat*5))=some (.string ((rd_T39 t3 x19_4).f0))∧w'.cell? ⟨(ad35.add ((x19_4).toNat*5)).block,(ad35.add ((x19_4).toNat*5)).off+2,none⟩=some (.int .i64 ((rd_T39 t3 x19_4).f2.f0))∧w'.cell? ⟨(ad35.add ((x19_4).toNat*5)).block,(ad35.add ((x19_4).toNat*5)).off+3,none⟩=some (.int .i64 ((rd_T39 t3 x19_4).f2.f1))∧w'.cell? ⟨(ad35.add ((x19_4).toNat*5)).block,(ad35.add ((x19_4).toNat*5)).off+4,none⟩=some (.int .i64 ((rd_T39 t3 x19_4).f2.f2))) (ds:=[12,13]) (bt_ 15 0) (by kernel_rfl) rfl rfl ⟨hx40_0,hx40_2,hx40_3,hx40_4⟩ (fun hHeld=> ?_);refine with_tabW r16_Steps.tab34 r16_Steps.bits34 (fun HT_ HW_=> ?_);generalize w94.drew=w95 at HO_8 HO_12 BK1 HB hx40_0 hx40_1 hx40_2 hx40_3 hx40_4 hx41_0 hx41_1 hx41_2 hx41_3 hx41_4 hHeld ⊢;refine ru_ 0 HT_ ?_;refine ru_ 1 HT_ ?_;refine ru_ 2 HT_ ?_;refine ru_ 3 HT_ ?_;refine ru_ 4 HT_ ?_;refine ru_ 6 HT_ ?_;refine ru_ 7 HT_ ?_;refine ru_ 8 HT_ ?_;refine ru_ 9 HT_ ?_;refine rk_ 5 HT_ HW_ hHeld ?_;refine rk_ 10 HT_ HW_ hHeld ?_
         refine ru_ 11 HT_ ?_;refine last_ (i:=12) (N:=some 191) (bt_ 15 8191) rfl rfl (one_of HT_.out (by kernel_rfl)) (by decide) (fun K hK=> ?_);refine value_ (w1:= ?_) (v:= ?_) (by rfl) rfl ?_ ?_
         rotate_left 2
         ·go_simp
          constructor
          ·rfl
          rfl
         refine hK.out _ _ ?_;clear hK K;refine no_ (N:=some 191) ?_;refine last_ (i:=13) (N:=some 192) (bt_ 15 16383) rfl rfl (one_of HT_.out (by kernel_rfl)) (by decide) (fun K hK=> ?_);refine Kd.R_append_step k76 (w0:=w) w.heap.size (by rfl) (.tmp 179) (.tmp 191) 49 76 (.agg #[(.int .i64 0),(.string ⟨#[]⟩),(.string ⟨#[]⟩),(.int .i64 0),(.int .i64 0),(.int .i64 0)]) 64 rfl Try.underlying49 info76 rfl (by decide) (by omega) u12 x12_4 (⟨2,(rd_T39 t3 x19_4).f0,(⟨#[]⟩:ByteArray),(⟨(rd_T39 t3 x19_4).f2.f0,(rd_T39 t3 x19_4).f2.f1,(rd_T39 t3 x19_4).f2.f2⟩:S37)⟩:S76) [.int .i64 2, .string ((rd_T39 t3 x19_4).f0), .string (⟨#[]⟩:ByteArray), .int .i64 ((rd_T39 t3 x19_4).f2.f0), .int .i64 ((rd_T39 t3 x19_4).f2.f1), .int .i64 ((rd_T39 t3 x19_4).f2.f2)] (fun _=>True) (fun _=>False) rfl rfl ?aP (fun _ hk=>hk.elim) ?aF ?aO ?aB ?aS ?aL ?_;(case aP=>exact k76_mkM _ _ _ (⟨2,(rd_T39 t3 x19_4).f0,(⟨#[]⟩:ByteArray),(⟨(rd_T39 t3 x19_4).f2.f0,(rd_T39 t3 x19_4).f2.f1,(rd_T39 t3 x19_4).f2.f2⟩:S37)⟩:S76));(case aB=>exact (zl1_ HB GE1));(case aF=>exact (fun _ _=>trivial));(case aO=>exact (zr_ HO_12));(case aS=>exact (below_size (zl1_ HB GE1)));(case aL=>have:=LMc92.out;omega);intro v43 w96 ho hb hg hat;rw [←Ny42.out] at ho;have n0_:=am_ (Kd.R_over' (zr_ HO_8) (Kd.R_typed (zr_ HO_12)) (by decide) hg);have n1_:=am_ (blk_grown (zb_ BK1) hg (Kd.R_ne HO_12.out BK1.out (by decide)));have n2_:=am_ (hb);have n3_:=am_ (ho);clear HO_8 BK1 HB HO_12;have HO_8:=n0_;have BK1:=n1_;have HB:=n2_;have HO44:=n3_
         clear n0_ n1_ n2_ n3_ ho hb hg hat;refine hK.out _ _ ?_;clear hK K;refine no_ (N:=some 192) ?_;refine ru_ 14 HT_ ?_;refine done_ (done_of HT_.out (by kernel_rfl)) ?_;try go_wp2
         go_roundg k4
         case measure=>have:=HK1.out;have:=HK2.out;have:=HK3.out;have:=HK4.out;omega
         case rel=>exact ⟨(y42),(wrap64 (x19_4 - 1)),rf_,H',⟨by have:=HK1.out;have:=HK2.out;have:=HK3.out;have:=HK4.out;omega⟩,am_ (zr_ HO_8),am_ (zr_ HO44),am_ (zb_ BK1),⟨zl1_ HB GE1⟩⟩
def fidx {α:Type} (p:α→Bool):List α→Int→Int
 |[],_=> -1
 |x::l,i=>if p x=true then i else fidx p l (i+1)
theorem fidx_drop {α:Type} (p:α→Bool) (z:α) (l:List α) (i:Nat) (h:i<l.length):fidx p (l.drop i) i=if p (l.getD i z)=true then (i:Int) else fidx p (l.drop (i+1)) ((i+1:Nat):Int):=by
 rw [List.drop_eq_getElem_cons h,List.getD_eq_getElem?_getD,List.getElem?_eq_getElem h]
 rfl
def itemCells (x:S79):Array Value:=#[.string x.f0, .string x.f1, .int .i64 x.f2.f0, .int .i64 x.f2.f1, .int .i64 x.f2.f2, .int .i64 x.f3.f0, .int .i64 x.f3.f1, .int .i64 x.f3.f2, .int .i64 x.f4.f0, .int .i64 x.f4.f1, .int .i64 x.f4.f2, .int .i64 x.f5]
set_option maxHeartbeats 1000000 in
set_option maxRecDepth 100000 in
theorem idxItem_calls (g:Nat) (lb:Array Value) (p:S79→Bool) (eg: ∀args w,(callFunc g args).run Try.prog w= .ok (.enter g args) w) (w:World)
    (hp: ∀W x,Below w.heap.size w W→Calls Try.prog g (#[.agg (itemCells x)]++lb) W fun e w'=>e= .returned (.bool (p x))∧Below W.heap.size W w')
    (A:Option Addr) (c:Nat) (l:List S79) (hr0:Kd.C k79 w A l.length l) (hc0:l.length≤c):
    Calls Try.prog 121 #[.slice A l.length c, .func (.func g) #[] lb] w fun e w'=>e= .returned (.int .i64 (fidx p l 0))∧Below w.heap.size w w':=by
  have hu79:=Try.underlying79;have HR0:=Aside0.mk hr0;have HP:=Aside0.mk hp;have HEG:=Aside0.mk eg;have hm:l.length≤9223372036854775807:=hr0.2.1;clear hr0 hp eg;go_enter Try.func121,Try.ntmps121;go_wp2
  go_loopg [5,8] l.length (fun kq s5 s8 wr=> ∃i:Nat,i≤l.length∧l.length - i≤kq∧s8= .int .i64 i∧Aside0 (Below w.heap.size w wr)∧Aside0 (fidx p l 0=fidx p (l.drop i) i))
  case atStart=>exact ⟨0,by omega,by omega,rfl,⟨Below.refl _ _⟩,⟨rfl⟩⟩
  case round=>
    obtain ⟨i,hi,hg,rfl,HB,HF⟩:=hrel;by_cases hlt:i<l.length;rotate_left
    · obtain rfl : i = l.length := by omega
      go_wp2
      go_ret
      refine ⟨?_,HB.out⟩
      rw [HF.out,List.drop_length]
      rfl


    have hltz:(i:Int)<(l.length:Int):=by omega
    obtain ⟨ad,e1,h0,h1,h2,h3,h4,h5,h6,h7,h8,h9,h10,h11⟩:=at_T79 HR0.out (i:Int) (by omega) (by omega);cases e1;simp only [Int.toNat_natCast] at h0 h1 h2 h3 h4 h5 h6 h7 h8 h9 h10 h11;replace h0:=zx_ HB h0;replace h1:=zx_ HB h1;replace h2:=zx_ HB h2;replace h3:=zx_ HB h3;replace h4:=zx_ HB h4;replace h5:=zx_ HB h5;replace h6:=zx_ HB h6;replace h7:=zx_ HB h7;replace h8:=zx_ HB h8;replace h9:=zx_ HB h9;replace h10:=zx_ HB h10;replace h11:=zx_ HB h11;have hd:Aside0 _:=⟨fidx_drop p z79 l i hlt⟩;have HC:=am_ (HP.out wr (rd_T79 l i) HB.out);generalize hy:rd_T79 l i=y at h0 h1 h2 h3 h4 h5 h6 h7 h8 h9 h10 h11 HC;have hq:p (l.getD i z79)=p y:=by rw [←hy];simp [rd_T79]
    have HQ:=Aside0.mk hq;clear hy hq;have eg:=HEG.out
    cases hb:p y with
    | true =>
      rw [hb] at HC HQ;clear hb;go_wp2_with (go_at_fn g;refine HC.out.mono ?_;rintro e w' ⟨rfl,hb'⟩;have HB':=am_ (below_step HB.out hb');clear hb')
      go_ret
      refine ⟨?_,HB'.out⟩;rw [HF.out,hd.out,HQ.out]
      rfl
    | false =>
      rw [hb] at HC HQ;clear hb;go_wp2_with (go_at_fn g;refine HC.out.mono ?_;rintro e w' ⟨rfl,hb'⟩;have HB':=am_ (below_step HB.out hb');clear hb')
      go_roundg (l.length - (i+1))
      case measure=>omega
      case rel=>exact ⟨i+1,by omega,by omega,by go_num,HB',⟨by rw [HF.out,hd.out,HQ.out];rfl⟩⟩
def wantCells (x:S39):Array Value:=#[.string x.f0, .string x.f1, .int .i64 x.f2.f0, .int .i64 x.f2.f1, .int .i64 x.f2.f2]
set_option maxHeartbeats 1000000 in
set_option maxRecDepth 100000 in
theorem idxWant_calls (g:Nat) (lb:Array Value) (p:S39→Bool) (eg: ∀args w,(callFunc g args).run Try.prog w= .ok (.enter g args) w) (w:World)
    (hp: ∀W x,Below w.heap.size w W→Calls Try.prog g (#[.agg (wantCells x)]++lb) W fun e w'=>e= .returned (.bool (p x))∧Below W.heap.size W w')
    (A:Option Addr) (c:Nat) (l:List S39) (hr0:Kd.C k39 w A l.length l) (hc0:l.length≤c):
    Calls Try.prog 112 #[.slice A l.length c, .func (.func g) #[] lb] w fun e w'=>e= .returned (.int .i64 (fidx p l 0))∧Below w.heap.size w w':=by
  have hu39:=Try.underlying39;have HR0:=Aside0.mk hr0;have HP:=Aside0.mk hp;have HEG:=Aside0.mk eg;have hm:l.length≤9223372036854775807:=hr0.2.1;clear hr0 hp eg;go_enter Try.func112,Try.ntmps112;go_wp2
  go_loopg [5,8] l.length (fun kq s5 s8 wr=> ∃i:Nat,i≤l.length∧l.length - i≤kq∧s8= .int .i64 i∧Aside0 (Below w.heap.size w wr)∧Aside0 (fidx p l 0=fidx p (l.drop i) i))
  case atStart=>exact ⟨0,by omega,by omega,rfl,⟨Below.refl _ _⟩,⟨rfl⟩⟩
  case round=>
    obtain ⟨i,hi,hg,rfl,HB,HF⟩:=hrel;by_cases hlt:i<l.length;rotate_left
    · obtain rfl : i = l.length := by omega
      go_wp2
      go_ret
      refine ⟨?_,HB.out⟩
      rw [HF.out,List.drop_length]
      rfl


    have hltz:(i:Int)<(l.length:Int):=by omega
    obtain ⟨ad,e1,h0,h1,h2,h3,h4⟩:=at_T39 HR0.out (i:Int) (by omega) (by omega);cases e1;simp only [Int.toNat_natCast] at h0 h1 h2 h3 h4;replace h0:=zx_ HB h0;replace h1:=zx_ HB h1;replace h2:=zx_ HB h2;replace h3:=zx_ HB h3;replace h4:=zx_ HB h4;have hd:Aside0 _:=⟨fidx_drop p z39 l i hlt⟩;have HC:=am_ (HP.out wr (rd_T39 l i) HB.out);generalize hy:rd_T39 l i=y at h0 h1 h2 h3 h4 HC;have hq:p (l.getD i z39)=p y:=by rw [←hy];simp [rd_T39]
    have HQ:=Aside0.mk hq;clear hy hq;have eg:=HEG.out
    cases hb:p y with
    | true =>
      rw [hb] at HC HQ;clear hb;go_wp2_with (go_at_fn g;refine HC.out.mono ?_;rintro e w' ⟨rfl,hb'⟩;have HB':=am_ (below_step HB.out hb');clear hb')
      go_ret
      refine ⟨?_,HB'.out⟩;rw [HF.out,hd.out,HQ.out]
      rfl
    | false =>
      rw [hb] at HC HQ;clear hb;go_wp2_with (go_at_fn g;refine HC.out.mono ?_;rintro e w' ⟨rfl,hb'⟩;have HB':=am_ (below_step HB.out hb');clear hb')
      go_roundg (l.length - (i+1))
      case measure=>omega
      case rel=>exact ⟨i+1,by omega,by omega,by go_num,HB',⟨by rw [HF.out,hd.out,HQ.out];rfl⟩⟩
set_option maxHeartbeats 1000000 in
set_option maxRecDepth 100000 in
theorem wantFind1_calls (W:World) (b:Nat) (nm:ByteArray) (hb:W.heap[b]?=some (.cells #[.string nm] 9 (0,0))) (x:S39):
  Calls Try.prog 113 #[.agg (wantCells x), .pointer (some ⟨b,0,none⟩)] W fun e w'=>e= .returned (.bool (x.f0.toList==nm.toList))∧Below W.heap.size W w':=by
 unfold wantCells
 have hu39:=Try.underlying39
 have h0:=(blk_cell hb 0).trans rfl
 have hl:b<W.heap.size:=blk_lt hb
 clear hb
 go_enter Try.func113,Try.ntmps113
 go_wp2
 go_ret
 exact ⟨rfl,by repeat (first|(with_reducible first|exact Below.refl _ _|apply below_alloc|apply pw_below_drewN|apply below_drew1))⟩
def wplace (l:List (S39)) (a1:ByteArray):Int:=fidx (fun x=>x.f0.toList==a1.toList) l 0
set_option maxHeartbeats 1000000 in
set_option maxRecDepth 100000 in
theorem wantFind_calls (A0:Option Addr) (c0:Nat) (l0:List (S39)) (a1:ByteArray) (w:World) (hr0:Kd.C k39 w A0 l0.length l0) (hc0:l0.length≤c0):
  Calls Try.prog 73 #[.agg #[.slice A0 l0.length c0], .string a1] w fun e w'=>e= .returned (.int .i64 (wplace l0 a1))∧Below w.heap.size w w':=by
 have hu110:=Try.underlying110;obtain ⟨W1,hW1⟩: ∃W1,W1=(w.alloc (.cells #[.slice A0 l0.length c0] 110)).alloc (.cells #[.string a1] 9):=⟨_,rfl⟩;have hs1:(w.alloc (.cells #[.slice A0 l0.length c0] 110)).heap.size=w.heap.size+1:=by simp
 have hn:W1.heap[w.heap.size+1]?=some (.cells #[.string a1] 9 (0,0)):=by rw [hW1,←hs1];exact blk_new _ _
 have hB:Below w.heap.size w W1:=by rw [hW1];exact below_alloc (below_alloc (Below.refl _ _) _) _
 have hr:fidx (fun x:S39=>x.f0.toList==a1.toList) l0 0=wplace l0 a1:=rfl;have HC:=am_ (idxWant_calls 113 #[.pointer (some ⟨w.heap.size+1,0,none⟩)] (fun x=>x.f0.toList==a1.toList) (enters_of Try.func113 (by kernel_rfl) rfl) W1 (fun W x hb=>wantFind1_calls W (w.heap.size+1) a1 (blk_below hn hb) x) A0 c0 l0 (Kd.C_below hr0 hB) hc0);rw [hr] at HC;generalize wplace l0 a1=r at HC ⊢;have HW:=Aside0.mk hW1;have HB:=Aside0.mk hB;clear hr0 hr hW1 hn hB hs1;go_enter Try.func73,Try.ntmps73;go_wp2_with fail
 rw [←HW.out];refine HC.out.mono ?_;rintro e w' ⟨rfl,hb⟩;have HB':=am_ (below_step HB.out hb);clear hb;go_wp2
 go_ret
 exact ⟨rfl,HB'.out⟩


def vec_Le.f (a0_0:Int) (a0_1:Int) (a0_2:Int) (a1_0:Int) (a1_1:Int) (a1_2:Int):Option (Bool):=if a0_0≤a1_0 then (if a0_1≤a1_1 then (some (decide (a0_2≤a1_2))) else (some false)) else (some false)
set_option maxHeartbeats 8000000 in
set_option maxRecDepth 100000 in
theorem vec_Le.calls (a0_0:Int) (a0_1:Int) (a0_2:Int) (a1_0:Int) (a1_1:Int) (a1_2:Int) (r:Bool) (w:World) (h:vec_Le.f a0_0 a0_1 a0_2 a1_0 a1_1 a1_2=some r):
  Calls Try.prog 114 #[.agg #[.int .i64 a0_0, .int .i64 a0_1, .int .i64 a0_2], .agg #[.int .i64 a1_0, .int .i64 a1_1, .int .i64 a1_2]] w fun e w'=>e= .returned (.bool r)∧Below w.heap.size w w':=by
 have hu37:=Try.underlying37;have HB:=am_ (Below.refl w.heap.size w);have H:(if a0_0≤a1_0 then (if a0_1≤a1_1 then (some (decide (a0_2≤a1_2))) else (some false)) else (some false))=some r:=h;clear h;by_cases c3:a0_0≤a1_0;rotate_left
 ·rw [if_neg c3] at H;have c3b0:=decide_eq_false c3;clear c3;obtain rfl:=Option.some.inj H;go_enter Try.func114,Try.ntmps114;go_wp2_with (first|((with_reducible refine gate_dst (N:=2) rfl ?_);refine bx_ (N:=2) (cs:=#[.int .i64 a0_0, .int .i64 a0_1, .int .i64 a0_2]) (t:=37) ?_;intro gb1 hg w15 hbox hb;have BK1:=am_ (hbox);have GE1:=am_ ((zg0_ HB hg:w.heap.size≤gb1));replace HB:=am_ (below_step (zl0_ HB) hb);clear hb hbox hg)|((with_reducible refine gate_dst (N:=3) rfl ?_);refine bx_ (N:=3) (cs:=#[.int .i64 a1_0, .int .i64 a1_1, .int .i64 a1_2]) (t:=37) ?_;intro gb2 hg w16 hbox hb;have BK2:=am_ (hbox);have GE2:=am_ ((zg1_ HB GE1 hg:w.heap.size≤gb2));replace HB:=am_ (below_step (zl1_ HB GE1) hb);have NB1_2:=am_ ((zn_ BK1 hg:gb1≠gb2));have NB2_1:=am_ ((zm_ BK1 hg:gb2≠gb1));replace BK1:=bb_ BK1 hb;clear hb hbox hg;have hnb17:=NB1_2.out;have hnc17:=NB2_1.out;obtain ⟨hcz18_0,hcz18_1,hcz18_2,hfz18_0,hfz18_1,hfz18_2⟩:=y3_ BK1;obtain ⟨hcz19_0,hcz19_1,hcz19_2⟩:=x3_ BK2;have hfz19_0:=blk_frozen BK2.out 0;have hfz19_1:=blk_frozen BK2.out 1;have hfz19_2:=blk_frozen BK2.out 2))
  go_ret
  exact ⟨by first|rfl|(simp [errW_none,errW_some]<;>rfl)|(simp [*,errW_none,errW_some]<;>rfl),zl2_ HB GE1 GE2⟩

 rw [if_pos c3] at H;have c3b0:=decide_eq_true c3;clear c3;by_cases c4:a0_1≤a1_1
 ·rw [if_pos c4] at H;have c4b0:=decide_eq_true c4;clear c4;obtain rfl:=Option.some.inj H;go_enter Try.func114,Try.ntmps114;go_wp2_with (first|((with_reducible refine gate_dst (N:=2) rfl ?_);refine bx_ (N:=2) (cs:=#[.int .i64 a0_0, .int .i64 a0_1, .int .i64 a0_2]) (t:=37) ?_;intro gb1 hg w5 hbox hb;have BK1:=am_ (hbox);have GE1:=am_ ((zg0_ HB hg:w.heap.size≤gb1));replace HB:=am_ (below_step (zl0_ HB) hb);clear hb hbox hg)|((with_reducible refine gate_dst (N:=3) rfl ?_);refine bx_ (N:=3) (cs:=#[.int .i64 a1_0, .int .i64 a1_1, .int .i64 a1_2]) (t:=37) ?_;intro gb2 hg w6 hbox hb;have BK2:=am_ (hbox);have GE2:=am_ ((zg1_ HB GE1 hg:w.heap.size≤gb2));replace HB:=am_ (below_step (zl1_ HB GE1) hb);have NB1_2:=am_ ((zn_ BK1 hg:gb1≠gb2));have NB2_1:=am_ ((zm_ BK1 hg:gb2≠gb1));replace BK1:=bb_ BK1 hb;clear hb hbox hg;have hnb7:=NB1_2.out;have hnc7:=NB2_1.out;obtain ⟨hcz8_0,hcz8_1,hcz8_2,hfz8_0,hfz8_1,hfz8_2⟩:=y3_ BK1;obtain ⟨hcz9_0,hcz9_1,hcz9_2⟩:=x3_ BK2;have hfz9_0:=blk_frozen BK2.out 0;have hfz9_1:=blk_frozen BK2.out 1;have hfz9_2:=blk_frozen BK2.out 2))
  go_ret
  exact ⟨by first|rfl|(simp [errW_none,errW_some]<;>rfl)|(simp [*,errW_none,errW_some]<;>rfl),zl2_ HB GE1 GE2⟩
 rw [if_neg c4] at H;have c4b0:=decide_eq_false c4;clear c4;obtain rfl:=Option.some.inj H;go_enter Try.func114,Try.ntmps114;go_wp2_with (first|((with_reducible refine gate_dst (N:=2) rfl ?_);refine bx_ (N:=2) (cs:=#[.int .i64 a0_0, .int .i64 a0_1, .int .i64 a0_2]) (t:=37) ?_;intro gb1 hg w10 hbox hb;have BK1:=am_ (hbox);have GE1:=am_ ((zg0_ HB hg:w.heap.size≤gb1));replace HB:=am_ (below_step (zl0_ HB) hb);clear hb hbox hg)|((with_reducible refine gate_dst (N:=3) rfl ?_);refine bx_ (N:=3) (cs:=#[.int .i64 a1_0, .int .i64 a1_1, .int .i64 a1_2]) (t:=37) ?_;intro gb2 hg w11 hbox hb;have BK2:=am_ (hbox);have GE2:=am_ ((zg1_ HB GE1 hg:w.heap.size≤gb2));replace HB:=am_ (below_step (zl1_ HB GE1) hb);have NB1_2:=am_ ((zn_ BK1 hg:gb1≠gb2));have NB2_1:=am_ ((zm_ BK1 hg:gb2≠gb1));replace BK1:=bb_ BK1 hb;clear hb hbox hg;have hnb12:=NB1_2.out;have hnc12:=NB2_1.out;obtain ⟨hcz13_0,hcz13_1,hcz13_2,hfz13_0,hfz13_1,hfz13_2⟩:=y3_ BK1;obtain ⟨hcz14_0,hcz14_1,hcz14_2⟩:=x3_ BK2;have hfz14_0:=blk_frozen BK2.out 0;have hfz14_1:=blk_frozen BK2.out 1;have hfz14_2:=blk_frozen BK2.out 2))
 go_ret
 exact ⟨by first|rfl|(simp [errW_none,errW_some]<;>rfl)|(simp [*,errW_none,errW_some]<;>rfl),zl2_ HB GE1 GE2⟩
def vec_Most.f:Option (Int×Int×Int):=some (1099511627776,1099511627776,1099511627776)
set_option maxHeartbeats 8000000 in
set_option maxRecDepth 100000 in
theorem vec_Most.calls (r1:Int) (r2:Int) (r3:Int) (w:World) (h:vec_Most.f=some (r1,r2,r3)):
  Calls Try.prog 125 #[] w fun e w'=>e= .returned (.agg #[.int .i64 r1, .int .i64 r2, .int .i64 r3])∧Below w.heap.size w w':=by
 have hu37:=Try.underlying37;have HB:=am_ (Below.refl w.heap.size w);have H:(some (1099511627776,1099511627776,1099511627776))=some (r1,r2,r3):=h;clear h;simp only [Option.some.injEq,Prod.mk.injEq] at H;obtain ⟨rfl,rfl,rfl⟩:=H;go_enter Try.func125,Try.ntmps125;go_wp2_with (first|((with_reducible refine gate_dst (N:=0) rfl ?_);refine bx_ (N:=0) (cs:=#[.int .i64 0, .int .i64 0, .int .i64 0]) (t:=37) ?_;intro gb1 hg w1 hbox hb;have BK1:=am_ (hbox);have GE1:=am_ ((zg0_ HB hg:w.heap.size≤gb1));replace HB:=am_ (below_step (zl0_ HB) hb);clear hb hbox hg;obtain ⟨hcz2_0,hcz2_1,hcz2_2⟩:=x3_ BK1;have hfz2_0:=blk_frozen BK1.out 0;have hfz2_1:=blk_frozen BK1.out 1;have hfz2_2:=blk_frozen BK1.out 2))
 refine bodyPost_ret (results_cell_row rfl _ _ gb1 37 #[.int .i64 1099511627776, .int .i64 1099511627776, .int .i64 1099511627776] (0,0) _ rfl (zw_ BK1) Try.underlying37 rfl (by kernel_rfl)) rfl ?_;exact ⟨by first|rfl|(simp [errW_none,errW_some]<;>rfl)|(simp [*,errW_none,errW_some]<;>rfl),zl1_ HB GE1⟩

def vec_May.f (a0_0:Int) (a0_1:Int) (a0_2:Int):Option (Bool):=(vec_Le.f 0 0 0 a0_0 a0_1 a0_2).bind fun t2=>(if t2=true then ((vec_Most.f).bind fun bt3=>((vec_Le.f a0_0 a0_1 a0_2 bt3.1 bt3.2.1 bt3.2.2).bind fun t6=>(some t6))) else (some false))
def vec_May.T1:Bool×List (List Nat×List Nat):=(true,[([],[]),([],[]),([0,1],[0,1]),([2,2],[2]),([3],[3]),([3,3],[3]),([4,5,5,3],[3,4,5]),([3,6],[3,6]),([7,6,0,1,2,3,4,5,6,7],[7])])
def vec_May.B1:List Nat:=[0,0,3,7,15,15,63,127,255]
theorem vec_May.tab1:rtab .any (opsOf Try.f111 1)=vec_May.T1:=by kernel_rfl
theorem vec_May.bits1:waitsOk vec_May.T1.2 vec_May.B1=true:=by kernel_rfl
set_option maxHeartbeats 8000000 in
set_option maxRecDepth 100000 in
theorem vec_May.calls (a0_0:Int) (a0_1:Int) (a0_2:Int) (r:Bool) (w:World) (h:vec_May.f a0_0 a0_1 a0_2=some r):
  Calls Try.prog 111 #[.agg #[.int .i64 a0_0, .int .i64 a0_1, .int .i64 a0_2]] w fun e w'=>e= .returned (.bool r)∧Below w.heap.size w w':=by
 have hu37:=Try.underlying37;have HB:=am_ (Below.refl w.heap.size w);have H:((vec_Le.f 0 0 0 a0_0 a0_1 a0_2).bind fun t2=>(if t2=true then ((vec_Most.f).bind fun bt3=>((vec_Le.f a0_0 a0_1 a0_2 bt3.1 bt3.2.1 bt3.2.2).bind fun t6=>(some t6))) else (some false)))=some r:=h;clear h;replace H:=zbd_ H;obtain ⟨t2,A2,H⟩:=H;try dsimp only at H
 by_cases c3:t2=true;rotate_left
 ·replace c3:=Bool.eq_false_iff.mpr c3;subst c3;rw [if_neg (show¬(false=true) by decide)] at H;obtain rfl:=Option.some.inj H;go_enter Try.func111,Try.ntmps111;try go_wp2_with (first|((with_reducible refine gate_dst (N:=1) rfl ?_);refine bx_ (N:=1) (cs:=#[.int .i64 a0_0, .int .i64 a0_1, .int .i64 a0_2]) (t:=37) ?_;intro gb1 hg w11 hbox hb;have BK1:=am_ (hbox);have GE1:=am_ ((zg0_ HB hg:w.heap.size≤gb1));replace HB:=am_ (below_step (zl0_ HB) hb);clear hb hbox hg))
  replace BK1:=am_ (blk_drew BK1.out);replace HB:=am_ (below_drew1 HB.out);refine start_ (n:=9) (S:=fun w'=>w'.cell? ⟨gb1,0,none⟩=some (.int .i64 a0_0)∧w'.cell? ⟨gb1,1,none⟩=some (.int .i64 a0_1)∧w'.cell? ⟨gb1,2,none⟩=some (.int .i64 a0_2)) (ds:=[]) (bs_ 9 0) (by kernel_rfl) rfl rfl ⟨(blk_cell BK1.out 0).trans rfl,(blk_cell BK1.out 1).trans rfl,(blk_cell BK1.out 2).trans rfl⟩ (fun hHeld=> ?_);refine with_tabW vec_May.tab1 vec_May.bits1 (fun HT_ HW_=> ?_);generalize w11.drew=w12 at BK1 HB hHeld ⊢;refine qu_ HT_ ?_;refine qk_ HT_ HW_ hHeld ?_;refine on_ (i:=2) (N:=some 5) (bs_ 9 3) HT_ (fun K hK=> ?_);refine gs_ Try.func114 #[.agg #[.int .i64 0, .int .i64 0, .int .i64 0], .agg #[.int .i64 a0_0, .int .i64 a0_1, .int .i64 a0_2]] ?_
  with_reducible refine (vec_Le.calls 0 0 0 a0_0 a0_1 a0_2 false _ A2.out).mono ?_
  rintro e w13 ⟨rfl,hb⟩;refine ⟨_,rfl, ?_⟩;replace BK1:=bb_ BK1 hb;replace HB:=am_ (below_step (zl1_ HB GE1) hb);(try clear hb);refine hK.out _ _ ⟨(blk_cell BK1.out 0).trans rfl,(blk_cell BK1.out 1).trans rfl,(blk_cell BK1.out 2).trans rfl⟩ (fun hHeld=> ?_);clear hK K;refine no_ (N:=some 5) ?_;(iterate 6 first|refine qn_ HT_ ?_|refine qu_ HT_ ?_);refine done_ (done_of HT_.out (by kernel_rfl)) ?_;try go_wp2
  go_ret
  exact ⟨by first|rfl|(simp [errW_none,errW_some]<;>rfl)|(simp [*,errW_none,errW_some]<;>rfl),zl1_ HB GE1⟩

 subst c3;rw [if_pos rfl] at H;replace H:=zbd_ H;obtain ⟨⟨t3,t4,t5⟩,A4,H⟩:=H;try dsimp only at H
 replace H:=zbd_ H;obtain ⟨t6,A5,H⟩:=H;try dsimp only at H
 obtain rfl:=Option.some.inj H;go_enter Try.func111,Try.ntmps111;try go_wp2_with (first|((with_reducible refine gate_dst (N:=1) rfl ?_);refine bx_ (N:=1) (cs:=#[.int .i64 a0_0, .int .i64 a0_1, .int .i64 a0_2]) (t:=37) ?_;intro gb1 hg w6 hbox hb;have BK1:=am_ (hbox);have GE1:=am_ ((zg0_ HB hg:w.heap.size≤gb1));replace HB:=am_ (below_step (zl0_ HB) hb);clear hb hbox hg))
 replace BK1:=am_ (blk_drew BK1.out);replace HB:=am_ (below_drew1 HB.out);refine start_ (n:=9) (S:=fun w'=>w'.cell? ⟨gb1,0,none⟩=some (.int .i64 a0_0)∧w'.cell? ⟨gb1,1,none⟩=some (.int .i64 a0_1)∧w'.cell? ⟨gb1,2,none⟩=some (.int .i64 a0_2)) (ds:=[]) (bs_ 9 0) (by kernel_rfl) rfl rfl ⟨(blk_cell BK1.out 0).trans rfl,(blk_cell BK1.out 1).trans rfl,(blk_cell BK1.out 2).trans rfl⟩ (fun hHeld=> ?_);refine with_tabW vec_May.tab1 vec_May.bits1 (fun HT_ HW_=> ?_);generalize w6.drew=w7 at BK1 HB hHeld ⊢;refine qu_ HT_ ?_;refine qk_ HT_ HW_ hHeld ?_;refine on_ (i:=2) (N:=some 5) (bs_ 9 3) HT_ (fun K hK=> ?_);refine gs_ Try.func114 #[.agg #[.int .i64 0, .int .i64 0, .int .i64 0], .agg #[.int .i64 a0_0, .int .i64 a0_1, .int .i64 a0_2]] ?_
 with_reducible refine (vec_Le.calls 0 0 0 a0_0 a0_1 a0_2 true _ A2.out).mono ?_
 rintro e w8 ⟨rfl,hb⟩;refine ⟨_,rfl, ?_⟩;replace BK1:=bb_ BK1 hb;replace HB:=am_ (below_step (zl1_ HB GE1) hb);(try clear hb);refine hK.out _ _ ⟨(blk_cell BK1.out 0).trans rfl,(blk_cell BK1.out 1).trans rfl,(blk_cell BK1.out 2).trans rfl⟩ (fun hHeld=> ?_);clear hK K;refine no_ (N:=some 5) ?_;refine qu_ HT_ ?_;refine qk_ HT_ HW_ hHeld ?_;refine on_ (i:=5) (N:=some 8) (bs_ 9 6) HT_ (fun K hK=> ?_);refine gs_ Try.func125 #[] ?_
 with_reducible refine (vec_Most.calls t3 t4 t5 _ A4.out).mono ?_
 rintro e w9 ⟨rfl,hb⟩;refine ⟨_,rfl, ?_⟩;replace BK1:=bb_ BK1 hb;replace HB:=am_ (below_step (zl1_ HB GE1) hb);(try clear hb);refine hK.out _ _ ⟨(blk_cell BK1.out 0).trans rfl,(blk_cell BK1.out 1).trans rfl,(blk_cell BK1.out 2).trans rfl⟩ (fun hHeld=> ?_);clear hK K;refine no_ (N:=some 8) ?_;refine on_ (i:=6) (N:=some 9) (bs_ 9 7) HT_ (fun K hK=> ?_);refine gs_ Try.func114 #[.agg #[.int .i64 a0_0, .int .i64 a0_1, .int .i64 a0_2], .agg #[.int .i64 t3, .int .i64 t4, .int .i64 t5]] ?_
 with_reducible refine (vec_Le.calls a0_0 a0_1 a0_2 t3 t4 t5 t6 _ A5.out).mono ?_
 rintro e w10 ⟨rfl,hb⟩;refine ⟨_,rfl, ?_⟩;replace BK1:=bb_ BK1 hb;replace HB:=am_ (below_step (zl1_ HB GE1) hb);(try clear hb);refine hK.out _ _ ⟨(blk_cell BK1.out 0).trans rfl,(blk_cell BK1.out 1).trans rfl,(blk_cell BK1.out 2).trans rfl⟩ (fun hHeld=> ?_);clear hK K;refine no_ (N:=some 9) ?_;(iterate 2 refine qu_ HT_ ?_);refine done_ (done_of HT_.out (by kernel_rfl)) ?_;try go_wp2
 go_ret
 exact ⟨by first|rfl|(simp [errW_none,errW_some]<;>rfl)|(simp [*,errW_none,errW_some]<;>rfl),zl1_ HB GE1⟩
end Go.Proofs.Ytahidkjncljkaaa.Print

namespace Go.Proofs.Ytahidkjncljkaaa.Print
open Go.RowKit Go.Proofs.YtahidkjncljkaaaW.PrintWords Go.Proofs.YtahidkjncljkaaaW.PrintLast Go.Proofs.YtahidkjncljkaaaW.PrintMore
section
variable {P:Program} {ops:Array Oper} {rest:List Oper} {o:Oper} {a:Act} {Q:Exit→Act→World→Prop} {Kc:Act→World→Prop} {W:World}
theorem put_run {gb e:Nat} {zs:Array Value} (hh:W.heap[gb]?=some (.cells zs e (0,0))) (t:TypeId) (u:Value) (off:Nat) (seg:List Value) (hu:u.cells.toList=seg) (ht:(P.info? t).map (·.size)=some seg.length) (hfit:off+seg.length≤zs.size) (h1: ∀q∈seg,q.oneCell'=true):
  ∃w' cur,(Instr.storeAt t (.pointer (some ⟨gb,off,none⟩)) u).run P W= .ok () w'∧w'.heap[gb]?=some (.cells cur e (0,0))∧cur.size=zs.size∧cur.toList=zs.toList.take off++seg++zs.toList.drop (off+seg.length)∧W.grownBy w' (some gb):=by
 have hrun:=run_store_run (P:=P) t u seg hh hu ht (o:=off) hfit h1;obtain ⟨cur,hc,hs,hl⟩:=setCells_row seg off W zs hh hfit;obtain ⟨s1,s2,s3,s4⟩:=setCells_same gb seg off W;exact ⟨_,cur,hrun,hc,hs,hl,⟨s1,s2,s3,by rw [s4];exact Nat.le_refl _,fun k hk hne=>setCells_far seg off k (by rintro rfl;exact hne rfl)⟩⟩
theorem store_all {gb e:Nat} {zs:Array Value} (hh:W.heap[gb]?=some (.cells zs e (0,0))) (t:TypeId) (p x:Operand) (ho:o.op= .store t p x) (hN:o.dst=none) (hgd:o.guard=none) (u:Value) (seg:List Value)
  (hp:a.eval p= .pointer (some ⟨gb,0,none⟩)) (hx:a.eval x=u) (hu:u.cells.toList=seg) (ht:(P.info? t).map (·.size)=some seg.length) (hz:zs.size=seg.length) (h1: ∀q∈seg,q.oneCell'=true)
  (h: ∀w',w'.heap[gb]?=some (.cells seg.toArray e (0,0))→W.grownBy w' (some gb)→wpList P ops Q rest a w'):wpList P ops Q (o::rest) a W:=by
 obtain ⟨w',cur,hrun,hc,hs,hl,hg⟩:=put_run (P:=P) hh t u 0 seg hu ht (by omega) h1
 have e1:cur=seg.toArray:=by
  apply Array.ext'
  rw [hl,List.take_zero,List.nil_append,Nat.zero_add,List.drop_of_length_le (by simp [Array.length_toList];omega),List.append_nil]
 subst e1
 refine wpList_plain hgd fun K hK=> ?_
 unfold Oper.wp execOp
 simp only [ho,hp,hx,Sem.run_bind,Sem.run_pure,Result.andThen_ok,hrun]
 show K (a.put o.dst undef) _
 rw [hN]
 exact hK a _ (h _ hc hg)
theorem store_part {gb e:Nat} {zs:Array Value} (hh:W.heap[gb]?=some (.cells zs e (0,0))) (t:TypeId) (p x:Operand) (ho:o.op= .store t p x) (hN:o.dst=none) (hgd:o.guard=none) (off:Nat) (u:Value) (seg new:List Value)
  (hp:a.eval p= .pointer (some ⟨gb,off,none⟩)) (hx:a.eval x=u) (hu:u.cells.toList=seg) (ht:(P.info? t).map (·.size)=some seg.length) (hz:off+seg.length≤zs.size) (h1: ∀q∈seg,q.oneCell'=true) (hnew:zs.toList.take off++seg++zs.toList.drop (off+seg.length)=new)
  (h: ∀w',w'.heap[gb]?=some (.cells new.toArray e (0,0))→W.grownBy w' (some gb)→wpList P ops Q rest a w'):wpList P ops Q (o::rest) a W:=by
 obtain ⟨w',cur,hrun,hc,hs,hl,hg⟩:=put_run (P:=P) hh t u off seg hu ht hz h1
 have e1:cur=new.toArray:=by
  apply Array.ext'
  rw [hl,hnew]
 subst e1
 refine wpList_plain hgd fun K hK=> ?_
 unfold Oper.wp execOp
 simp only [ho,hp,hx,Sem.run_bind,Sem.run_pure,Result.andThen_ok,hrun]
 show K (a.put o.dst undef) _
 rw [hN]
 exact hK a _ (h _ hc hg)
end
theorem R_put {α:Type} {d:Kd α} {e base:Nat} {w w1:World} {v:Value} {xs:List α} (h:d.R e w base (fun _=>True) v xs) {g t:Nat} {cells:Array Value} (hb:w.heap[g]?=some (.cells cells t (0,0))) (ht: ∀q,q∈e::d.E→q≠t) (hg:w.grownBy w1 (some g)):d.R e w1 base (fun _=>True) v xs:=
 Kd.R_mono (Kd.R_grown (Kd.R_types h hb ht) hg (fun _ hk e=>hk.2 (Option.some.inj e))) (fun _ _=>trivial)
theorem below_put {a w w1:World} {base g:Nat} (h:Below base a w) (hb:base≤w.heap.size) (hg:w.grownBy w1 (some g)) (hge:base≤g):Below base a w1:=pw_below_grown h (some g) hb hg (fun k e=>by cases e;exact hge)
theorem blk_put_other {w w1:World} {g k:Nat} {ob:Obj} (h:w.heap[k]?=some ob) (hg:w.grownBy w1 (some g)) (hne:k≠g):w1.heap[k]?=some ob:=by
  rw [hg.block k (by
    rcases Nat.lt_or_ge k w.heap.size with hl|hl
    · exact hl
    rw [Array.getElem?_eq_none hl] at h;cases h) (by intro e;cases e;exact hne rfl)]
  exact h
end Go.Proofs.Ytahidkjncljkaaa.Print

namespace Go.Proofs.Ytahidkjncljkaaa.Print
open Go.RowKit Go.Proofs.YtahidkjncljkaaaW.PrintWords Go.Proofs.YtahidkjncljkaaaW.PrintLast Go.Proofs.YtahidkjncljkaaaW.PrintMore
attribute [local go_sem] max2_int min2_int max_two min_two max_three min_three max_four min_four

set_option maxHeartbeats 1000000 in
set_option maxRecDepth 100000 in
theorem treeFind1_calls (W:World) (b:Nat) (nm:ByteArray) (hb:W.heap[b]?=some (.cells #[.string nm] 9 (0,0))) (x:S79):
  Calls Try.prog 122 #[.agg (itemCells x), .pointer (some ⟨b,0,none⟩)] W fun e w'=>e= .returned (.bool (x.f0.toList==nm.toList))∧Below W.heap.size W w':=by
 unfold itemCells
 have hu79:=Try.underlying79
 have h0:=(blk_cell hb 0).trans rfl
 have hl:b<W.heap.size:=blk_lt hb
 clear hb
 go_enter Try.func122,Try.ntmps122
 go_wp2
 go_ret
 exact ⟨rfl,by repeat (first|(with_reducible first|exact Below.refl _ _|apply below_alloc|apply pw_below_drewN|apply below_drew1))⟩
def tree_Find.f (l0:List (S79)) (a1:ByteArray):Option Int:=some (fidx (fun x=>x.f0.toList==a1.toList) l0 0)
set_option maxHeartbeats 1000000 in
set_option maxRecDepth 100000 in
theorem tree_Find.calls (A0:Option Addr) (c0:Nat) (l0:List (S79)) (a1:ByteArray) (r:Int) (w:World) (hr0:Kd.C k79 w A0 l0.length l0) (hc0:l0.length≤c0) (h:tree_Find.f l0 a1=some r):
  Calls Try.prog 91 #[.slice A0 l0.length c0, .string a1] w fun e w'=>e= .returned (.int .i64 r)∧Below w.heap.size w w':=by
 have hr:fidx (fun x=>x.f0.toList==a1.toList) l0 0=r:=Option.some.inj h;obtain ⟨W1,hW1⟩: ∃W1,W1=w.alloc (.cells #[.string a1] 9):=⟨_,rfl⟩;have hn:W1.heap[w.heap.size]?=some (.cells #[.string a1] 9 (0,0)):=by rw [hW1];exact blk_new _ _
 have hB:Below w.heap.size w W1:=by rw [hW1];exact below_alloc (Below.refl _ _) _
 have HC:=am_ (idxItem_calls 122 #[.pointer (some ⟨w.heap.size,0,none⟩)] (fun x=>x.f0.toList==a1.toList) (enters_of Try.func122 (by kernel_rfl) rfl) W1 (fun W x hb=>treeFind1_calls W w.heap.size a1 (blk_below hn hb) x) A0 c0 l0 (Kd.C_below hr0 hB) hc0);rw [hr] at HC;have HW:=Aside0.mk hW1;have HB:=Aside0.mk hB;clear hr0 hr hW1 hn hB h;go_enter Try.func91,Try.ntmps91;go_wp2_with fail
 rw [←HW.out];refine HC.out.mono ?_;rintro e w' ⟨rfl,hb⟩;have HB':=am_ (below_step HB.out hb);clear hb;go_wp2
 go_ret
 exact ⟨rfl,HB'.out⟩


end Go.Proofs.Ytahidkjncljkaaa.Print

namespace Go.Proofs.Ytahidkjncljkaaa.Print
open Go.RowKit Go.Proofs.YtahidkjncljkaaaW.PrintWords Go.Proofs.YtahidkjncljkaaaW.PrintLast
abbrev Item:=S79
abbrev Vec:=S37
abbrev zItem:Item:=z79
theorem rd_item (l:List Item) (i:Int):rd_T79 l i=l.getD i.toNat zItem:=rfl
instance baLawful:LawfulBEq ByteArray where
 eq_of_beq {a b} h:=by
  obtain ⟨a⟩:=a
  obtain ⟨b⟩:=b
  have:(a==b)=true:=h
  rw [eq_of_beq this]
 rfl {a}:=by
  obtain ⟨a⟩:=a
  show (a==a)=true
  exact beq_self_eq_true a
theorem nm_inj {a b:ByteArray}:a.toList=b.toList↔a=b:=by
  constructor
  rotate_left
  · rintro rfl;rfl
  intro h
  rw [ByteArray.toList_eq,ByteArray.toList_eq] at h
  exact ByteArray.ext (Array.toList_inj.1 h)
theorem nm_beq (a b:ByteArray):(a.toList==b.toList)=decide (a=b):=by
 rw [Bool.eq_iff_iff,beq_iff_eq,nm_inj,decide_eq_true_iff]
theorem nm_ne {a b:ByteArray}:a.toList≠b.toList↔a≠b:=not_congr nm_inj
theorem nm_empty {a:ByteArray}:a.toList=([]:List UInt8)↔a=⟨#[]⟩:=by
 rw [←nm_inj];rw [show (ByteArray.mk #[]).toList=[] from by rw [ByteArray.toList_eq]]
theorem Ev.const {α:Type} {g:Option α} {r:α} (h:g=some r):Ev (fun _=>g) r:=⟨0,fun _ _=>h⟩
theorem w64 {n:Int} (h0: -9223372036854775808≤n) (h1:n≤9223372036854775807):wrap64 n=n:=by unfold wrap64;omega
def look (l:List Item) (n:ByteArray):Option Item:=l.find? (fun x=>x.f0=n)
def fnd (l:List Item) (n:ByteArray):Int:=fidx (fun x:Item=>x.f0.toList==n.toList) l 0
theorem fidx_none {α:Type} {p:α→Bool}: ∀{l:List α} {i:Int},(∀x∈l,p x=false)→fidx p l i= -1
  |[],_,_=>rfl
  | x :: l, i, h => by
    unfold fidx;rw [if_neg (by rw [h x (by simp)];simp)];exact fidx_none (fun y hy=>h y (by simp [hy]))
theorem fidx_some {α:Type} {p:α→Bool} (z:α): ∀{l:List α} {i:Int} {x:α},l.find? p=some x→ ∃j:Nat,j<l.length∧fidx p l i=i+j∧l.getD j z=x∧p x=true∧ ∀m,m<j→p (l.getD m z)=false
  |[],_,_,h=>by simp at h
  | y :: l, i, x, h => by
    unfold fidx;by_cases hy:p y=true
    · rw [if_pos hy]
      simp only [List.find?_cons,hy] at h
      obtain rfl:=Option.some.inj h
      exact ⟨0,by simp,by simp,by simp,hy,fun m hm=>by omega⟩
    rw [if_neg hy];have hy':p y=false:=by simpa using hy
    simp only [List.find?_cons,hy'] at h;obtain ⟨j,hj,h1,h2,h3,h4⟩:=fidx_some z (i:=i+1) h;refine ⟨j+1,by simp;omega,by rw [h1];omega,by simpa using h2,h3,fun m hm=> ?_⟩
    cases m with
    |zero=>simpa using hy'
    |succ m=>simpa using h4 m (by omega)
theorem look_pred (n:ByteArray):(fun x:Item=>x.f0.toList==n.toList)=(fun x:Item=>decide (x.f0=n)):=by
 funext x;exact nm_beq _ _
theorem look_mem {l:List Item} {n:ByteArray} {x:Item} (h:look l n=some x):x∈l∧x.f0=n:=by
 unfold look at h;exact ⟨List.mem_of_find?_eq_some h,by simpa using List.find?_some h⟩
theorem look_none {l:List Item} {n:ByteArray}:look l n=none↔ ∀x∈l,x.f0≠n:=by
 unfold look
 simp
theorem fnd_none {l:List Item} {n:ByteArray} (h:look l n=none):fnd l n= -1:=by
 unfold fnd;refine fidx_none fun x hx=> ?_
 rw [nm_beq]
 simpa using look_none.1 h x hx
theorem fnd_some {l:List Item} {n:ByteArray} {x:Item} (h:look l n=some x): ∃j:Nat,j<l.length∧fnd l n=j∧l.getD j zItem=x∧x.f0=n∧ ∀m,m<j→(l.getD m zItem).f0≠n:=by
 have h':l.find? (fun x:Item=>x.f0.toList==n.toList)=some x:=by rw [look_pred];exact h
 obtain ⟨j,h1,h2,h3,h4,h5⟩:=fidx_some zItem (i:=0) h';refine ⟨j,h1,by unfold fnd;rw [h2];omega,h3,by simpa [nm_beq] using h4,fun m hm=> ?_⟩
 simpa [nm_beq] using h5 m hm
theorem fnd_lt (l:List Item) (n:ByteArray):fnd l n<l.length:=by
 cases h:look l n with
 |none=>rw [fnd_none h];omega
 |some x=>obtain ⟨j,h1,h2,_⟩:=fnd_some h;omega
theorem fnd_neg {l:List Item} {n:ByteArray}:fnd l n<0↔look l n=none:=by
 cases h:look l n with
 |none=>rw [fnd_none h];simp
 |some x=>obtain ⟨j,h1,h2,_⟩:=fnd_some h;simp;omega
theorem fnd_ge {l:List Item} {n:ByteArray}:0≤fnd l n↔ ∃x,look l n=some x:=by
 cases h:look l n with
 |none=>rw [fnd_none h];simp
 |some x=>obtain ⟨j,h1,h2,_⟩:=fnd_some h;simp;omega
theorem fnd_rd {l:List Item} {n:ByteArray} {x:Item} (h:look l n=some x):rd_T79 l (fnd l n)=x:=by
 obtain ⟨j,h1,h2,h3,_⟩:=fnd_some h;rw [rd_item,h2,Int.toNat_natCast];exact h3
theorem tree_Find_eq (l:List Item) (n:ByteArray):tree_Find.f l n=some (fnd l n):=rfl
inductive Chain (l:List Item):ByteArray→List ByteArray→Prop where
 |nil {n:ByteArray}:look l n=none→Chain l n []
 |cons {n:ByteArray} {x:Item} {us:List ByteArray}:look l n=some x→Chain l x.f1 us→Chain l n (n::us)
def upGo (l:List Item):Nat→ByteArray→List ByteArray
  |0,_=> []
  | m + 1, n => match look l n with
    |none=> []
    |some x=>n::upGo l m x.f1
def up (l:List Item) (n:ByteArray):List ByteArray:=upGo l (l.length+1) n
theorem upGo_none {l:List Item} {n:ByteArray} (h:look l n=none) (m:Nat):upGo l m n=[]:=by
 cases m with
 |zero=>rfl
 |succ m=>unfold upGo;rw [h]
theorem upGo_some {l:List Item} {n:ByteArray} {x:Item} (h:look l n=some x) (m:Nat):upGo l (m+1) n=n::upGo l m x.f1:=by
 rw [upGo.eq_2,h]
theorem Chain.det {l:List Item} {n:ByteArray} {us:List ByteArray} (h:Chain l n us): ∀{vs:List ByteArray},Chain l n vs→us=vs:=by
  induction h with
  | nil h =>
    intro vs k
    cases k with
    |nil _=>rfl
    |cons k _=>rw [h] at k;cases k
  | cons h _ ih =>
    intro vs k
    cases k with
    |nil k=>rw [h] at k;cases k
    | cons k k2 =>
      rw [h] at k;cases k;rw [ih k2]
theorem Chain.upGo {l:List Item} {n:ByteArray} {us:List ByteArray} (h:Chain l n us): ∀m,us.length≤m→upGo l m n=us:=by
  induction h with
  |nil h=>intro m _;exact upGo_none h m
  | cons h _ ih =>
    intro m hm
    cases m with
    |zero=>simp at hm
    | succ m =>
      rw [upGo_some h,ih m (by simpa using hm)]
theorem Chain.suffix {l:List Item} {n:ByteArray} {us:List ByteArray} (h:Chain l n us): ∀{m:ByteArray},m∈us→ ∃vs ws,us=ws++vs∧Chain l m vs∧ ∃vt,vs=m::vt:=by
  induction h with
  |nil _=>intro m hm;cases hm
  | @cons n x us h k ih =>
    intro m hm
    rcases List.mem_cons.1 hm with rfl|hm
    · exact ⟨_,[],rfl, .cons h k,_,rfl⟩
    obtain ⟨vs,ws,e,hc,he⟩:=ih hm;exact ⟨vs,n::ws,by rw [e];rfl,hc,he⟩
theorem Chain.mem_look {l:List Item} {n:ByteArray} {us:List ByteArray} (h:Chain l n us) {m:ByteArray} (hm:m∈us): ∃x,look l m=some x:=by
 obtain ⟨vs,ws,_,hc,vt,rfl⟩:=h.suffix hm
 cases hc with
 |cons h _=>exact ⟨_,h⟩
theorem Chain.nodup {l:List Item} {n:ByteArray} {us:List ByteArray} (h:Chain l n us):us.Nodup:=by
  induction h with
  |nil _=>simp
  | @cons n x us h k ih =>
    rw [List.nodup_cons];refine ⟨fun hm=> ?_,ih⟩;obtain ⟨vs,ws,e,hc,_⟩:=k.suffix hm;have:=hc.det (.cons h k)
    rw [this] at e;have:=congrArg List.length e
    simp at this
    omega
theorem Chain.len {l:List Item} {n:ByteArray} {us:List ByteArray} (h:Chain l n us):us.length≤l.length:=by
 have:=h.nodup.length_le_of_subset (l₂:=l.map (·.f0)) (fun m hm=>by
  obtain ⟨x,hx⟩:=h.mem_look hm;obtain ⟨h1,rfl⟩:=look_mem hx;exact List.mem_map_of_mem h1)
 simpa using this
theorem Chain.up {l:List Item} {n:ByteArray} {us:List ByteArray} (h:Chain l n us):up l n=us:=h.upGo _ (by have:=h.len;omega)
def lt (a b:ByteArray):Bool:=Op.bytesLess a.toList b.toList
theorem bl_irrefl: ∀a:List UInt8,Op.bytesLess a a=false
 |[]=>rfl
 |x::a=>by unfold Op.bytesLess;simp [bl_irrefl a]
theorem bl_trans: ∀{a b c:List UInt8},Op.bytesLess a b=true→Op.bytesLess b c=true→Op.bytesLess a c=true
  |[],[],_,h,_=>by simp [Op.bytesLess] at h
  |[],_::_,[],_,k=>by simp [Op.bytesLess] at k
  |[],_::_,_::_,_,_=>by simp [Op.bytesLess]
  |_::_,[],_,h,_=>by simp [Op.bytesLess] at h
  |_::_,_::_,[],_,k=>by simp [Op.bytesLess] at k
  | x :: a, y :: b, z :: c, h, k => by
    simp only [Op.bytesLess,Bool.or_eq_true,Bool.and_eq_true,decide_eq_true_eq,beq_iff_eq] at h k ⊢
    rcases h with h|⟨rfl,h⟩
    · rcases k with k | ⟨rfl, k⟩
      · exact .inl (UInt8.lt_trans h k)
      exact .inl h
    rcases k with k|⟨rfl,k⟩
    · exact .inl k
    exact .inr ⟨rfl,bl_trans h k⟩
theorem bl_total: ∀{a b:List UInt8},Op.bytesLess a b=false→a≠b→Op.bytesLess b a=true
  |[],[],_,h=>absurd rfl h
  |[],_::_,h,_=>by simp [Op.bytesLess] at h
  |_::_,[],_,_=>by simp [Op.bytesLess]
  | x :: a, y :: b, h, k => by
    simp only [Op.bytesLess,Bool.or_eq_true,Bool.or_eq_false_iff,Bool.and_eq_false_iff,Bool.and_eq_true,decide_eq_true_eq,decide_eq_false_iff_not,beq_iff_eq,beq_eq_false_iff_ne] at h ⊢;obtain ⟨h1,h2⟩:=h;by_cases e:x=y
    · subst e
      rcases h2 with h2|h2
      · exact absurd rfl h2
      exact .inr ⟨rfl,bl_total h2 (fun e=>k (by rw [e]))⟩
    left
    have h3: ¬x.toNat<y.toNat:=by rwa [←UInt8.lt_iff_toNat_lt]
    have h4:x.toNat≠y.toNat:=fun q=>e (UInt8.toNat_inj.1 q)
    rw [UInt8.lt_iff_toNat_lt];omega
theorem lt_irrefl (a:ByteArray):lt a a=false:=bl_irrefl _
theorem lt_trans {a b c:ByteArray} (h:lt a b=true) (k:lt b c=true):lt a c=true:=bl_trans h k
theorem lt_total {a b:ByteArray} (h:lt a b=false) (k:a≠b):lt b a=true:=bl_total h (fun e=>k (nm_inj.1 e))
theorem lt_ne {a b:ByteArray} (h:lt a b=true):a≠b:=by rintro rfl;rw [lt_irrefl] at h;cases h
inductive Comp where|cpu|mem|pods
def Comp.of:Comp→Vec→Int| .cpu,v=>v.f0| .mem,v=>v.f1| .pods,v=>v.f2
def vadd (a b:Vec):Vec:=⟨a.f0+b.f0,a.f1+b.f1,a.f2+b.f2⟩
theorem of_vadd (c:Comp) (a b:Vec):c.of (vadd a b)=c.of a+c.of b:=by cases c<;>rfl
def MayP (v:Vec):Prop:= ∀c:Comp,0≤c.of v∧c.of v≤1099511627776
def LeP (a b:Vec):Prop:= ∀c:Comp,c.of a≤c.of b
theorem comp_all {p:Comp→Prop}:(∀c,p c)↔p .cpu∧p .mem∧p .pods:=
 ⟨fun h=>⟨h _,h _,h _⟩,fun ⟨a,b,d⟩ c=>by cases c<;>assumption⟩
instance (v:Vec):Decidable (MayP v):=decidable_of_iff _ comp_all.symm
instance (a b:Vec):Decidable (LeP a b):=decidable_of_iff _ comp_all.symm
theorem mayP_iff {a b d:Int}:MayP ⟨a,b,d⟩↔(0≤a∧a≤1099511627776)∧(0≤b∧b≤1099511627776)∧(0≤d∧d≤1099511627776):=comp_all
theorem leP_iff {a b d a' b' d':Int}:LeP ⟨a,b,d⟩ ⟨a',b',d'⟩↔a≤a'∧b≤b'∧d≤d':=comp_all
def sumBy (g:Item→Int) (l:List Item):Int:=(l.map g).sum
theorem sumBy_nil (g:Item→Int):sumBy g []=0:=rfl
theorem sumBy_cons (g:Item→Int) (x:Item) (l:List Item):sumBy g (x::l)=g x+sumBy g l:=by simp [sumBy]
theorem sumBy_append (g:Item→Int) (l m:List Item):sumBy g (l++m)=sumBy g l+sumBy g m:=by simp [sumBy]
theorem sumBy_congr {g h:Item→Int}: ∀{l:List Item},(∀x∈l,g x=h x)→sumBy g l=sumBy h l
 |[],_=>rfl
 |x::l,e=>by rw [sumBy_cons,sumBy_cons,e x (by simp),sumBy_congr (fun y hy=>e y (by simp [hy]))]
theorem sumBy_add (g h:Item→Int): ∀l:List Item,sumBy (fun x=>g x+h x) l=sumBy g l+sumBy h l
 |[]=>rfl
 |x::l=>by rw [sumBy_cons,sumBy_cons,sumBy_cons,sumBy_add g h l];omega
theorem sumBy_map (g:Item→Int) (f:Item→Item): ∀l:List Item,sumBy g (l.map f)=sumBy (fun x=>g (f x)) l
 |[]=>rfl
 |x::l=>by rw [List.map_cons,sumBy_cons,sumBy_cons,sumBy_map g f l]
theorem sumBy_zero {g:Item→Int}: ∀{l:List Item},(∀x∈l,g x=0)→sumBy g l=0
 |[],_=>rfl
 |x::l,e=>by rw [sumBy_cons,e x (by simp),sumBy_zero (fun y hy=>e y (by simp [hy]))];rfl
theorem sumBy_nonneg {g:Item→Int}: ∀{l:List Item},(∀x∈l,0≤g x)→0≤sumBy g l
 |[],_=>by simp [sumBy_nil]
 |x::l,e=>by rw [sumBy_cons];have:=e x (by simp);have:=sumBy_nonneg (l:=l) (fun y hy=>e y (by simp [hy]));omega
theorem sumBy_one {v:Int} {l:List Item} (hn:(l.map (·.f0)).Nodup) {x:Item} (hx:x∈l):sumBy (fun y=>if y.f0=x.f0 then v else 0) l=v:=by
  induction l with
  |nil=>cases hx
  | cons y l ih =>
    rw [List.map_cons,List.nodup_cons] at hn
    rw [sumBy_cons]
    rcases List.mem_cons.1 hx with rfl|hx
    · rw [if_pos rfl,sumBy_zero (fun z hz=>if_neg (fun e=>hn.1 (by rw [←e];exact List.mem_map_of_mem hz)))];omega
    rw [if_neg (fun e=>hn.1 (by rw [e];exact List.mem_map_of_mem hx)),ih hn.2 hx];omega
def csum (c:Comp) (l:List Item) (n:ByteArray):Int:=sumBy (fun y=>if y.f1=n then c.of y.f4 else 0) l
structure ItemOK (x:Item):Prop where
 name:x.f0≠⟨#[]⟩
 size:x.f0.size≤24
 lim:MayP x.f2
 own:MayP x.f3
 sub:MayP x.f4
 fit:LeP x.f4 x.f2
 ver:1≤x.f5∧x.f5≤9007199254740992
structure RightP (l:List Item):Prop where
 len:l.length≤120
 ok: ∀x∈l,ItemOK x
 sorted:l.Pairwise (fun x y=>lt x.f0 y.f0=true)
 par: ∀x∈l,x.f1=⟨#[]⟩∨ ∃y,look l x.f1=some y
 sum: ∀c:Comp,∀x∈l,c.of x.f4=c.of x.f3+csum c l x.f0
 chain: ∀x∈l,∃us,Chain l x.f0 us
theorem sorted_nodup {l:List Item} (h:l.Pairwise (fun x y=>lt x.f0 y.f0=true)):(l.map (·.f0)).Nodup:=by
 rw [List.Nodup,List.pairwise_map];exact h.imp (fun hxy=>lt_ne hxy)
theorem RightP.nodup {l:List Item} (h:RightP l):(l.map (·.f0)).Nodup:=sorted_nodup h.sorted
theorem look_of_mem {l:List Item} (hn:(l.map (·.f0)).Nodup) {x:Item} (hx:x∈l):look l x.f0=some x:=by
  induction l with
  |nil=>cases hx
  | cons y l ih =>
    rw [List.map_cons,List.nodup_cons] at hn;unfold look;rw [List.find?_cons]
    rcases List.mem_cons.1 hx with rfl|hx
    · simp
    have:y.f0≠x.f0:=fun e=>hn.1 (by rw [e];exact List.mem_map_of_mem hx)
    simp only [this,decide_false];exact ih hn.2 hx
theorem RightP.look {l:List Item} (h:RightP l) {x:Item} (hx:x∈l):look l x.f0=some x:=look_of_mem h.nodup hx
theorem RightP.chainAll {l:List Item} (h:RightP l) (n:ByteArray):Chain l n (up l n):=by
  cases hl:Print.look l n with
  |none=>have c:=Chain.nil hl;rw [c.up];exact c
  | some x =>
    obtain ⟨hx,rfl⟩:=look_mem hl;obtain ⟨us,c⟩:=h.chain x hx;rw [c.up];exact c
theorem right_nil:RightP []:=⟨by simp,by simp,by simp,by simp,by simp,by simp⟩
theorem RightP.eq_of {l:List Item} (h:RightP l) {x y:Item} (hx:x∈l) (hy:y∈l) (e:x.f0=y.f0):x=y:=by
 have h1:=h.look hx
 rw [e,h.look hy] at h1
 exact (Option.some.inj h1).symm
end Go.Proofs.Ytahidkjncljkaaa.Print

namespace Go.Proofs.Ytahidkjncljkaaa.Print
open Go.RowKit Go.Proofs.YtahidkjncljkaaaW.PrintWords Go.Proofs.YtahidkjncljkaaaW.PrintLast Go.Proofs.YtahidkjncljkaaaW.PrintMore
theorem vec_Le_eq (a b d a' b' d':Int):vec_Le.f a b d a' b' d'=some (decide (LeP ⟨a,b,d⟩ ⟨a',b',d'⟩)):=by
 unfold vec_Le.f;by_cases h0:a≤a'<;>by_cases h1:b≤b'<;>simp [h0,h1,leP_iff]
theorem vec_May_eq (a b d:Int):vec_May.f a b d=some (decide (MayP ⟨a,b,d⟩)):=by
  unfold vec_May.f vec_Most.f;simp only [vec_Le_eq,Option.bind_some];by_cases h:LeP ⟨0,0,0⟩ ⟨a,b,d⟩
  · rw [if_pos (by exact decide_eq_true h)]
    congr 1
    rw [Bool.eq_iff_iff,decide_eq_true_iff,decide_eq_true_iff,mayP_iff,leP_iff]
    rw [leP_iff] at h
    constructor<;>intro k<;>omega
  rw [if_neg (by simpa using h)]
  congr 1
  symm
  rw [decide_eq_false_iff_not,mayP_iff];rw [leP_iff] at h
  omega
end Go.Proofs.Ytahidkjncljkaaa.Print

namespace Go.Proofs.Ytahidkjncljkaaa.Print
open Go.RowKit Go.Proofs.YtahidkjncljkaaaW.PrintWords Go.Proofs.YtahidkjncljkaaaW.PrintLast Go.Proofs.YtahidkjncljkaaaW.PrintMore
attribute [local go_sem] max2_int min2_int max_two min_two max_three min_three max_four min_four

theorem wnx {i:Nat} (h:i<100000000):wrap64 ((i:Int)+1)=((i+1:Nat):Int):=by unfold wrap64;omega
def wmay (w:S39):Bool:=decide (w.f0≠⟨#[]⟩∧w.f0.size≤24∧MayP w.f2)
def wnames (l:List S39):List S39→Int→Int
 |[],_=>0
 |w::ws,i=>if wmay w=true then (if wplace l w.f0=i then wnames l ws (i+1) else 3) else 1
theorem wnames_drop {l:List S39} {i:Nat} (h:i<l.length):wnames l (l.drop i) i=if wmay (rd_T39 l i)=true then (if wplace l (rd_T39 l i).f0=i then wnames l (l.drop (i+1)) ((i+1:Nat):Int) else 3) else 1:=by
 rw [List.drop_eq_getElem_cons h]
 have e:rd_T39 l (i:Int)=l[i]:=by
  show l.getD (i:Int).toNat _=_
  rw [Int.toNat_natCast,List.getD_eq_getElem?_getD,List.getElem?_eq_getElem h,Option.getD_some]
 rw [e]
 rfl
set_option maxHeartbeats 8000000 in
set_option maxRecDepth 100000 in
theorem wantNames_calls (A:Option Addr) (c:Nat) (l:List S39) (w:World) (hr:Kd.C k39 w A l.length l) (hc:l.length≤c) (hl:l.length≤1000000):
    Calls Try.prog 72 #[.agg #[.slice A l.length c]] w fun e w'=>e= .returned (.int .i64 (wnames l l 0))∧Below w.heap.size w w':=by
  have hu110:=Try.underlying110;have hu39:=Try.underlying39;have HR:=Aside0.mk hr;have HC:=Aside0.mk hc;have HB:=am_ (Below.refl w.heap.size w);clear hr hc;go_enter Try.func72,Try.ntmps72;go_wp2_with (first|((with_reducible refine gate_dst (N:=1) rfl ?_);refine bx_ (N:=1) (cs:=#[.slice A l.length c]) (t:=110) ?_;intro gb1 hg w1 hbox hb;have BK1:=am_ (hbox);have GE1:=am_ ((by rw [hg];exact below_size HB.out:w.heap.size≤gb1));replace HB:=am_ (below_step HB.out hb);have EQ1:=am_ (hg);clear hb hbox hg;have cgb1_0:=zz_ BK1 0))
  go_loopg [8] l.length (fun kq v8 w'=> ∃i:Nat,v8= .int .i64 i∧i≤l.length∧l.length - i≤kq∧Aside0 (Below w.heap.size w w')∧Aside0 (w'.heap[gb1]?=some (.cells #[.slice A l.length c] 110 (0,0)))∧Aside0 (wnames l l 0=wnames l (l.drop i) i))
  case atStart=>exact ⟨0,rfl,by omega,by omega,HB,BK1,⟨rfl⟩⟩
  case round=>
    clear HB BK1 cgb1_0;obtain ⟨i,rfl,hil,hkq,HB,BK1,HF⟩:=hrel;by_cases hlt:i<l.length;rotate_left
    · obtain rfl : i = l.length := by omega
      go_wp2
      go_ret
      refine ⟨?_,HB.out⟩
      rw [HF.out,List.drop_length]
      rfl


    have hltz:(i:Int)<(l.length:Int):=by omega
    obtain ⟨x,hx⟩: ∃x:Int,x=(i:Int):=⟨_,rfl⟩;have HX0:=am_ (show 0≤x by omega);have HX1:=am_ (show x<(l.length:Int) by omega);have HD:=am_ (wnames_drop hlt);rw [←hx] at HD;have HXI:=Aside0.mk hx;rw [←hx];have hltx:x<(l.length:Int):=HX1.out;clear hltz hx;have p6:0≤x:=HX0.out;have q6:x<(l.length:Int):=HX1.out;obtain ⟨ad,e6,k0,k1,k2,k3,k4⟩:=at_T39 HR.out x p6 q6;cases e6;have k0:=zx_ HB k0;have k1:=zx_ HB k1;have k2:=zx_ HB k2;have k3:=zx_ HB k3;have k4:=zx_ HB k4;replace p6:=eq_true p6;replace q6:=eq_true q6;have BK1_:=BK1;by_cases hm:wmay (rd_T39 l x)=true;rotate_left
    · have HM := hm
      unfold wmay at HM
      rw [decide_eq_true_iff] at HM
      rw [if_neg hm] at HD
      clear hm
      have HMM:=Aside0.mk HM
      clear HM
      by_cases e1:(rd_T39 l x).f0.toList.isEmpty=true
      · go_wp2_with (first | ((with_reducible refine gate_dst (N := 4) rfl ?_); refine bx_ (N := 4) (cs := #[.string ⟨#[]⟩, .string ⟨#[]⟩, .int .i64 0, .int .i64 0, .int .i64 0]) (t := 39) ?_; intro gb4 hg w4 hbox hb; replace BK1 := am_ (blk_below BK1.out hb); have BK4 := am_ (hbox); have GE4 := am_ ((by rw [hg]; exact below_size HB.out : w.heap.size ≤ gb4)); replace HB := am_ (below_step HB.out hb); have EQ4 := am_ (hg); have NE := am_ (show gb1 ≠ gb4 from by have := blk_lt BK1_.out; rw [hg]; exact Nat.ne_of_lt this); clear hb hbox hg; have cgb4_0 := (blk_cell BK4.out 0).trans rfl; have cgb4_1 := (blk_cell BK4.out 1).trans rfl; have cgb4_2 := (blk_cell BK4.out 2).trans rfl; have cgb4_3 := (blk_cell BK4.out 3).trans rfl; have cgb4_4 := (blk_cell BK4.out 4).trans rfl) | ((with_reducible refine gate_store (t := 39) (p := 4) (v := .tmp 12) rfl ?_); refine store_all BK4.out 39 (.tmp 4) (.tmp 12) rfl rfl rfl (.agg #[.string (rd_T39 l x).f0, .string (rd_T39 l x).f1, .int .i64 (rd_T39 l x).f2.f0, .int .i64 (rd_T39 l x).f2.f1, .int .i64 (rd_T39 l x).f2.f2]) [.string (rd_T39 l x).f0, .string (rd_T39 l x).f1, .int .i64 (rd_T39 l x).f2.f0, .int .i64 (rd_T39 l x).f2.f1, .int .i64 (rd_T39 l x).f2.f2] rfl rfl rfl (by kernel_rfl) rfl (by intro q hq; simp only [List.mem_cons, List.not_mem_nil, or_false] at hq; rcases hq with rfl | rfl | rfl | rfl | rfl <;> rfl) ?_; intro w5 hbk hg; clear cgb4_0 cgb4_1 cgb4_2 cgb4_3 cgb4_4; replace BK1 := am_ (blk_put_other BK1.out hg (NE.out)); replace HB := am_ (below_put HB.out (below_size HB.out) hg GE4.out); replace BK4 := am_ (hbk); clear hbk hg; have cgb4_0 := (blk_cell BK4.out 0).trans rfl; have cgb4_1 := (blk_cell BK4.out 1).trans rfl; have cgb4_2 := (blk_cell BK4.out 2).trans rfl; have cgb4_3 := (blk_cell BK4.out 3).trans rfl; have cgb4_4 := (blk_cell BK4.out 4).trans rfl))
        go_ret
        exact ⟨by rw [HF.out,←HXI.out,HD.out];rfl,HB.out⟩
      replace e1:=Bool.eq_false_iff.mpr e1
      by_cases e2:(24:Int)<((rd_T39 l x).f0.size:Int)
      · go_wp2_with (first | ((with_reducible refine gate_dst (N := 4) rfl ?_); refine bx_ (N := 4) (cs := #[.string ⟨#[]⟩, .string ⟨#[]⟩, .int .i64 0, .int .i64 0, .int .i64 0]) (t := 39) ?_; intro gb4 hg w4 hbox hb; replace BK1 := am_ (blk_below BK1.out hb); have BK4 := am_ (hbox); have GE4 := am_ ((by rw [hg]; exact below_size HB.out : w.heap.size ≤ gb4)); replace HB := am_ (below_step HB.out hb); have EQ4 := am_ (hg); have NE := am_ (show gb1 ≠ gb4 from by have := blk_lt BK1_.out; rw [hg]; exact Nat.ne_of_lt this); clear hb hbox hg; have cgb4_0 := (blk_cell BK4.out 0).trans rfl; have cgb4_1 := (blk_cell BK4.out 1).trans rfl; have cgb4_2 := (blk_cell BK4.out 2).trans rfl; have cgb4_3 := (blk_cell BK4.out 3).trans rfl; have cgb4_4 := (blk_cell BK4.out 4).trans rfl) | ((with_reducible refine gate_store (t := 39) (p := 4) (v := .tmp 12) rfl ?_); refine store_all BK4.out 39 (.tmp 4) (.tmp 12) rfl rfl rfl (.agg #[.string (rd_T39 l x).f0, .string (rd_T39 l x).f1, .int .i64 (rd_T39 l x).f2.f0, .int .i64 (rd_T39 l x).f2.f1, .int .i64 (rd_T39 l x).f2.f2]) [.string (rd_T39 l x).f0, .string (rd_T39 l x).f1, .int .i64 (rd_T39 l x).f2.f0, .int .i64 (rd_T39 l x).f2.f1, .int .i64 (rd_T39 l x).f2.f2] rfl rfl rfl (by kernel_rfl) rfl (by intro q hq; simp only [List.mem_cons, List.not_mem_nil, or_false] at hq; rcases hq with rfl | rfl | rfl | rfl | rfl <;> rfl) ?_; intro w5 hbk hg; clear cgb4_0 cgb4_1 cgb4_2 cgb4_3 cgb4_4; replace BK1 := am_ (blk_put_other BK1.out hg (NE.out)); replace HB := am_ (below_put HB.out (below_size HB.out) hg GE4.out); replace BK4 := am_ (hbk); clear hbk hg; have cgb4_0 := (blk_cell BK4.out 0).trans rfl; have cgb4_1 := (blk_cell BK4.out 1).trans rfl; have cgb4_2 := (blk_cell BK4.out 2).trans rfl; have cgb4_3 := (blk_cell BK4.out 3).trans rfl; have cgb4_4 := (blk_cell BK4.out 4).trans rfl))
        go_ret
        exact ⟨by rw [HF.out,←HXI.out,HD.out];rfl,HB.out⟩
      have HV:vec_May.f (rd_T39 l x).f2.f0 (rd_T39 l x).f2.f1 (rd_T39 l x).f2.f2=some false:=by
        rw [vec_May_eq];refine congrArg some (decide_eq_false fun q=>HMM.out ⟨fun h=> ?_,by omega,q⟩);rw [h] at e1;rw [ByteArray.toList_eq] at e1;exact absurd e1 (by simp)
      have HV:=Aside0.mk HV
      go_wp2_with (first|((with_reducible refine gate_dst (N:=4) rfl ?_);refine bx_ (N:=4) (cs:=#[.string ⟨#[]⟩, .string ⟨#[]⟩, .int .i64 0, .int .i64 0, .int .i64 0]) (t:=39) ?_;intro gb4 hg w4 hbox hb;replace BK1:=am_ (blk_below BK1.out hb);have BK4:=am_ (hbox);have GE4:=am_ ((by rw [hg];exact below_size HB.out:w.heap.size≤gb4));replace HB:=am_ (below_step HB.out hb);have EQ4:=am_ (hg);have NE:=am_ (show gb1≠gb4 from by have:=blk_lt BK1_.out;rw [hg];exact Nat.ne_of_lt this);clear hb hbox hg;have cgb4_0:=zz_ BK4 0;have cgb4_1:=zz_ BK4 1;have cgb4_2:=zz_ BK4 2;have cgb4_3:=zz_ BK4 3;have cgb4_4:=zz_ BK4 4)|((with_reducible refine gate_store (t:=39) (p:=4) (v:= .tmp 12) rfl ?_);refine store_all BK4.out 39 (.tmp 4) (.tmp 12) rfl rfl rfl (.agg #[.string (rd_T39 l x).f0, .string (rd_T39 l x).f1, .int .i64 (rd_T39 l x).f2.f0, .int .i64 (rd_T39 l x).f2.f1, .int .i64 (rd_T39 l x).f2.f2]) [.string (rd_T39 l x).f0, .string (rd_T39 l x).f1, .int .i64 (rd_T39 l x).f2.f0, .int .i64 (rd_T39 l x).f2.f1, .int .i64 (rd_T39 l x).f2.f2] rfl rfl rfl (by kernel_rfl) rfl (by intro q hq;simp only [List.mem_cons,List.not_mem_nil,or_false] at hq;rcases hq with rfl|rfl|rfl|rfl|rfl<;>rfl) ?_;intro w5 hbk hg;clear cgb4_0 cgb4_1 cgb4_2 cgb4_3 cgb4_4;replace BK1:=am_ (blk_put_other BK1.out hg (NE.out));replace HB:=am_ (below_put HB.out (below_size HB.out) hg GE4.out);replace BK4:=am_ (hbk);clear hbk hg;have cgb4_0:=zz_ BK4 0;have cgb4_1:=zz_ BK4 1;have cgb4_2:=zz_ BK4 2;have cgb4_3:=zz_ BK4 3;have cgb4_4:=zz_ BK4 4))
      clear k0 k1 k2 k3 k4 p6 q6
      go_wp2_with (go_at_call 111;refine (vec_May.calls _ _ _ _ _ HV.out).mono ?_;rintro e w6 ⟨rfl,hb⟩;have n0_:=am_ (blk_below BK1.out hb);have n1_:=am_ (blk_below BK4.out hb);have n2_:=am_ (below_step HB.out hb);clear BK1 BK4 HB hb cgb4_0 cgb4_1 cgb4_2 cgb4_3 cgb4_4;have BK1:=n0_;have BK4:=n1_;have HB:=n2_;clear n0_ n1_ n2_;have cgb4_0:=zz_ BK4 0;have cgb1_0:=zz_ BK1 0)
      go_ret
      exact ⟨by rw [HF.out,←HXI.out,HD.out];rfl,HB.out⟩
    have HM:=hm;unfold wmay at HM;rw [decide_eq_true_iff] at HM;rw [if_pos hm] at HD;clear hm
    have hE:(rd_T39 l x).f0.toList.isEmpty=false:=by
      cases q:(rd_T39 l x).f0.toList with
      |nil=>exact absurd (ByteArray.ext (Array.toList_inj.1 (by rw [←ByteArray.toList_eq,q]))) HM.1
      |cons _ _=>rfl
    have hS: ¬((rd_T39 l x).f0.size:Int)>24:=by have:=HM.2.1;omega
    have hS': ¬(24:Int)<((rd_T39 l x).f0.size:Int):=by have:=HM.2.1;omega
    have HV:vec_May.f (rd_T39 l x).f2.f0 (rd_T39 l x).f2.f1 (rd_T39 l x).f2.f2=some true:=by rw [vec_May_eq];exact congrArg some (decide_eq_true HM.2.2)
    have HV:=Aside0.mk HV;clear HM
    go_wp2_with (first|((with_reducible refine gate_dst (N:=4) rfl ?_);refine bx_ (N:=4) (cs:=#[.string ⟨#[]⟩, .string ⟨#[]⟩, .int .i64 0, .int .i64 0, .int .i64 0]) (t:=39) ?_;intro gb4 hg w4 hbox hb;replace BK1:=am_ (blk_below BK1.out hb);have BK4:=am_ (hbox);have GE4:=am_ ((by rw [hg];exact below_size HB.out:w.heap.size≤gb4));replace HB:=am_ (below_step HB.out hb);have EQ4:=am_ (hg);have NE:=am_ (show gb1≠gb4 from by have:=blk_lt BK1_.out;rw [hg];exact Nat.ne_of_lt this);clear hb hbox hg;have cgb4_0:=zz_ BK4 0;have cgb4_1:=zz_ BK4 1;have cgb4_2:=zz_ BK4 2;have cgb4_3:=zz_ BK4 3;have cgb4_4:=zz_ BK4 4)|((with_reducible refine gate_store (t:=39) (p:=4) (v:= .tmp 12) rfl ?_);refine store_all BK4.out 39 (.tmp 4) (.tmp 12) rfl rfl rfl (.agg #[.string (rd_T39 l x).f0, .string (rd_T39 l x).f1, .int .i64 (rd_T39 l x).f2.f0, .int .i64 (rd_T39 l x).f2.f1, .int .i64 (rd_T39 l x).f2.f2]) [.string (rd_T39 l x).f0, .string (rd_T39 l x).f1, .int .i64 (rd_T39 l x).f2.f0, .int .i64 (rd_T39 l x).f2.f1, .int .i64 (rd_T39 l x).f2.f2] rfl rfl rfl (by kernel_rfl) rfl (by intro q hq;simp only [List.mem_cons,List.not_mem_nil,or_false] at hq;rcases hq with rfl|rfl|rfl|rfl|rfl<;>rfl) ?_;intro w5 hbk hg;clear cgb4_0 cgb4_1 cgb4_2 cgb4_3 cgb4_4;replace BK1:=am_ (blk_put_other BK1.out hg (NE.out));replace HB:=am_ (below_put HB.out (below_size HB.out) hg GE4.out);replace BK4:=am_ (hbk);clear hbk hg;have cgb4_0:=zz_ BK4 0;have cgb4_1:=zz_ BK4 1;have cgb4_2:=zz_ BK4 2;have cgb4_3:=zz_ BK4 3;have cgb4_4:=zz_ BK4 4))
    clear k0 k1 k2 k3 k4 p6 q6;by_cases hq:wplace l (rd_T39 l x).f0=x
    · rw [if_pos hq] at HD
      have hqb:(wplace l (rd_T39 l x).f0 !=x)=false:=by rw [hq];simp
      clear hq
      go_wp2_with (first|(go_at_call 111;refine (vec_May.calls _ _ _ _ _ HV.out).mono ?_;rintro e w6 ⟨rfl,hb⟩;have n0_:=am_ (blk_below BK1.out hb);have n1_:=am_ (blk_below BK4.out hb);have n2_:=am_ (below_step HB.out hb);clear BK1 BK4 HB hb cgb4_0 cgb4_1 cgb4_2 cgb4_3 cgb4_4;have BK1:=n0_;have BK4:=n1_;have HB:=n2_;clear n0_ n1_ n2_;have cgb4_0:=zz_ BK4 0;have cgb1_0:=zz_ BK1 0)|(go_at_call 73;refine (wantFind_calls (some ad) c l (rd_T39 l x).f0 _ (Kd.C_below HR.out HB.out) HC.out).mono ?_;rintro e w7 ⟨rfl,hb⟩;have n0_:=am_ (blk_below BK1.out hb);have n2_:=am_ (below_step HB.out hb);clear BK1 BK4 HB hb;have BK1:=n0_;have HB:=n2_;clear n0_ n2_))
      go_roundg (l.length - (i+1))
      case measure=>omega
      case rel=>exact ⟨i+1,by rw [HXI.out,wnx (by omega)],by omega,by omega,HB,BK1,⟨by rw [HF.out,←HXI.out,HD.out]⟩⟩
    rw [if_neg hq] at HD;have hqb:(wplace l (rd_T39 l x).f0 !=x)=true:=bne_iff_ne.mpr hq;clear hq;go_wp2_with (first|(go_at_call 111;refine (vec_May.calls _ _ _ _ _ HV.out).mono ?_;rintro e w6 ⟨rfl,hb⟩;have n0_:=am_ (blk_below BK1.out hb);have n1_:=am_ (blk_below BK4.out hb);have n2_:=am_ (below_step HB.out hb);clear BK1 BK4 HB hb cgb4_0 cgb4_1 cgb4_2 cgb4_3 cgb4_4;have BK1:=n0_;have BK4:=n1_;have HB:=n2_;clear n0_ n1_ n2_;have cgb4_0:=zz_ BK4 0;have cgb1_0:=zz_ BK1 0)|(go_at_call 73;refine (wantFind_calls (some ad) c l (rd_T39 l x).f0 _ (Kd.C_below HR.out HB.out) HC.out).mono ?_;rintro e w7 ⟨rfl,hb⟩;have n0_:=am_ (blk_below BK1.out hb);have n2_:=am_ (below_step HB.out hb);clear BK1 BK4 HB hb;have BK1:=n0_;have HB:=n2_;clear n0_ n2_))
    go_ret
    exact ⟨by rw [HF.out,←HXI.out,HD.out];rfl,HB.out⟩
end Go.Proofs.Ytahidkjncljkaaa.Print

namespace Go.Proofs.Ytahidkjncljkaaa.Print
open Go.RowKit Go.Proofs.YtahidkjncljkaaaW.PrintWords Go.Proofs.YtahidkjncljkaaaW.PrintLast Go.Proofs.YtahidkjncljkaaaW.PrintMore
open Go.Maps (Keyed)
open Go.WideMaps
theorem keyStr:Keyed Try.prog 9:=Maps.string_keyed Try.underlying9
theorem zeroInt (w:World):(zeroValue 3).run Try.prog w= .ok (.int .i64 0) w:=Try.zeroValue3 w
def MapAt (w:World) (b n:Nat) (f:ByteArray→Int):Prop:= ∃D:DataW Unit,w.ownsMap Try.prog 9 (plainElem Try.prog 3) b n D∧Maps.IsMap D∧ ∀s:ByteArray,s.size≤maxLen→D.atKey (.string s.data.toList) (.lit (.int .i64 0))= .lit (.int .i64 (f s))
theorem MapAt.made (w:World):MapAt (w.alloc (.map #[] 0)) w.heap.size 0 (fun _=>0):=⟨.map [],World.ownsMap_made _ _ _ _,Maps.isMap_empty,fun s _=>rfl⟩
theorem MapAt.lt {w:World} {b n:Nat} {f:ByteArray→Int} (h:MapAt w b n f):b<w.heap.size:=by obtain ⟨D,h,_⟩:=h;exact h.lt
theorem MapAt.kept {w w':World} {b n:Nat} {f:ByteArray→Int} (h:MapAt w b n f) (hb:w'.heap[b]?=w.heap[b]?):MapAt w' b n f:=by
 obtain ⟨D,⟨es,clock,h1,h2⟩,h3⟩:=h;exact ⟨D,⟨es,clock,hb.trans h1,h2⟩,h3⟩
theorem MapAt.below {w w':World} {b n:Nat} {f:ByteArray→Int} (h:MapAt w b n f) (hb:Below w.heap.size w w'):MapAt w' b n f:=h.kept (hb.block b h.lt)
theorem MapAt.other {w w':World} {b n g:Nat} {f:ByteArray→Int} (h:MapAt w b n f) (hg:w.grownBy w' (some g)) (hne:b≠g):MapAt w' b n f:=h.kept (hg.block b h.lt (by intro e;cases e;exact hne rfl))
theorem MapAt.mono {w:World} {b n m:Nat} {f:ByteArray→Int} (h:MapAt w b n f) (hn:n≤m):MapAt w b m f:=by obtain ⟨D,h,q⟩:=h;exact ⟨D,h.mono hn,q⟩
theorem MapAt.look {w:World} {b n:Nat} {f:ByteArray→Int} (h:MapAt w b n f) {t:TypeId} (ht:Try.prog.underlying t=some (.map 9 3)) {s:ByteArray} (hs:s.size≤maxLen) (wq:World) (hq:wq.heap=w.heap):(Instr.lookup t (.map (some b)) (.string s) false).run Try.prog wq= .ok (.int .i64 (f s)) wq:=by
 obtain ⟨D,h,_,hf⟩:=h.kept (w':=wq) (by rw [hq]);obtain ⟨c,hrun,hat,_⟩:=h.lookup_int keyStr ht Try.underlying3 (zeroInt _) (keyOf_string_mk Try.underlying9 hs);rw [hf s hs] at hat;rw [hrun];simp only [DataW.lit.injEq,Lit.int.injEq,true_and] at hat;rw [hat]
theorem str_key {s t:ByteArray}:(Lit.string s.data.toList)=(Lit.string t.data.toList)↔s=t:=by
  constructor
  rotate_left
  · rintro rfl;rfl
  intro h;simp only [Lit.string.injEq] at h;exact ByteArray.ext (Array.toList_inj.1 h)
def updM (f:ByteArray→Int) (s:ByteArray) (v:Int):ByteArray→Int:=fun x=>if x=s then v else f x
theorem MapAt.upd {w:World} {b n:Nat} {f:ByteArray→Int} (h:MapAt w b n f) {t:TypeId} (ht:Try.prog.underlying t=some (.map 9 3)) (hn:n<maxLen) {s:ByteArray} (hs:s.size≤maxLen) {v:Int} (hv:(Lit.int .i64 v).wf=true):
    ∃w',(Instr.mapUpdate t (.map (some b)) (.string s) (.int .i64 v)).run Try.prog w= .ok () w'∧MapAt w' b (n+1) (updM f s v)∧w.grownBy w' (some b):=by
  obtain ⟨D,h,hm,hf⟩:=h;obtain ⟨w',hrun,ho,hg⟩:=h.update keyStr ht hn (keyOf_string_mk Try.underlying9 hs) (plainElem_int Try.underlying3 hv);refine ⟨w',hrun,⟨_,ho,hm.put _ _,fun x hx=> ?_⟩,hg⟩;unfold updM;by_cases e:x=s
  · rw [if_pos e,e,Maps.atKey_put_same hm (by trivial)]
  rw [if_neg e,Maps.atKey_put_other (fun q=>e (str_key.1 q)),hf x hx]
section
variable {ops:Array Oper} {rest:List Oper} {o:Oper} {a:Act} {Q:Exit→Act→World→Prop} {Kc:Act→World→Prop} {W:World}
theorem map_step {b n:Nat} {f:ByteArray→Int} (hm:MapAt W b n f) (hw:Region.wanted o (yielded ops a.tmps)=true) (t:TypeId) (ht:Try.prog.underlying t=some (.map 9 3)) (m x y:Operand) (ho:o.op= .mapUpdate t m x y) (hN:o.dst=none) (s:ByteArray) (v:Int)
  (h1:a.eval m= .map (some b)) (h2:a.eval x= .string s) (h3:a.eval y= .int .i64 v) (hn:n<maxLen) (hs:s.size≤maxLen) (hv:(Lit.int .i64 v).wf=true)
  (h: ∀w',MapAt w' b (n+1) (updM f s v)→W.grownBy w' (some b)→Kc a w'):if Region.wanted o (yielded ops a.tmps)=true then Oper.wp Try.prog o a W Kc Q else Kc (a.put none undef) W:=by
 obtain ⟨w',hrun,hc,hg⟩:=hm.upd ht hn hs hv
 rw [if_pos hw]
 unfold Oper.wp execOp
 simp only [ho,h1,h2,h3,Sem.run_bind,Sem.run_pure,Result.andThen_ok,hrun]
 show Kc (a.put o.dst undef) _
 rw [hN]
 exact h _ hc hg
end
end Go.Proofs.Ytahidkjncljkaaa.Print

namespace Go.Proofs.Ytahidkjncljkaaa.Print
open Go.RowKit Go.Proofs.YtahidkjncljkaaaW.PrintWords Go.Proofs.YtahidkjncljkaaaW.PrintLast Go.Proofs.YtahidkjncljkaaaW.PrintMore
def KeptB (b:Nat) (W w:World):Prop:=(∀g ob,g≠b→W.heap[g]?=some ob→w.heap[g]?=some ob)∧W.heap.size≤w.heap.size
theorem keptB_refl (b:Nat) (W:World):KeptB b W W:=⟨fun _ _ _ h=>h,Nat.le_refl _⟩
theorem keptB_below {b:Nat} {W w w1:World} (h:KeptB b W w) (hb:Below w.heap.size w w1):KeptB b W w1:=⟨fun g ob hn hg=>blk_below (h.1 g ob hn hg) hb,Nat.le_trans h.2 hb.size⟩
theorem keptB_put {b g:Nat} {W w w1:World} (h:KeptB b W w) (hg:w.grownBy w1 (some g)) (hx:g=b∨W.heap.size≤g):KeptB b W w1:=
  ⟨fun k ob hn hk=>blk_put_other (h.1 k ob hn hk) hg (fun e=>by
    rcases hx with rfl|hx
    · exact hn e
    have:=blk_lt hk
    omega),Nat.le_trans h.2 hg.size⟩
end Go.Proofs.Ytahidkjncljkaaa.Print

namespace Go.Proofs.Ytahidkjncljkaaa.Print
open Go.RowKit Go.Proofs.YtahidkjncljkaaaW.PrintWords Go.Proofs.YtahidkjncljkaaaW.PrintLast Go.Proofs.YtahidkjncljkaaaW.PrintMore
attribute [local go_sem] max2_int min2_int max_two min_two max_three min_three max_four min_four

def fstep (f:ByteArray→Int) (w:S39):ByteArray→Int:=if w.f1=⟨#[]⟩ then updM f w.f0 1 else if f w.f1>0 then updM f w.f0 (wrap64 (f w.f1+1)) else f
def fround (l:List S39) (f:ByteArray→Int):ByteArray→Int:=l.foldl fstep f
def frounds (l:List S39):Nat→(ByteArray→Int)→ByteArray→Int
 |0,f=>f
 |n+1,f=>frounds l n (fround l f)
def fillR (l:List S39):ByteArray→Int:=frounds l l.length (fun _=>0)
theorem fround_drop {l:List S39} {i:Nat} (h:i<l.length) (f:ByteArray→Int):(l.drop i).foldl fstep f=(l.drop (i+1)).foldl fstep (fstep f (rd_T39 l i)):=by
 rw [List.drop_eq_getElem_cons h,List.foldl_cons]
 have e:rd_T39 l (i:Int)=l[i]:=by
  show l.getD (i:Int).toNat _=_
  rw [Int.toNat_natCast,List.getD_eq_getElem?_getD,List.getElem?_eq_getElem h,Option.getD_some]
 rw [e]
def smallW (l:List S39):Prop:= ∀w∈l,w.f0.size≤1000000∧w.f1.size≤1000000
theorem smallW_rd {l:List S39} (h:smallW l) (i:Int):(rd_T39 l i).f0.size≤maxLen∧(rd_T39 l i).f1.size≤maxLen:=by
  show (l.getD i.toNat _).f0.size≤_∧(l.getD i.toNat _).f1.size≤_
  rw [List.getD_eq_getElem?_getD]
  cases e:l[i.toNat]? with
  |none=>exact ⟨by show (0:Nat)≤_;omega,by show (0:Nat)≤_;omega⟩
  | some x =>
    have:=h x (List.mem_of_getElem? e)
    unfold maxLen;exact ⟨by show x.f0.size≤_;omega,by show x.f1.size≤_;omega⟩
theorem wf64 (n:Int):(Lit.int .i64 (wrap64 n)).wf=true:=by
  simp only [Lit.wf,Bool.and_eq_true,decide_eq_true_eq];unfold wrap64
  constructor
  · show (-9223372036854775808:Int)≤_;omega
  show _≤(9223372036854775807:Int);omega
set_option maxHeartbeats 8000000 in
set_option maxRecDepth 100000 in
theorem wantFill_calls (w W:World) (b:Nat) (A:Option Addr) (c:Nat) (l:List S39) (m0:Option Nat) (hb:W.heap[b]?=some (.cells #[.slice A l.length c, .map m0] 113 (0,0))) (hge:w.heap.size≤b) (hB:Below w.heap.size w W) (hr:Kd.C k39 w A l.length l) (hc:l.length≤c) (hl:l.length≤1000) (hs:smallW l):
    Calls Try.prog 74 #[.pointer (some ⟨b,0,none⟩)] W fun e w'=>e= .returned (.tuple #[])∧ ∃mb n,w'.heap[b]?=some (.cells #[.slice A l.length c, .map (some mb)] 113 (0,0))∧MapAt w' mb n (fillR l)∧Below w.heap.size w w'∧ ∀g ob,g≠b→W.heap[g]?=some ob→w'.heap[g]?=some ob:=by
  have hu113:=Try.underlying113;have hu110:=Try.underlying110;have hu39:=Try.underlying39;have hmm:=@run_makeMap Try.prog;have BK:=Aside0.mk hb;have GE:=Aside0.mk hge;have HB:=Aside0.mk hB;have HR:=Aside0.mk hr;have HC:=Aside0.mk hc;have HS:=Aside0.mk hs;have KP:=am_ (keptB_refl b W);have HBW:=HB;have cb_0:=zz_ BK 0;have cb_1:=zz_ BK 1;clear hb hge hB hr hc hs;go_enter Try.func74,Try.ntmps74;have HBL:=am_ (blk_lt BK.out);go_wp2_with ((with_reducible refine gate_store (t:=111) (p:=8) (v:= .tmp 6) rfl ?_);refine store_part (blk_alloc BK.out _) 111 (.tmp 8) (.tmp 6) rfl rfl rfl 1 (.map (some W.heap.size)) [.map (some W.heap.size)] [.slice A l.length c, .map (some W.heap.size)] rfl rfl rfl (by kernel_rfl) (Nat.le_of_ble_eq_true (by kernel_rfl)) (by intro q hq;simp only [List.mem_cons,List.not_mem_nil,or_false] at hq;rcases hq with rfl;rfl) (by kernel_rfl) ?_;intro w2 hbk hg;clear cb_0 cb_1;have MP:=am_ ((MapAt.made W).other hg (Nat.ne_of_gt HBL.out));have n0_:=am_ (below_put (below_alloc HB.out _) (by have:=below_size HB.out;simp;omega) hg GE.out);have n1_:=am_ (keptB_put (keptB_below KP.out (below_alloc (Below.refl _ _) _)) hg (.inl rfl));have n2_:=Aside0.mk hbk;clear BK HB KP hbk hg;have BK:=n2_;have HB:=n0_;have KP:=n1_;clear n0_ n1_ n2_;have cb_0:=zz_ BK 0)
  go_loopg [15] l.length (fun kq v15 w'=> ∃(i mb n:Nat) (f:ByteArray→Int),v15= .int .i64 i∧i≤l.length∧l.length - i≤kq∧n≤1000*i∧Aside0 (mb≠b∧W.heap.size≤mb)∧Aside0 (w'.heap[b]?=some (.cells #[.slice A l.length c, .map (some mb)] 113 (0,0)))∧Aside0 (MapAt w' mb n f)∧Aside0 (Below w.heap.size w w')∧Aside0 (KeptB b W w')∧Aside0 (fillR l=frounds l (l.length - i) f))
  case atStart=>exact ⟨0,W.heap.size,0,fun _=>0,rfl,by omega,by omega,by omega,⟨Nat.ne_of_gt HBL.out,Nat.le_refl _⟩,BK,MP,HB,KP,⟨rfl⟩⟩
  case round=>
    clear BK MP HB KP cb_0;obtain ⟨i,mb,n,f,rfl,hil,hkq,hn,HM,BK,MP,HB,KP,HF⟩:=hrel;by_cases hlt:i<l.length;rotate_left
    · obtain rfl : i = l.length := by omega
      go_wp2
      go_end0
      refine ⟨rfl,mb,n,BK.out, ?_,HB.out,KP.out.1⟩
      rw [HF.out,Nat.sub_self]
      exact MP.out


    have hltz:(i:Int)<(l.length:Int):=by omega
    have cb_0:=zz_ BK 0;go_wp2
    clear cb_0;go_loopg [23] l.length (fun kq v23 w'=> ∃(j n2:Nat) (f2:ByteArray→Int),v23= .int .i64 j∧j≤l.length∧l.length - j≤kq∧n2≤1000*i+j∧Aside0 (w'.heap[b]?=some (.cells #[.slice A l.length c, .map (some mb)] 113 (0,0)))∧Aside0 (MapAt w' mb n2 f2)∧Aside0 (Below w.heap.size w w')∧Aside0 (KeptB b W w')∧Aside0 (fround l f=(l.drop j).foldl fstep f2))
    case atStart=>exact ⟨0,n,f,rfl,by omega,by omega,by omega,BK,MP,HB,KP,⟨rfl⟩⟩
    case round=>
      clear BK MP HB KP;obtain ⟨j,n2,f2,rfl,hjl,hkj,hn2,BK,MP,HB,KP,HG⟩:=hrel;by_cases hjt:j<l.length;rotate_left
      · obtain rfl : j = l.length := by omega
        go_wp2
        go_roundg (l.length - (i+1))
        case measure=>omega
        case rel=>exact ⟨i+1,mb,n2,f2,by first|rfl|go_num,by omega,Nat.le_refl _,by omega,HM,BK,MP,HB,KP,⟨by
          have e:fround l f=f2:=by rw [HG.out,List.drop_length];rfl
          rw [HF.out,show l.length - i=(l.length - (i+1))+1 by omega]
          show frounds l _ (fround l f)=_
          rw [e]⟩⟩
      have hjz:(j:Int)<(l.length:Int):=by omega
      obtain ⟨x,hx⟩: ∃x:Int,x=(j:Int):=⟨_,rfl⟩;have HX0:=am_ (show 0≤x by omega);have HX1:=am_ (show x<(l.length:Int) by omega);have HD:=am_ (fround_drop hjt f2);rw [←hx] at HD;have HXI:=Aside0.mk hx;rw [←hx];have hltx:x<(l.length:Int):=HX1.out;have SM:=am_ (smallW_rd HS.out x);clear hjz hx;have p6:0≤x:=HX0.out;have q6:x<(l.length:Int):=HX1.out;obtain ⟨ad,e6,k0,k1,k2,k3,k4⟩:=at_T39 HR.out x p6 q6;cases e6;have k0:=zx_ HB k0;have k1:=zx_ HB k1;have k2:=zx_ HB k2;have k3:=zx_ HB k3;have k4:=zx_ HB k4;replace p6:=eq_true p6;replace q6:=eq_true q6;by_cases e1:(rd_T39 l x).f1=⟨#[]⟩
      · have hE : (rd_T39 l x).f1.toList.isEmpty = true := by rw [e1, ByteArray.toList_eq]; rfl
        have E1:=Aside0.mk e1
        clear e1
        go_wp2_with (first|((with_reducible refine gate_dst (N:=3) rfl ?_);refine bx_ (N:=3) (cs:=#[.string ⟨#[]⟩, .string ⟨#[]⟩, .int .i64 0, .int .i64 0, .int .i64 0]) (t:=39) ?_;intro gb3 hg w4 hbox hb;have NE:=am_ (show b≠gb3 from by have:=blk_lt BK.out;rw [hg];exact Nat.ne_of_lt this);have NM:=am_ (show mb≠gb3 from by have:=MP.out.lt;rw [hg];exact Nat.ne_of_lt this);have GW:=am_ (show W.heap.size≤gb3 from by rw [hg];exact KP.out.2);have GE3:=am_ (show w.heap.size≤gb3 from by rw [hg];exact below_size HB.out);have n0_:=am_ (blk_below BK.out hb);have n1_:=am_ (MP.out.below hb);have n2_:=am_ (below_step HB.out hb);have n3_:=am_ (keptB_below KP.out hb);have BK3:=Aside0.mk hbox;clear BK MP HB KP hb hbox hg;have BK:=n0_;have MP:=n1_;have HB:=n2_;have KP:=n3_;clear n0_ n1_ n2_ n3_;have c3_0:=zz_ BK3 0;have c3_1:=zz_ BK3 1;have c3_2:=zz_ BK3 2;have c3_3:=zz_ BK3 3;have c3_4:=zz_ BK3 4)|((with_reducible refine gate_store (t:=39) (p:=3) (v:= .tmp 26) rfl ?_);refine store_all BK3.out 39 (.tmp 3) (.tmp 26) rfl rfl rfl (.agg #[.string (rd_T39 l x).f0, .string (rd_T39 l x).f1, .int .i64 (rd_T39 l x).f2.f0, .int .i64 (rd_T39 l x).f2.f1, .int .i64 (rd_T39 l x).f2.f2]) [.string (rd_T39 l x).f0, .string (rd_T39 l x).f1, .int .i64 (rd_T39 l x).f2.f0, .int .i64 (rd_T39 l x).f2.f1, .int .i64 (rd_T39 l x).f2.f2] rfl rfl rfl (by kernel_rfl) rfl (by intro q hq;simp only [List.mem_cons,List.not_mem_nil,or_false] at hq;rcases hq with rfl|rfl|rfl|rfl|rfl<;>rfl) ?_;intro w5 hbk hg;clear c3_0 c3_1 c3_2 c3_3 c3_4;have n0_:=am_ (blk_put_other BK.out hg NE.out);have n1_:=am_ (MP.out.other hg NM.out);have n2_:=am_ (below_put HB.out (below_size HB.out) hg GE3.out);have n3_:=am_ (keptB_put KP.out hg (.inr GW.out));have n4_:=Aside0.mk hbk;clear BK MP HB KP BK3 hbk hg;have BK:=n0_;have MP:=n1_;have HB:=n2_;have KP:=n3_;have BK3:=n4_;clear n0_ n1_ n2_ n3_ n4_;have c3_1:=zz_ BK3 1))
        clear k0 k1 k2 k3 k4 p6 q6
        have n0_:=am_ (blk_drew BK.out)
        have n1_:=am_ (MP.out.kept (w':=w5.drew) rfl)
        have n2_:=am_ (below_drew1 HB.out)
        have n3_:=am_ (keptB_below KP.out (below_drew1 (Below.refl _ _)))
        have n4_:=am_ (blk_drew BK3.out)
        clear BK MP HB KP BK3 c3_1
        have BK:=n0_
        have MP:=n1_
        have HB:=n2_
        have KP:=n3_
        have BK3:=n4_
        clear n0_ n1_ n2_ n3_ n4_
        refine start_ (n:=7) (S:=fun w'=>w'.cell? ⟨b,1,none⟩=some (.map (some mb))∧w'.cell? ⟨gb3,0,none⟩=some (.string (rd_T39 l x).f0)) (ds:=[6]) (bs_ 7 0) (by kernel_rfl) rfl rfl ⟨(blk_cell BK.out 1).trans rfl,(blk_cell BK3.out 0).trans rfl⟩ (fun hHeld=> ?_)
        generalize w5.drew=w9 at BK MP HB KP BK3 hHeld ⊢
        refine pv_ (i:=0) (N:=some 30) (bs_ 7 1) ?_
        refine pv_ (i:=1) (N:=some 31) (bs_ 7 2) ?_
        refine pv_ (i:=2) (N:=some 32) (bs_ 7 3) ?_
        refine tv_ (i:=3) (N:=some 33) (bs_ 7 4) hHeld ?_
        refine pv_ (i:=4) (N:=some 34) (bs_ 7 5) ?_
        refine tv_ (i:=5) (N:=some 35) (bs_ 7 6) hHeld ?_
        refine last_ (i:=6) (N:=none) (bs_ 7 7) rfl rfl (by kernel_rfl) (by decide) (fun K hK=> ?_)
        refine map_step MP.out (by rfl) 111 Try.underlying111 (.tmp 33) (.tmp 35) (.const (.int .i64 1)) rfl rfl _ _ rfl rfl rfl (by unfold maxLen;omega) SM.out.1 (by decide) ?_
        intro w10 hm hg
        have n0_:=am_ (blk_put_other BK.out hg (fun e=>HM.out.1 e.symm))
        have n1_:=Aside0.mk hm
        have n2_:=am_ (below_put HB.out (below_size HB.out) hg (Nat.le_trans (below_size HBW.out) HM.out.2))
        have n3_:=am_ (keptB_put KP.out hg (.inr HM.out.2))
        clear BK MP HB KP BK3 hm hg
        have BK:=n0_
        have MP:=n1_
        have HB:=n2_
        have KP:=n3_
        clear n0_ n1_ n2_ n3_
        refine hK.out _ _ ?_
        clear hK K hHeld
        refine done_ (by kernel_rfl) ?_
        go_wp2
        go_roundg (l.length - (j+1))
        case measure=>omega
        case rel=>exact ⟨j+1,n2+1,_,by rw [HXI.out,wnx (by omega)],by omega,Nat.le_refl _,by omega,BK,MP,HB,KP,⟨by rw [HG.out,HD.out];unfold fstep;rw [if_pos E1.out]⟩⟩
      have hE:(rd_T39 l x).f1.toList.isEmpty=false:=by
        cases q:(rd_T39 l x).f1.toList with
        |nil=>exact absurd (ByteArray.ext (Array.toList_inj.1 (by rw [←ByteArray.toList_eq,q]))) e1
        |cons _ _=>rfl
      have E1:=Aside0.mk e1;clear e1
      go_wp2_with (first|((with_reducible refine gate_dst (N:=3) rfl ?_);refine bx_ (N:=3) (cs:=#[.string ⟨#[]⟩, .string ⟨#[]⟩, .int .i64 0, .int .i64 0, .int .i64 0]) (t:=39) ?_;intro gb3 hg w4 hbox hb;have NE:=am_ (show b≠gb3 from by have:=blk_lt BK.out;rw [hg];exact Nat.ne_of_lt this);have NM:=am_ (show mb≠gb3 from by have:=MP.out.lt;rw [hg];exact Nat.ne_of_lt this);have GW:=am_ (show W.heap.size≤gb3 from by rw [hg];exact KP.out.2);have GE3:=am_ (show w.heap.size≤gb3 from by rw [hg];exact below_size HB.out);have n0_:=am_ (blk_below BK.out hb);have n1_:=am_ (MP.out.below hb);have n2_:=am_ (below_step HB.out hb);have n3_:=am_ (keptB_below KP.out hb);have BK3:=Aside0.mk hbox;clear BK MP HB KP hb hbox hg;have BK:=n0_;have MP:=n1_;have HB:=n2_;have KP:=n3_;clear n0_ n1_ n2_ n3_;have c3_0:=zz_ BK3 0;have c3_1:=zz_ BK3 1;have c3_2:=zz_ BK3 2;have c3_3:=zz_ BK3 3;have c3_4:=zz_ BK3 4)|((with_reducible refine gate_store (t:=39) (p:=3) (v:= .tmp 26) rfl ?_);refine store_all BK3.out 39 (.tmp 3) (.tmp 26) rfl rfl rfl (.agg #[.string (rd_T39 l x).f0, .string (rd_T39 l x).f1, .int .i64 (rd_T39 l x).f2.f0, .int .i64 (rd_T39 l x).f2.f1, .int .i64 (rd_T39 l x).f2.f2]) [.string (rd_T39 l x).f0, .string (rd_T39 l x).f1, .int .i64 (rd_T39 l x).f2.f0, .int .i64 (rd_T39 l x).f2.f1, .int .i64 (rd_T39 l x).f2.f2] rfl rfl rfl (by kernel_rfl) rfl (by intro q hq;simp only [List.mem_cons,List.not_mem_nil,or_false] at hq;rcases hq with rfl|rfl|rfl|rfl|rfl<;>rfl) ?_;intro w5 hbk hg;clear c3_0 c3_1 c3_2 c3_3 c3_4;have n0_:=am_ (blk_put_other BK.out hg NE.out);have n1_:=am_ (MP.out.other hg NM.out);have n2_:=am_ (below_put HB.out (below_size HB.out) hg GE3.out);have n3_:=am_ (keptB_put KP.out hg (.inr GW.out));have n4_:=Aside0.mk hbk;clear BK MP HB KP BK3 hbk hg;have BK:=n0_;have MP:=n1_;have HB:=n2_;have KP:=n3_;have BK3:=n4_;clear n0_ n1_ n2_ n3_ n4_;have c3_1:=zz_ BK3 1))
      clear k0 k1 k2 k3 k4 p6 q6;have cb_1:=zz_ BK 1;have z0:=fun (n_:Nat)=>(show (w5.drewN n_).cell? _=some _ from cb_1)
      have z1:=fun (n_:Nat)=>(show (w5.drewN n_).cell? _=some _ from c3_1)
      have z2:=fun (n_:Nat)=>MP.out.look Try.underlying111 SM.out.2 (w5.drewN n_) rfl
      by_cases e2:0<f2 (rd_T39 l x).f1;rotate_left
      · have E2 := Aside0.mk e2
        go_quiet (fail)
        try go_wp2
        clear z0 z1 z2 cb_1 c3_1
        replace BK:=am_ (blk_drewN BK.out nq)
        replace MP:=am_ (MP.out.kept (w':=w5.drewN nq) rfl)
        replace HB:=am_ (pw_below_drewN HB.out nq)
        replace KP:=am_ (keptB_below KP.out (pw_below_drewN (Below.refl _ _) nq))
        replace BK3:=am_ (blk_drewN BK3.out nq)
        generalize w5.drewN nq=w8 at BK MP HB KP BK3 ⊢
        go_roundg (l.length - (j+1))
        case measure=>omega
        case rel=>exact ⟨j+1,n2,f2,by rw [HXI.out,wnx (by omega)],by omega,Nat.le_refl _,by omega,BK,MP,HB,KP,⟨by rw [HG.out,HD.out];unfold fstep;rw [if_neg E1.out,if_neg (by have:=E2.out;omega)]⟩⟩
      have E2:=Aside0.mk e2;go_quiet (fail)
      try go_wp2
      clear z0 z1 z2 cb_1 c3_1;replace BK:=am_ (blk_drewN BK.out nq);replace MP:=am_ (MP.out.kept (w':=w5.drewN nq) rfl);replace HB:=am_ (pw_below_drewN HB.out nq);replace KP:=am_ (keptB_below KP.out (pw_below_drewN (Below.refl _ _) nq));replace BK3:=am_ (blk_drewN BK3.out nq);generalize w5.drewN nq=w8 at BK MP HB KP BK3 ⊢;replace BK:=am_ (blk_drew BK.out);replace MP:=am_ (MP.out.kept (w':=w8.drew) rfl);replace HB:=am_ (below_drew1 HB.out);replace KP:=am_ (keptB_below KP.out (below_drew1 (Below.refl _ _)));replace BK3:=am_ (blk_drew BK3.out);refine start_ (n:=9) (S:=fun w'=>w'.cell? ⟨b,1,none⟩=some (.map (some mb))∧w'.cell? ⟨gb3,0,none⟩=some (.string (rd_T39 l x).f0)) (ds:=[8]) (bs_ 9 0) (by kernel_rfl) rfl rfl ⟨(blk_cell BK.out 1).trans rfl,(blk_cell BK3.out 0).trans rfl⟩ (fun hHeld=> ?_);generalize w8.drew=w9 at BK MP HB KP BK3 hHeld ⊢;refine pv_ (i:=0) (N:=some 45) (bs_ 9 1) ?_;refine pv_ (i:=1) (N:=some 46) (bs_ 9 2) ?_;refine pv_ (i:=2) (N:=some 47) (bs_ 9 3) ?_;refine tv_ (i:=3) (N:=some 48) (bs_ 9 4) hHeld ?_;refine pv_ (i:=4) (N:=some 49) (bs_ 9 5) ?_;refine tv_ (i:=5) (N:=some 50) (bs_ 9 6) hHeld ?_;refine pv_ (i:=6) (N:=some 51) (bs_ 9 7) ?_;refine pv_ (i:=7) (N:=some 52) (bs_ 9 8) ?_;refine last_ (i:=8) (N:=none) (bs_ 9 9) rfl rfl (by kernel_rfl) (by decide) (fun K hK=> ?_);refine map_step MP.out (by rfl) 111 Try.underlying111 (.tmp 48) (.tmp 50) (.tmp 52) rfl rfl _ _ rfl rfl rfl (by unfold maxLen;omega) SM.out.1 (wf64 _) ?_;intro w10 hm hg
      have n0_:=am_ (blk_put_other BK.out hg (fun e=>HM.out.1 e.symm));have n1_:=Aside0.mk hm;have n2_:=am_ (below_put HB.out (below_size HB.out) hg (Nat.le_trans (below_size HBW.out) HM.out.2));have n3_:=am_ (keptB_put KP.out hg (.inr HM.out.2));clear BK MP HB KP BK3 hm hg;have BK:=n0_;have MP:=n1_;have HB:=n2_;have KP:=n3_;clear n0_ n1_ n2_ n3_;refine hK.out _ _ ?_;clear hK K hHeld;refine done_ (by kernel_rfl) ?_;go_wp2
      go_roundg (l.length - (j+1))
      case measure=>omega
      case rel=>exact ⟨j+1,n2+1,_,by rw [HXI.out,wnx (by omega)],by omega,Nat.le_refl _,by omega,BK,MP,HB,KP,⟨by rw [HG.out,HD.out];unfold fstep;rw [if_neg E1.out,if_pos E2.out]⟩⟩
end Go.Proofs.Ytahidkjncljkaaa.Print

namespace Go.Proofs.Ytahidkjncljkaaa.Print
open Go.Sort
variable {α:Type} [Inhabited α]
def SwapAt (x y n:Nat) (d d':Array α):Prop:=d'.size=d.size∧ ∀k,d'[k]! =if x≤k∧k<x+n then d[k+(y - x)]! else if y≤k∧k<y+n then d[k - (y - x)]! else d[k]!
def RotAt (a m b:Nat) (d d':Array α):Prop:=d'.size=d.size∧ ∀k,d'[k]! =if a≤k∧k<a+(b - m) then d[k+(m - a)]! else if a+(b - m)≤k∧k<b then d[k - (b - m)]! else d[k]!
theorem get_eq (d:Array α) {i j:Nat} (h:i=j):d[i]! =d[j]!:=by rw [h]
theorem swapAt_zero (x y:Nat) (d:Array α):SwapAt x y 0 d d:=⟨rfl,fun k=>by rw [if_neg (by omega),if_neg (by omega)]⟩
theorem swapAt_step {x y n:Nat} {d dc:Array α} (h:SwapAt x y n d dc) (hxy:x+n<y) (hy:y+n<d.size):SwapAt x y (n+1) d (swp dc (x+n) (y+n)):=by
  have hs:=h.1;refine ⟨by rw [swp_size,hs],fun k=> ?_⟩;rw [swp_get dc (by omega) (by omega),h.2,h.2,h.2];by_cases h1:k=y+n
  · rw [if_pos h1, if_neg (by omega), if_neg (by omega), if_neg (by omega), if_pos (by omega)]
    exact get_eq _ (by omega)
  by_cases h2:k=x+n
  · rw [if_neg h1, if_pos h2, if_neg (by omega), if_neg (by omega), if_pos (by omega)]
    exact get_eq _ (by omega)
  rw [if_neg h1,if_neg h2];by_cases h3:x≤k∧k<x+n
  · rw [if_pos h3,if_pos (by omega)]
  rw [if_neg h3];by_cases h4:y≤k∧k<y+n
  · rw [if_pos h4,if_neg (by omega),if_pos (by omega)]
  rw [if_neg h4,if_neg (by omega),if_neg (by omega)]
theorem rot_more {m i j:Nat} {d d1 d2:Array α} (hij:j<i) (him:i≤m) (h:SwapAt (m - i) m j d d1) (h2:RotAt (m - (i - j)) m (m+j) d1 d2):RotAt (m - i) m (m+j) d d2:=by
  refine ⟨by rw [h2.1,h.1],fun k=> ?_⟩;rw [h2.2];by_cases c1:m - (i - j)≤k∧k<m - (i - j)+(m+j - m)
  · rw [if_pos c1, h.2, if_neg (by omega), if_pos (by omega), if_neg (by omega), if_pos (by omega)]
    exact get_eq _ (by omega)
  rw [if_neg c1];by_cases c2:m - (i - j)+(m+j - m)≤k∧k<m+j
  · rw [if_pos c2,h.2,if_neg (by omega),if_neg (by omega),if_neg (by omega),if_pos (by omega)]
  rw [if_neg c2,h.2];by_cases c3:m - i≤k∧k<m - i+j
  · rw [if_pos c3,if_pos (by omega)]
  rw [if_neg c3,if_neg (by omega),if_neg (by omega),if_neg (by omega)]
theorem rot_less {m i j:Nat} {d d1 d2:Array α} (hij:i<j) (him:i≤m) (h:SwapAt (m - i) (m+j - i) i d d1) (h2:RotAt (m - i) m (m+(j - i)) d1 d2):RotAt (m - i) m (m+j) d d2:=by
  refine ⟨by rw [h2.1,h.1],fun k=> ?_⟩;rw [h2.2];by_cases c1:m - i≤k∧k<m - i+(m+(j - i) - m)
  · rw [if_pos c1, h.2]
    by_cases c2:m - i≤k+(m - (m - i))∧k+(m - (m - i))<m - i+i
    · omega
    rw [if_neg c2,if_neg (by omega),if_pos (by omega)]
  rw [if_neg c1];by_cases c2:m - i+(m+(j - i) - m)≤k∧k<m+(j - i)
  · rw [if_pos c2, h.2, if_pos (by omega), if_pos (by omega)]
    exact get_eq _ (by omega)
  rw [if_neg c2,h.2,if_neg (by omega)];by_cases c3:m+j - i≤k∧k<m+j - i+i
  · rw [if_pos c3, if_neg (by omega), if_pos (by omega)]
    exact get_eq _ (by omega)
  rw [if_neg c3,if_neg (by omega),if_neg (by omega)]
theorem rot_same {m i:Nat} {d d':Array α} (him:i≤m) (h:SwapAt (m - i) m i d d'):RotAt (m - i) m (m+i) d d':=by
  refine ⟨h.1,fun k=> ?_⟩;rw [h.2];by_cases c1:m - i≤k∧k<m - i+i
  · rw [if_pos c1,if_pos (by omega)]
  rw [if_neg c1];by_cases c2:m≤k∧k<m+i
  · rw [if_pos c2, if_neg (by omega), if_pos (by omega)]
    exact get_eq _ (by omega)
  rw [if_neg c2,if_neg (by omega),if_neg (by omega)]
theorem rot_left (m e:Nat) (d:Array α):RotAt m m e d d:=⟨rfl,fun k=>by
  by_cases c1:m≤k∧k<m+(e - m)
  · rw [if_pos c1];exact get_eq _ (by omega)
  rw [if_neg c1,if_neg (by omega)]⟩
theorem rot_right (s m:Nat) (d:Array α):RotAt s m m d d:=⟨rfl,fun k=>by
  rw [if_neg (by omega)];by_cases c1:s+(m - m)≤k∧k<m
  · rw [if_pos c1];exact get_eq _ (by omega)
  rw [if_neg c1]⟩
theorem rot_up {a k:Nat} {d dc:Array α} (h:RotAt a (a+1) (k+1) d dc) (hak:a≤k) (hk:k+1<d.size):RotAt a (a+1) (k+2) d (swp dc k (k+1)):=by
  have hs:=h.1
  refine ⟨by rw [swp_size,hs],fun q=> ?_⟩
  rw [swp_get dc (by omega) (by omega),h.2,h.2,h.2]
  by_cases h1:q=k+1
  · rw [if_pos h1, if_neg (by omega), if_pos (by omega), if_neg (by omega), if_pos (by omega)]
    exact get_eq _ (by omega)
  by_cases h2:q=k
  · rw [if_neg h1, if_pos h2, if_neg (by omega), if_neg (by omega), if_pos (by omega)]
    exact get_eq _ (by omega)
  rw [if_neg h1,if_neg h2]
  by_cases h3:a≤q∧q<a+(k+1 - (a+1))
  · rw [if_pos h3,if_pos (by omega)]
  rw [if_neg h3,if_neg (by omega),if_neg (by omega),if_neg (by omega)]
theorem rot_down {k m:Nat} {d dc:Array α} (h:RotAt (k+1) m (m+1) d dc) (hkm:k<m) (hm:m<d.size):RotAt k m (m+1) d (swp dc (k+1) k):=by
  have hs:=h.1
  refine ⟨by rw [swp_size,hs],fun q=> ?_⟩
  rw [swp_get dc (by omega) (by omega),h.2,h.2,h.2]
  by_cases h1:q=k
  · rw [if_pos h1, if_pos (by omega), if_pos (by omega)]
    exact get_eq _ (by omega)
  by_cases h2:q=k+1
  · rw [if_neg h1, if_pos h2, if_neg (by omega), if_neg (by omega), if_neg (by omega), if_pos (by omega)]
    exact get_eq _ (by omega)
  rw [if_neg h1,if_neg h2,if_neg (by omega)]
  by_cases h3:k+1+(m+1 - m)≤q∧q<m+1
  · rw [if_pos h3,if_neg (by omega),if_pos (by omega)]
  rw [if_neg h3,if_neg (by omega),if_neg (by omega)]
theorem rot_src {s m e:Nat} {d d':Array α} (h:RotAt s m e d d') (hsm:s≤m) (hme:m≤e) (k:Nat): ∃q,d'[k]! =d[q]!∧((k<s∧q=k)∨(s≤k∧k<s+(e - m)∧q=k+(m - s))∨(s+(e - m)≤k∧k<e∧q=k - (e - m))∨(e≤k∧q=k)):=by
  rw [h.2]
  by_cases c1:s≤k∧k<s+(e - m)
  · rw [if_pos c1];exact ⟨_,rfl,by omega⟩
  rw [if_neg c1]
  by_cases c2:s+(e - m)≤k∧k<e
  · rw [if_pos c2];exact ⟨_,rfl,by omega⟩
  rw [if_neg c2];exact ⟨_,rfl,by omega⟩
variable {lt:α→α→Bool}
theorem sym_half {a s m e b:Nat} {d d':Array α} (h:RotAt s m e d d') (has:a≤s) (hsm:s≤m) (hme:m≤e) (heb:e≤b) (hA:SortedIn lt a m d) (hB:SortedIn lt m b d)
    (x1: ∀x y,a≤x→x<s→e≤y→y<b→lt d[y]! d[x]! =false) (x2: ∀x y,m≤x→x<e→s≤y→y<m→lt d[y]! d[x]! =false):
    SortedIn lt a s d'∧SortedIn lt s (s+(e - m)) d'∧SortedIn lt (s+(e - m)) e d'∧SortedIn lt e b d'∧ ∀x y,a≤x→x<s+(e - m)→s+(e - m)≤y→y<b→lt d'[y]! d'[x]! =false:=by
  have key:=rot_src h hsm hme
  refine ⟨fun i j h1 h2 h3=> ?_,fun i j h1 h2 h3=> ?_,fun i j h1 h2 h3=> ?_,fun i j h1 h2 h3=> ?_,fun i j h1 h2 h3 h4=> ?_⟩
  all_goals
    obtain ⟨q,eq,cq⟩:=key i
    obtain ⟨r,er,cr⟩:=key j
    rw [eq,er]
  · exact hA q r (by omega) (by omega) (by omega)
  · exact hB q r (by omega) (by omega) (by omega)
  · exact hA q r (by omega) (by omega) (by omega)
  · exact hB q r (by omega) (by omega) (by omega)
  rcases cq with cq|cq|cq|cq<;>rcases cr with cr|cr|cr|cr<;>first
    |(exfalso;omega)
    |exact hA q r (by omega) (by omega) (by omega)
    |exact hB q r (by omega) (by omega) (by omega)
    |exact x1 q r (by omega) (by omega) (by omega) (by omega)
    |exact x2 q r (by omega) (by omega) (by omega) (by omega)
theorem sym_x1 (hS:SWO lt) {a s m e b:Nat} {d:Array α} (hA:SortedIn lt a m d) (hB:SortedIn lt m b d) (hsm:s≤m) (hme:m≤e) (h:a<s→e<b→lt d[e]! d[s - 1]! =false): ∀x y,a≤x→x<s→e≤y→y<b→lt d[y]! d[x]! =false:=by
  intro x y h1 h2 h3 h4
  have k:=h (by omega) (by omega)
  have k1:lt d[e]! d[x]! =false:=by
    by_cases q:x=s - 1
    · rw [q];exact k
    exact hS.ntrans _ _ _ k (hA x (s - 1) h1 (by omega) (by omega))
  by_cases q:y=e
  · rw [q];exact k1
  exact hS.ntrans _ _ _ (hB e y (by omega) (by omega) h4) k1
theorem sym_x2 (hS:SWO lt) {a s m e b:Nat} {d:Array α} (hA:SortedIn lt a m d) (hB:SortedIn lt m b d) (has:a≤s) (heb:e≤b) (h:m<e→s<m→lt d[s]! d[e - 1]! =false): ∀x y,m≤x→x<e→s≤y→y<m→lt d[y]! d[x]! =false:=by
  intro x y h1 h2 h3 h4;have k:=h (by omega) (by omega)
  have k1:lt d[s]! d[x]! =false:=by
    by_cases q:x=e - 1
    · rw [q];exact k
    exact hS.ntrans _ _ _ k (hB x (e - 1) h1 (by omega) (by omega))
  by_cases q:y=s
  · rw [q];exact k1
  exact hS.ntrans _ _ _ (hA s y has (by omega) h4) k1
theorem sym_join {a mid b:Nat} {d d1 d2:Array α} (ham:a≤mid) (hmb:mid≤b) (hb:b≤d.size) (hx: ∀x y,a≤x→x<mid→mid≤y→y<b→lt d[y]! d[x]! =false)
    (p1:PermIn a mid d d1) (s1:SortedIn lt a mid d1) (p2:PermIn mid b d1 d2) (s2:SortedIn lt mid b d2):SortedIn lt a b d2∧PermIn a b d d2:=by
  have k1: ∀x,a≤x→x<mid→ ∀y,mid≤y→y<b→lt d1[y]! d1[x]! =false:=by
    have q:=permIn_all d d1 a mid (fun v=> ∀y,mid≤y→y<b→lt d[y]! v=false) (by omega) p1 (fun i h1 h2 y h3 h4=>hx i y h1 h2 h3 h4)
    intro x h1 h2 y h3 h4
    rw [p1.2.1 y (by omega)]
    exact q x h1 h2 y h3 h4
  have k2: ∀y,mid≤y→y<b→ ∀x,a≤x→x<mid→lt d2[y]! d2[x]! =false:=by
    have q:=permIn_all d1 d2 mid b (fun v=> ∀x,a≤x→x<mid→lt v d1[x]! =false) (by rw [p1.1];exact hb) p2 (fun i h1 h2 x h3 h4=>k1 x h3 h4 i h1 h2)
    intro y h1 h2 x h3 h4
    rw [p2.2.1 x (by omega)]
    exact q y h1 h2 x h3 h4
  refine ⟨fun i j h1 h2 h3=> ?_,permIn_trans _ _ _ _ _ (permIn_mono d d1 a mid a b (Nat.le_refl _) hmb hb p1) (permIn_mono d1 d2 mid b a b ham (Nat.le_refl _) (by rw [p1.1];exact hb) p2)⟩
  by_cases c1:j<mid
  · rw [p2.2.1 i (by omega), p2.2.1 j (by omega)]
    exact s1 i j h1 h2 c1
  by_cases c2:i<mid
  · exact k2 j (by omega) h3 i h1 c2
  exact s2 i j (by omega) h2 h3
theorem ins_left (hS:SWO lt) {a i b:Nat} {d d':Array α} (h:RotAt a (a+1) i d d') (hai:a+1≤i) (hib:i≤b) (hB:SortedIn lt (a+1) b d) (l: ∀c,a+1≤c→c<i→lt d[c]! d[a]! =true) (g: ∀c,i≤c→c<b→lt d[c]! d[a]! =false):SortedIn lt a b d':=by
  have key:=rot_src h (by omega) hai
  intro x y h1 h2 h3
  obtain ⟨q,eq,cq⟩:=key x
  obtain ⟨r,er,cr⟩:=key y
  rw [eq,er]
  by_cases cx:q=a
  · rw [cx]
    exact g r (by omega) (by omega)
  by_cases cy:r=a
  · rw [cy]
    exact hS.asymmA (l q (by omega) (by omega))
  exact hB q r (by omega) (by omega) (by omega)
theorem ins_right_ (hS:SWO lt) {a i m:Nat} {d d':Array α} (h:RotAt i m (m+1) d d') (hai:a≤i) (him:i≤m) (hA:SortedIn lt a m d) (l: ∀c,a≤c→c<i→lt d[m]! d[c]! =false) (g: ∀c,i≤c→c<m→lt d[m]! d[c]! =true):SortedIn lt a (m+1) d':=by
  have key:=rot_src h him (by omega)
  intro x y h1 h2 h3
  obtain ⟨q,eq,cq⟩:=key x
  obtain ⟨r,er,cr⟩:=key y
  rw [eq,er]
  by_cases cx:q=m
  · rw [cx]
    exact hS.asymmA (g r (by omega) (by omega))
  by_cases cy:r=m
  · rw [cy]
    exact l q (by omega) (by omega)
  exact hA q r (by omega) (by omega) (by omega)
theorem sorted_le (hS:SWO lt) {a b:Nat} {d:Array α} (h:SortedIn lt a b d) {x y:Nat} (h1:a≤x) (h2:x≤y) (h3:y<b):lt d[y]! d[x]! =false:=by
  by_cases q:x=y
  · rw [q];exact hS.irrefl _
  exact h x y h1 (by omega) h3
theorem lt_le_lt {β:Type} {lt:β→β→Bool} (hS:SWO lt) {x y z:β} (h1:lt x y=true) (h2:lt z y=false):lt x z=true:=by
 cases h:lt x z with
 |true=>rfl
 |false=>rw [hS.ntrans _ _ _ h h2] at h1;cases h1
theorem le_lt_lt {β:Type} {lt:β→β→Bool} (hS:SWO lt) {x y z:β} (h1:lt y x=false) (h2:lt y z=true):lt x z=true:=by
 cases h:lt x z with
 |true=>rfl
 |false=>rw [hS.ntrans _ _ _ h1 h] at h2;cases h2
theorem left_lt (hS:SWO lt) {a m i b:Nat} {d:Array α} (hB:SortedIn lt m b d) (hib:i≤b) (h:i=m∨lt d[i - 1]! d[a]! =true): ∀c,m≤c→c<i→lt d[c]! d[a]! =true:=by
  intro c h1 h2
  rcases h with h|h
  · omega
  exact le_lt_lt hS (sorted_le hS hB h1 (by omega:c≤i - 1) (by omega)) h
theorem left_ge (hS:SWO lt) {a m i b:Nat} {d:Array α} (hB:SortedIn lt m b d) (hmi:m≤i) (h:i=b∨lt d[i]! d[a]! =false): ∀c,i≤c→c<b→lt d[c]! d[a]! =false:=by
  intro c h1 h2
  rcases h with h|h
  · omega
  exact hS.ntrans _ _ _ (sorted_le hS hB hmi h1 h2) h
theorem right_le (hS:SWO lt) {a m i:Nat} {d:Array α} (hA:SortedIn lt a m d) (him:i≤m) (h:i=a∨lt d[m]! d[i - 1]! =false): ∀c,a≤c→c<i→lt d[m]! d[c]! =false:=by
  intro c h1 h2
  rcases h with h|h
  · omega
  exact hS.ntrans _ _ _ h (sorted_le hS hA h1 (by omega:c≤i - 1) (by omega))
theorem right_gt (hS:SWO lt) {a m i:Nat} {d:Array α} (hA:SortedIn lt a m d) (hai:a≤i) (h:i=m∨lt d[m]! d[i]! =true): ∀c,i≤c→c<m→lt d[m]! d[c]! =true:=by
  intro c h1 h2
  rcases h with h|h
  · omega
  exact lt_le_lt hS h (sorted_le hS hA hai h1 h2)
structure Turned_ (lt:α→α→Bool) (a s mid e b:Nat) (d d1:Array α):Prop where
 perm:PermIn a b d d1
 s1:SortedIn lt a s d1
 s2:SortedIn lt s mid d1
 s3:SortedIn lt mid e d1
 s4:SortedIn lt e b d1
 x: ∀x y,a≤x→x<mid→mid≤y→y<b→lt d1[y]! d1[x]! =false
theorem turned_of (hS:SWO lt) {a s m mid e b:Nat} {d d1:Array α} (hp:PermIn a b d d1) (h:RotAt s m e d d1) (has:a≤s) (hsm:s≤m) (hme:m≤e) (heb:e≤b) (he:s+(e - m)=mid) (hA:SortedIn lt a m d) (hB:SortedIn lt m b d)
    (l:(s=a∨e=b)∨lt d[e]! d[s - 1]! =false) (g:(s=m∨e=m)∨lt d[e - 1]! d[s]! =true):Turned_ lt a s mid e b d d1:=by
  obtain ⟨a1,a2,a3,a4,a5⟩:=sym_half h has hsm hme heb hA hB
    (sym_x1 hS hA hB hsm hme (fun h1 h2=>by
      rcases l with l|l
      · omega
      exact l))
    (sym_x2 hS hA hB has heb (fun h1 h2=>by
      rcases g with g|g
      · omega
      exact hS.asymmA g))
  rw [he] at a2 a3 a5;exact ⟨hp,a1,a2,a3,a4,a5⟩
theorem sorted_whole {a s mid:Nat} {d:Array α} (h1:SortedIn lt a s d) (h2:SortedIn lt s mid d) (h: ¬(a<s∧s<mid)):SortedIn lt a mid d:=by
  intro i j k1 k2 k3;by_cases q:a<s
  · exact h1 i j k1 k2 (by omega)
  exact h2 i j (by omega) k2 k3
def Blocks (lt:α→α→Bool) (s n:Nat) (d:Array α):Prop:= ∀c,SortedIn lt (c*s) (min (c*s+s) n) d
def Mixed (lt:α→α→Bool) (s n t:Nat) (d:Array α):Prop:=(∀c,c<t→SortedIn lt (c*(2*s)) (min (c*(2*s)+2*s) n) d)∧ ∀c,2*t≤c→SortedIn lt (c*s) (min (c*s+s) n) d
theorem mixed_zero {s n:Nat} {d:Array α} (h:Blocks lt s n d):Mixed lt s n 0 d:=⟨fun c hc=>by omega,fun c _=>h c⟩
theorem sorted_congr {a b:Nat} {d d':Array α} (h:SortedIn lt a b d) (he: ∀k,a≤k→k<b→d'[k]! =d[k]!):SortedIn lt a b d':=fun i j h1 h2 h3=>by rw [he i h1 (by omega),he j (by omega) h3];exact h i j h1 h2 h3
theorem mul2 (t s:Nat):2*t*s=t*(2*s):=by rw [Nat.mul_comm 2 t,Nat.mul_assoc]
theorem mixed_step {s n t:Nat} {d d':Array α} (h:Mixed lt s n t d) (hp:PermIn (t*(2*s)) (min (t*(2*s)+2*s) n) d d') (hs:SortedIn lt (t*(2*s)) (min (t*(2*s)+2*s) n) d'):Mixed lt s n (t+1) d':=by
  refine ⟨fun c hc=> ?_,fun c hc=> ?_⟩;rotate_left
  · have h1 : (2 * (t + 1)) * s ≤ c * s := Nat.mul_le_mul_right _ hc
    rw [mul2,Nat.add_mul,Nat.one_mul] at h1
    exact sorted_congr (h.2 c (by omega)) (fun k h2 _=>hp.2.1 k (.inr (by omega)))
  by_cases e:c=t
  · rw [e];exact hs
  have h1:(c+1)*(2*s)≤t*(2*s):=Nat.mul_le_mul_right _ (by omega);rw [Nat.add_mul,Nat.one_mul] at h1;exact sorted_congr (h.1 c (by omega)) (fun k _ h3=>hp.2.1 k (.inl (by omega)))
theorem mixed_at {s n t:Nat} {d:Array α} (h:Mixed lt s n t d):SortedIn lt (t*(2*s)) (min (t*(2*s)+s) n) d∧SortedIn lt (t*(2*s)+s) (min (t*(2*s)+2*s) n) d:=by
 have h1:=h.2 (2*t) (Nat.le_refl _);have h2:=h.2 (2*t+1) (by omega);rw [Nat.add_mul,Nat.one_mul,mul2] at h2;rw [mul2] at h1;refine ⟨h1, ?_⟩;rw [show t*(2*s)+2*s=t*(2*s)+s+s by omega];exact h2
theorem mixed_end {s n t:Nat} {d:Array α} (h:Mixed lt s n t d) (he:n≤t*(2*s)+s):Blocks lt (2*s) n d:=by
  intro c
  by_cases hc:c<t
  · exact h.1 c hc
  have h1:t*(2*s)≤c*(2*s):=Nat.mul_le_mul_right _ (by omega)
  by_cases e:c=t
  · rw [e]
    intro i j a1 a2 a3
    exact (mixed_at h).1 i j a1 a2 (by omega)
  have h2:(t+1)*(2*s)≤c*(2*s):=Nat.mul_le_mul_right _ (by omega)
  rw [Nat.add_mul,Nat.one_mul] at h2
  intro i j a1 a2 a3
  omega
theorem mixed_last {s n t:Nat} {d:Array α} (h:Mixed lt s n (t+1) d) (he:n≤t*(2*s)+2*s):Blocks lt (2*s) n d:=by
  intro c;by_cases hc:c<t+1
  · exact h.1 c hc
  have h2:(t+1)*(2*s)≤c*(2*s):=Nat.mul_le_mul_right _ (by omega);rw [Nat.add_mul,Nat.one_mul] at h2;intro i j a1 a2 a3
  omega
theorem blocks_all {s n:Nat} {d:Array α} (h:Blocks lt s n d) (hs:n≤s):SortedIn lt 0 n d:=by
 have q:=h 0;rw [Nat.zero_mul,Nat.zero_add,Nat.min_eq_right hs] at q;exact q
def Upto (lt:α→α→Bool) (s n t:Nat) (d:Array α):Prop:= ∀c,c<t→SortedIn lt (c*s) (min (c*s+s) n) d
theorem upto_step {s n t:Nat} {d d':Array α} (h:Upto lt s n t d) (hp:PermIn (t*s) (min (t*s+s) n) d d') (hs:SortedIn lt (t*s) (min (t*s+s) n) d'):Upto lt s n (t+1) d':=by
  intro c hc;by_cases e:c=t
  · rw [e];exact hs
  have h1:(c+1)*s≤t*s:=Nat.mul_le_mul_right _ (by omega);rw [Nat.add_mul,Nat.one_mul] at h1;exact sorted_congr (h c (by omega)) (fun k _ h3=>hp.2.1 k (.inl (by omega)))
theorem upto_all {s n t:Nat} {d:Array α} (h:Upto lt s n t d) (hn:n≤t*s):Blocks lt s n d:=by
  intro c;by_cases hc:c<t
  · exact h c hc
  have h1:t*s≤c*s:=Nat.mul_le_mul_right _ (by omega);intro i j a1 a2 a3
  omega
theorem part_perm {a b n:Nat} {d0 d d':Array α} (h0:PermIn 0 n d0 d) (hp:PermIn a b d d') (hb:b≤n) (hn:n≤d.size):PermIn 0 n d0 d':=permIn_trans _ _ _ _ _ h0 (permIn_mono d d' a b 0 n (Nat.zero_le _) hb hn hp)
end Go.Proofs.Ytahidkjncljkaaa.Print

namespace Go.Proofs.Ytahidkjncljkaaa.Print
open Go.RowKit Go.Proofs.YtahidkjncljkaaaW.PrintWords Go.Proofs.YtahidkjncljkaaaW.PrintLast Go.Proofs.YtahidkjncljkaaaW.PrintMore
section
variable {P:Program} {ops:Array Oper} {rest:List Oper} {o:Oper} {a:Act} {Q:Exit→Act→World→Prop} {Kc:Act→World→Prop} {W:World}
theorem store_part_step {gb e:Nat} {zs:Array Value} (hh:W.heap[gb]?=some (.cells zs e (0,0))) (hw:Region.wanted o (yielded ops a.tmps)=true) (t:TypeId) (p x:Operand) (ho:o.op= .store t p x) (hN:o.dst=none) (off:Nat) (u:Value) (seg new:List Value)
  (hp:a.eval p= .pointer (some ⟨gb,off,none⟩)) (hx:a.eval x=u) (hu:u.cells.toList=seg) (ht:(P.info? t).map (·.size)=some seg.length) (hz:off+seg.length≤zs.size) (h1: ∀q∈seg,q.oneCell'=true) (hnew:zs.toList.take off++seg++zs.toList.drop (off+seg.length)=new)
  (h: ∀w',w'.heap[gb]?=some (.cells new.toArray e (0,0))→W.grownBy w' (some gb)→Kc a w'):if Region.wanted o (yielded ops a.tmps)=true then Oper.wp P o a W Kc Q else Kc (a.put none undef) W:=by
 obtain ⟨w',cur,hrun,hc,hs,hl,hg⟩:=put_run (P:=P) hh t u off seg hu ht hz h1
 have e1:cur=new.toArray:=by
  apply Array.ext'
  rw [hl,hnew]
 subst e1
 rw [if_pos hw]
 unfold Oper.wp execOp
 simp only [ho,hp,hx,Sem.run_bind,Sem.run_pure,Result.andThen_ok,hrun]
 show Kc (a.put o.dst undef) _
 rw [hN]
 exact h _ hc hg
end
theorem blk_put_other2 {w w1:World} {row:Option Nat} {k:Nat} {ob:Obj} (h:w.heap[k]?=some ob) (hg:w.grownBy w1 row) (hne:some k≠row):w1.heap[k]?=some ob:=by
  rw [hg.block k (by
    rcases Nat.lt_or_ge k w.heap.size with hl|hl
    · exact hl
    rw [Array.getElem?_eq_none hl] at h;cases h) hne]
  exact h
def KeepS (b:Nat) (W w:World):Prop:=(∀g ob,W.heap[g]?=some ob→g≠b→(∀cs,ob≠ .cells cs 76 (0,0))→w.heap[g]?=some ob)∧W.heap.size≤w.heap.size
theorem keepS_refl (b:Nat) (W:World):KeepS b W W:=⟨fun _ _ h _ _=>h,Nat.le_refl _⟩
theorem keepS_below {b:Nat} {W w w1:World} (h:KeepS b W w) (hb:Below w.heap.size w w1):KeepS b W w1:=⟨fun g ob hg hn ht=>blk_below (h.1 g ob hg hn ht) hb,Nat.le_trans h.2 hb.size⟩
theorem keepS_put {b:Nat} {W w w1:World} (h:KeepS b W w) (hg:w.grownBy w1 (some b)):KeepS b W w1:=⟨fun k ob hk hn ht=>blk_put_other (h.1 k ob hk hn ht) hg hn,Nat.le_trans h.2 hg.size⟩
theorem keepS_row {b:Nat} {W w w1:World} {row:Option Nat} (h:KeepS b W w) (hg:w.grownBy w1 row) (ho: ∀k,row=some k→ ∃cells,w.heap[k]?=some (.cells cells 76 (0,0))):KeepS b W w1:=
 ⟨fun k ob hk hn ht=>by
  have q:=h.1 k ob hk hn ht;refine blk_put_other2 q hg (fun e=> ?_);obtain ⟨cs,hc⟩:=ho k e.symm;rw [q] at hc;exact ht cs (Option.some.inj hc),Nat.le_trans h.2 hg.size⟩
theorem R_keepS {α:Type} {d:Kd α} {e b base tb:Nat} {cs:Array Value} {W w:World} {v:Value} {xs:List α} (h:d.R e W base (fun _=>True) v xs) (hb:W.heap[b]?=some (.cells cs tb (0,0))) (ht: ∀q,q∈e::d.E→q≠tb∧q≠76) (hk:KeepS b W w):d.R e w base (fun _=>True) v xs:=
 Kd.R_mono (Kd.R_step (Kd.R_bound h) (fun k hk' _=>by
  obtain ⟨_,_,_,q,hq,cells,hc⟩:=hk'
  rw [hk.1 k _ hc (fun e=>by
   rw [e,hb] at hc
   injection hc with hc
   injection hc with _ h2 _
   exact (ht q hq).1 h2.symm) (fun cs' e=>by
   injection e with _ h2 _
   exact (ht q hq).2 h2),hc])) (fun _ _=>trivial)
def stepCells (s:S76):Array Value:=#[.int .i64 s.f0, .string s.f1, .string s.f2, .int .i64 s.f3.f0, .int .i64 s.f3.f1, .int .i64 s.f3.f2]
set_option maxHeartbeats 4000000 in
set_option maxRecDepth 100000 in
theorem planPut_calls (w W:World) (b:Nat) (vg vo:Value) (wd:Bool) (out:List S76) (s:S76)
    (hb:W.heap[b]?=some (.cells #[vg, .bool wd,vo] 139 (0,0))) (hge:w.heap.size≤b) (hB:Below w.heap.size w W) (ho:Kd.R k76 76 W w.heap.size (fun _=>True) vo out) (hl:out.length<100000):
    Calls Try.prog 126 #[.pointer (some ⟨b,0,none⟩), .agg (stepCells s)] W fun e w'=>e= .returned (.tuple #[])∧ ∃vo',w'.heap[b]?=some (.cells #[vg, .bool wd,vo'] 139 (0,0))∧Kd.R k76 76 w' w.heap.size (fun _=>True) vo' (out++ [s])∧Below w.heap.size w w'∧KeepS b W w':=by
  unfold stepCells;have hu139:=Try.underlying139;have hu76:=Try.underlying76;have BK:=Aside0.mk hb;have GE:=Aside0.mk hge;have HB:=Aside0.mk hB;have HO:=Aside0.mk ho;have HL:=Aside0.mk hl;have KP:=am_ (keepS_refl b W);obtain ⟨Ao,co,eo⟩:=Kd.R_slice ho;subst eo;clear hb hge hB ho hl;go_enter Try.func126,Try.ntmps126;go_wp2_with (first|((with_reducible refine gate_dst (N:=3) rfl ?_);refine bx_ (N:=3) (cs:=#[.int .i64 s.f0, .string s.f1, .string s.f2, .int .i64 s.f3.f0, .int .i64 s.f3.f1, .int .i64 s.f3.f2]) (t:=76) ?_;intro gb3 hg w3 hbox hb;have OLD3:=am_ (show∀k,(Value.slice Ao out.length co).ownBlock=some k→k<gb3 from fun k hk=>by rw [hg];exact Kd.R_lt HO.out k hk);have KP1:=am_ (keepS_below KP.out hb);clear KP;have KP:=KP1;clear KP1;replace HO:=am_ (Kd.R_below HO.out hb);replace BK:=am_ (blk_below BK.out hb);have BK3:=am_ (hbox);have GE3:=am_ ((by rw [hg];exact below_size HB.out:w.heap.size≤gb3));replace HB:=am_ (below_step HB.out hb);have EQ3:=am_ (hg);clear hb hbox hg))
  have NEO:=am_ (show some b≠(Value.slice Ao out.length co).ownBlock from Kd.R_ne HO.out BK.out (by decide));have NEO3:=am_ (show some gb3≠(Value.slice Ao out.length co).ownBlock from fun e=>by have:=OLD3.out gb3 e.symm;omega);replace HO:=am_ (Kd.R_drew HO.out);replace BK:=am_ (blk_drew BK.out);replace BK3:=am_ (blk_drew BK3.out);replace HB:=am_ (below_drew1 HB.out);replace KP:=am_ (keepS_below KP.out (below_drew1 (Below.refl _ _)));refine start_ (n:=11) (S:=fun w'=>w'.cell? ⟨b,2,none⟩=some (.slice Ao out.length co)∧w'.cell? ⟨gb3,0,none⟩=some (.int .i64 s.f0)∧w'.cell? ⟨gb3,1,none⟩=some (.string s.f1)∧w'.cell? ⟨gb3,2,none⟩=some (.string s.f2)∧w'.cell? ⟨gb3,3,none⟩=some (.int .i64 s.f3.f0)∧w'.cell? ⟨gb3,4,none⟩=some (.int .i64 s.f3.f1)∧w'.cell? ⟨gb3,5,none⟩=some (.int .i64 s.f3.f2)) (ds:=[10]) (bs_ 11 0) (by kernel_rfl) rfl rfl ⟨(blk_cell BK.out 2).trans rfl,(blk_cell BK3.out 0).trans rfl,(blk_cell BK3.out 1).trans rfl,(blk_cell BK3.out 2).trans rfl,(blk_cell BK3.out 3).trans rfl,(blk_cell BK3.out 4).trans rfl,(blk_cell BK3.out 5).trans rfl⟩ (fun hHeld=> ?_);generalize w3.drew=w5 at HO BK BK3 HB KP hHeld ⊢;refine pv_ (i:=0) (N:=some 4) (bs_ 11 1) ?_;refine pv_ (i:=1) (N:=some 5) (bs_ 11 2) ?_;refine pv_ (i:=2) (N:=some 6) (bs_ 11 3) ?_;refine pv_ (i:=3) (N:=some 7) (bs_ 11 4) ?_;refine tv_ (i:=4) (N:=some 8) (bs_ 11 5) hHeld ?_;refine tv_ (i:=5) (N:=some 9) (bs_ 11 6) hHeld ?_;refine one_ (i:=6) (N:=some 10) (bs_ 11 7) rfl rfl (by kernel_rfl) (by decide) (fun K hK=> ?_)
  refine value_ (w1:= ?_) (v:= ?_) (by rfl) rfl ?_ ?_
  rotate_left 2
  · go_simp
    constructor
    · rfl
    rfl
  refine hK.out _ _ ⟨(World.cell?_alloc_lt _ _ _ (World.block_lt_of_cell? _ _ (((blk_cell BK.out 2).trans rfl)))).trans (((blk_cell BK.out 2).trans rfl)),(World.cell?_alloc_lt _ _ _ (World.block_lt_of_cell? _ _ (((blk_cell BK3.out 0).trans rfl)))).trans (((blk_cell BK3.out 0).trans rfl)),(World.cell?_alloc_lt _ _ _ (World.block_lt_of_cell? _ _ (((blk_cell BK3.out 1).trans rfl)))).trans (((blk_cell BK3.out 1).trans rfl)),(World.cell?_alloc_lt _ _ _ (World.block_lt_of_cell? _ _ (((blk_cell BK3.out 2).trans rfl)))).trans (((blk_cell BK3.out 2).trans rfl)),(World.cell?_alloc_lt _ _ _ (World.block_lt_of_cell? _ _ (((blk_cell BK3.out 3).trans rfl)))).trans (((blk_cell BK3.out 3).trans rfl)),(World.cell?_alloc_lt _ _ _ (World.block_lt_of_cell? _ _ (((blk_cell BK3.out 4).trans rfl)))).trans (((blk_cell BK3.out 4).trans rfl)),(World.cell?_alloc_lt _ _ _ (World.block_lt_of_cell? _ _ (((blk_cell BK3.out 5).trans rfl)))).trans (((blk_cell BK3.out 5).trans rfl))⟩ (fun hHeld=> ?_);clear hK K;refine norm_ (a':= ?_) ?_ ?_;rotate_left
  · show Act.put _ (some 10) _ = _
    simp only [Act.put,List.setIfInBounds_toArray,List.set_cons_zero,List.set_cons_succ,i64_w,i32_w]
    rfl
  refine one_ (i:=7) (N:=some 11) (bs_ 11 8) rfl rfl (by kernel_rfl) (by decide) (fun K hK=> ?_);refine Kd.R_append_step k76 (w0:=w) w.heap.size (by rfl) (.tmp 8) (.tmp 10) 49 76 (.agg #[(.int .i64 0),(.string ⟨#[]⟩),(.string ⟨#[]⟩),(.int .i64 0),(.int .i64 0),(.int .i64 0)]) 64 rfl Try.underlying49 info76 rfl (by decide) (by omega) _ out s [.int .i64 s.f0, .string s.f1, .string s.f2, .int .i64 s.f3.f0, .int .i64 s.f3.f1, .int .i64 s.f3.f2] (fun _=>True) (fun _=>False) rfl rfl ?aP (fun _ hk=>hk.elim) (fun _ _=>trivial) HO.out HB.out (below_size HB.out) (by have:=HL.out;omega) ?_;(case aP=>exact k76_mkM _ _ _ s);intro v1 w6 ho hb hg hat;replace hg:w5.grownBy w6 (Value.slice Ao out.length co).ownBlock:=hg;have KPA:=am_ (keepS_row KP.out hg (fun k hk=>by obtain ⟨inner,h⟩:=Kd.R_own HO.out;exact own_typed h k hk));have n0_:=am_ (blk_put_other2 BK.out hg NEO.out);have n1_:=am_ (blk_put_other2 BK3.out hg NEO3.out);have n2_:=Aside0.mk ho;have n3_:=Aside0.mk hb;clear BK BK3 HO HB KP ho hb hat;have BK:=n0_;have BK3:=n1_;have HO:=n2_;have HB:=n3_;clear n0_ n1_ n2_ n3_;obtain ⟨A1,c1,e1⟩:=Kd.R_slice HO.out;subst e1;refine hK.out _ _ ⟨(blk_cell BK.out 2).trans rfl,(blk_cell BK3.out 0).trans rfl,(blk_cell BK3.out 1).trans rfl,(blk_cell BK3.out 2).trans rfl,(blk_cell BK3.out 3).trans rfl,(blk_cell BK3.out 4).trans rfl,(blk_cell BK3.out 5).trans rfl⟩ (fun hHeld=> ?_);clear hK K hg;refine norm_ (a':= ?_) ?_ ?_;rotate_left
  · show Act.put _ (some 11) _ = _
    simp only [Act.put,List.setIfInBounds_toArray,List.set_cons_zero,List.set_cons_succ,i64_w,i32_w]
    rfl
  refine pv_ (i:=8) (N:=some 12) (bs_ 11 9) ?_;refine pv_ (i:=9) (N:=some 13) (bs_ 11 10) ?_;refine last_ (i:=10) (N:=none) (bs_ 11 11) rfl rfl (by kernel_rfl) (by decide) (fun K hK=> ?_);refine store_part_step BK.out (by rfl) 49 (.tmp 13) (.tmp 11) rfl rfl 2 (.slice A1 (out++ [s]).length c1) [.slice A1 (out++ [s]).length c1] [vg, .bool wd, .slice A1 (out++ [s]).length c1] rfl rfl rfl (by kernel_rfl) (show (3:Nat)≤3 from by decide) (by intro q hq;simp only [List.mem_cons,List.not_mem_nil,or_false] at hq;rcases hq with rfl<;>rfl) rfl ?_;intro w7 hbk hg;have n0_:=am_ (R_put HO.out BK.out (by decide) hg);have n1_:=am_ (below_put HB.out (below_size HB.out) hg GE.out);have n2_:=am_ (keepS_put KPA.out hg);have n3_:=Aside0.mk hbk;clear HO HB BK KPA hbk hg;have HO:=n0_;have HB:=n1_;have KP:=n2_;have BK:=n3_;clear n0_ n1_ n2_ n3_;refine hK.out _ _ ?_;clear hK K hHeld;refine done_ (by kernel_rfl) ?_;go_wp2
  (first|go_end0|((try simp only [Exit.inBlock,Exit.then]);refine bodyPost_ret (results_none rfl _ _ _) rfl ?_)|refine bodyPost_end (results_none rfl _ _ _) rfl ?_);exact ⟨rfl,_,BK.out,HO.out,HB.out,KP.out⟩
end Go.Proofs.Ytahidkjncljkaaa.Print

namespace Go.Proofs.Ytahidkjncljkaaa.Print
open Go.RowKit Go.Proofs.YtahidkjncljkaaaW.PrintWords Go.Proofs.YtahidkjncljkaaaW.PrintLast Go.Proofs.YtahidkjncljkaaaW.PrintMore
attribute [local go_sem] max2_int min2_int max_two min_two max_three min_three max_four min_four

def vecByF (op:Int→Int→Int):List S37→Int→Int→Int→Int×Int×Int
 |[],a,b,d=>(a,b,d)
 |v::l,a,b,d=>vecByF op l (op a v.f0) (op b v.f1) (op d v.f2)
theorem vecByF_snoc (op:Int→Int→Int) (v:S37): ∀(l:List S37) (a b d:Int),vecByF op (l++ [v]) a b d=(op (vecByF op l a b d).1 v.f0,op (vecByF op l a b d).2.1 v.f1,op (vecByF op l a b d).2.2 v.f2)
 |[],_,_,_=>rfl
 |_::l,_,_,_=>vecByF_snoc op v l _ _ _
theorem vecByF_take (op:Int→Int→Int) (l:List S37) (a b d:Int) (i:Nat) (h:i<l.length):vecByF op (l.take (i+1)) a b d=(op (vecByF op (l.take i) a b d).1 (rd_T37 l i).f0,op (vecByF op (l.take i) a b d).2.1 (rd_T37 l i).f1,op (vecByF op (l.take i) a b d).2.2 (rd_T37 l i).f2):=by
 have e:rd_T37 l i=l[i]:=by simp [rd_T37,h]
 rw [List.take_succ_eq_append_getElem h,vecByF_snoc,e]
set_option maxHeartbeats 1000000 in
set_option maxRecDepth 100000 in
theorem vecBy_calls (g:Nat) (op:Int→Int→Int) (eg: ∀args w,(callFunc g args).run Try.prog w= .ok (.enter g args) w) (hop: ∀x y W,Calls Try.prog g #[.int .i64 x, .int .i64 y] W fun e w'=>e= .returned (.int .i64 (op x y))∧w'=W)
    (A:Option Addr) (c:Nat) (l:List S37) (a b d:Int) (w:World) (hr0:Kd.C k37 w A l.length l) (hc0:l.length≤c) (hm:l.length≤maxLen):
    Calls Try.prog 145 #[.func (.func g) #[] #[], .agg #[.int .i64 a, .int .i64 b, .int .i64 d], .slice A l.length c] w fun e w'=>e= .returned (.agg #[.int .i64 (vecByF op l a b d).1, .int .i64 (vecByF op l a b d).2.1, .int .i64 (vecByF op l a b d).2.2])∧Below w.heap.size w w':=by
  have hu37:=Try.underlying37;have HR0:=Aside0.mk hr0;have HOP:=Aside0.mk hop;have HEG:=Aside0.mk eg;have HBT:=am_ (vecByF_take op l a b d);clear hr0 hop eg;unfold maxLen at hm;go_enter Try.func145,Try.ntmps145;go_wp2
  go_loopg [11] l.length (fun kq s11 wr=> ∃i:Nat,i≤l.length∧l.length - i≤kq∧s11= .int .i64 i∧Aside0 (Below w.heap.size w wr)∧Aside0 (wr.heap[w.heap.size]?=some (.cells #[.int .i64 (vecByF op (l.take i) a b d).1, .int .i64 (vecByF op (l.take i) a b d).2.1, .int .i64 (vecByF op (l.take i) a b d).2.2] 37 (0,0)))∧Aside0 (wr.heap[w.heap.size+1]?=some (.cells #[.int .i64 0, .int .i64 0, .int .i64 0] 37 (0,0))))
  case atStart=>
    exact ⟨0,by omega,by omega,rfl,⟨below_alloc (below_alloc (Below.refl _ _) _) _⟩,⟨blk_alloc (blk_new _ _) _⟩,⟨by have:=blk_new (w.alloc (.cells #[.int .i64 a, .int .i64 b, .int .i64 d] 37)) (.cells #[.int .i64 0, .int .i64 0, .int .i64 0] 37);simpa using this⟩⟩
  case round=>
    obtain ⟨i,hi,hg,rfl,HB,HF,HZ⟩:=hrel;generalize hq:vecByF op (l.take i) a b d=q at HF;have HQ:=Aside0.mk hq;clear hq;by_cases hlt:i<l.length;rotate_left
    · obtain rfl : i = l.length := by omega
      have hq:q=vecByF op l a b d:=HQ.out.symm.trans (by rw [List.take_length])
      subst hq
      have HQ':=HQ
      clear HQ HBT
      have f0:=zz_ HF 0
      have f1:=zz_ HF 1
      have f2:=zz_ HF 2
      have g0:=zz_ HZ 0
      have g1:=zz_ HZ 1
      have g2:=zz_ HZ 2
      have z0:=blk_frozen HZ.out 0
      have z1:=blk_frozen HZ.out 1
      have z2:=blk_frozen HZ.out 2
      have hs1:w.heap.size+1<wr.heap.size:=blk_lt HZ.out
      go_wp2
      refine bodyPost_ret (results_cell_row rfl _ _ (w.heap.size+1) 37 #[.int .i64 (vecByF op l a b d).1, .int .i64 (vecByF op l a b d).2.1, .int .i64 (vecByF op l a b d).2.2] (0,0) _ rfl (blk_put (blk_put (blk_put HZ.out 0 _ rfl) 1 _ rfl) 2 _ rfl) Try.underlying37 rfl (by kernel_rfl)) rfl ?_
      exact ⟨rfl,below_set (below_set (below_set HB.out (Nat.le_succ _)) (Nat.le_succ _)) (Nat.le_succ _)⟩


    have hltz:(i:Int)<(l.length:Int):=by omega
    obtain ⟨ad,e1,h0,h1,h2⟩:=at_T37 HR0.out (i:Int) (by omega) (by omega);cases e1;simp only [Int.toNat_natCast] at h0 h1 h2;replace h0:=zx_ HB h0;replace h1:=zx_ HB h1;replace h2:=zx_ HB h2;have hsz:w.heap.size+1<wr.heap.size:=blk_lt HZ.out;go_wp2
    obtain ⟨W1,hW1⟩: ∃W1,W1=(wr.alloc (.cells #[.int .i64 (rd_T37 l i).f0, .int .i64 (rd_T37 l i).f1, .int .i64 (rd_T37 l i).f2] 37)).drew:=⟨_,rfl⟩;have hF1:W1.heap[w.heap.size]?=some (.cells #[.int .i64 q.1, .int .i64 q.2.1, .int .i64 q.2.2] 37 (0,0)):=by rw [hW1];exact blk_alloc HF.out _
    have hZ1:W1.heap[w.heap.size+1]?=some (.cells #[.int .i64 0, .int .i64 0, .int .i64 0] 37 (0,0)):=by rw [hW1];exact blk_alloc HZ.out _
    have hV1:W1.heap[wr.heap.size]?=some (.cells #[.int .i64 (rd_T37 l i).f0, .int .i64 (rd_T37 l i).f1, .int .i64 (rd_T37 l i).f2] 37 (0,0)):=by rw [hW1];exact blk_new _ _
    have hB1:Below w.heap.size w W1:=by rw [hW1];exact below_drew (below_alloc HB.out _)
    refine wp_region_still_tail 19 (by kernel_rfl) (by kernel_rfl) ?_
    change wpStill _ _ (World.drew _) _ _ _
    rw [←hW1];simp only [List.take_succ_cons,List.take_zero,List.drop_succ_cons,List.drop_zero];have HV1:=Aside0.mk hV1;have HF1:=Aside0.mk hF1;have HZ1:=Aside0.mk hZ1;have HB1:=Aside0.mk hB1;have f0:=(blk_cell hF1 0).trans rfl;have f1:=(blk_cell hF1 1).trans rfl;have f2:=(blk_cell hF1 2).trans rfl;have g0:=(blk_cell hV1 0).trans rfl;have g1:=(blk_cell hV1 1).trans rfl;have g2:=(blk_cell hV1 2).trans rfl;have HW1:=Aside0.mk hW1;clear hW1 hF1 hZ1 hV1 hB1;have eg:=HEG.out
    repeat still_step
    still_call (HOP.out _ _ _)
    repeat still_step
    still_call (HOP.out _ _ _)
    repeat still_step
    still_call (HOP.out _ _ _)
    repeat still_step
    refine wpStill_nil ?_
    change wpList _ _ _ _ _ (World.drew _)
    rw [←HW1.out];have z0:=blk_frozen HF1.out 0;have z1:=blk_frozen HF1.out 1;have z2:=blk_frozen HF1.out 2;have hs1:w.heap.size<W1.heap.size:=blk_lt HF1.out;go_wp2
    have hb:=HBT.out i hlt;rw [HQ.out] at hb;have HH:=Aside0.mk hb;clear hb;go_roundg (l.length - (i+1))
    case measure=>omega
    case rel=>
      refine ⟨i+1,by omega,by omega,by go_num,⟨below_set (below_set (below_set HB1.out (Nat.le_refl _)) (Nat.le_refl _)) (Nat.le_refl _)⟩,⟨?_⟩,⟨blk_far (blk_far (blk_far HZ1.out (by simp) _) (by simp) _) (by simp) _⟩⟩;rw [HH.out];exact blk_put (blk_put (blk_put HF1.out 0 _ rfl) 1 _ rfl) 2 _ rfl
theorem vecMax1_calls (x y:Int) (W:World):Calls Try.prog 149 #[.int .i64 x, .int .i64 y] W fun e w'=>e= .returned (.int .i64 (mx x y))∧w'=W:=by
 unfold mx
 go_enter Try.func149,Try.ntmps149
 go_wp2<;>(go_ret;exact ⟨rfl,rfl⟩)
def vec_Max.f (l0:List (S37)):Option (Int×Int×Int):=some (vecByF (fun x y=>mx x y) l0 0 0 0)
set_option maxHeartbeats 1000000 in
set_option maxRecDepth 100000 in
theorem vec_Max.calls (A0:Option Addr) (c0:Nat) (l0:List (S37)) (r1:Int) (r2:Int) (r3:Int) (w:World) (hr0:Kd.C k37 w A0 l0.length l0) (hc0:l0.length≤c0) (h:vec_Max.f l0=some (r1,r2,r3)):
  Calls Try.prog 124 #[.slice A0 l0.length c0] w fun e w'=>e= .returned (.agg #[.int .i64 r1, .int .i64 r2, .int .i64 r3])∧Below w.heap.size w w':=by
 have hu37:=Try.underlying37;have hm:l0.length≤maxLen:=hr0.2.1;have HC:=am_ (vecBy_calls 149 (fun x y=>mx x y) (enters_of Try.func149 (by kernel_rfl) rfl) vecMax1_calls A0 c0 l0 0 0 0 (w.alloc (.cells #[.int .i64 0, .int .i64 0, .int .i64 0] 37)) (Kd.C_below hr0 (below_alloc (Below.refl _ _) _)) hc0 hm);have HH:=Aside0.mk h;clear hr0 h;go_enter Try.func124,Try.ntmps124;go_wp2_with fail
 refine HC.out.mono ?_;rintro e w1 ⟨rfl,hb⟩;have h:=Option.some.inj (show some (vecByF (fun x y=>mx x y) l0 0 0 0)=some (r1,r2,r3) from HH.out);rw [h];have hZ:=blk_below (blk_new w (.cells #[.int .i64 0, .int .i64 0, .int .i64 0] 37)) hb;have HB:=Aside0.mk hb;have HZ:=Aside0.mk hZ;clear h hb hZ;have g0:=zz_ HZ 0;have g1:=zz_ HZ 1;have g2:=zz_ HZ 2;have z0:=blk_frozen HZ.out 0;have z1:=blk_frozen HZ.out 1;have z2:=blk_frozen HZ.out 2;have hs1:w.heap.size<w1.heap.size:=blk_lt HZ.out;go_wp2
 refine bodyPost_ret (results_cell_row rfl _ _ w.heap.size 37 #[.int .i64 r1, .int .i64 r2, .int .i64 r3] (0,0) _ rfl (blk_put (blk_put (blk_put HZ.out 0 _ rfl) 1 _ rfl) 2 _ rfl) Try.underlying37 rfl (by kernel_rfl)) rfl ?_;exact ⟨rfl,below_set (below_set (below_set (below_step (below_alloc (Below.refl _ _) _) HB.out) (Nat.le_refl _)) (Nat.le_refl _)) (Nat.le_refl _)⟩


end Go.Proofs.Ytahidkjncljkaaa.Print

namespace Go.Proofs.Ytahidkjncljkaaa.Print
open Go.RowKit Go.Proofs.YtahidkjncljkaaaW.PrintWords Go.Proofs.YtahidkjncljkaaaW.PrintLast Go.Proofs.YtahidkjncljkaaaW.PrintMore
attribute [local go_sem high] eqA37
abbrev PGoal:=S141
def goalCells (x:PGoal):List Value:=[.string x.f0.f0, .string x.f0.f1, .int .i64 x.f0.f2.f0, .int .i64 x.f0.f2.f1, .int .i64 x.f0.f2.f2, .string x.f1.f0, .string x.f1.f1, .int .i64 x.f1.f2.f0, .int .i64 x.f1.f2.f1, .int .i64 x.f1.f2.f2, .int .i64 x.f1.f3.f0, .int .i64 x.f1.f3.f1, .int .i64 x.f1.f3.f2, .int .i64 x.f1.f4.f0, .int .i64 x.f1.f4.f1, .int .i64 x.f1.f4.f2, .int .i64 x.f1.f5, .bool x.f2, .int .i64 x.f3.f0, .int .i64 x.f3.f1, .int .i64 x.f3.f2]
theorem goal_getD (pre post:List PGoal) (y:PGoal):(pre++y::post).getD ((pre.length:Nat):Int).toNat z141=y:=by
 rw [Int.toNat_natCast,List.getD_eq_getElem?_getD,List.getElem?_append_right (Nat.le_refl _),Nat.sub_self]
 rfl
theorem goal_cell {W:World} {base gg n cg i:Nat} {ok:Nat→Prop} {pre post:List PGoal} {y:PGoal} (hl:pre.length=i) (h:Kd.R k141 141 W base ok (.slice (some ⟨gg,0,none⟩) n cg) (pre++y::post)) (j:Nat) {u:Value} (hu:(goalCells y)[j]?=some u):W.cell? ⟨gg,i*21+j,none⟩=some u:=by
 subst hl;have hn:=(Kd.R_reads' h).1;have h1:((pre.length:Nat):Int)<(n:Int):=by rw [hn,List.length_append,List.length_cons];omega
 obtain ⟨c,_,hM,hc,_⟩:=Kd.R_elem h z141 ((pre.length:Nat):Int) (by omega) h1;rw [goal_getD] at hM;have e:=k141_openM hM;have hc': ∀j u,c[j]?=some u→W.cell? ⟨gg,((pre.length:Nat):Int).toNat*21+j,none⟩=some u:=hc;rw [Int.toNat_natCast] at hc';refine hc' j u ?_;rw [e];exact hu
theorem goal_run {P:Program} {W:World} {base gg n cg i:Nat} {pre post:List PGoal} {y:PGoal} (hl:pre.length=i) (h:Kd.R k141 141 W base (fun _=>True) (.slice (some ⟨gg,0,none⟩) n cg) (pre++y::post)) (ht:(P.info? 37).map (·.size)=some 3) (v:S37):
    ∃w1,(Instr.storeAt 37 (.pointer (some ⟨gg,i*21+18,none⟩)) (.agg #[.int .i64 v.f0, .int .i64 v.f1, .int .i64 v.f2])).run P W= .ok () w1∧Kd.R k141 141 w1 base (fun _=>True) (.slice (some ⟨gg,0,none⟩) n cg) (pre++(⟨y.f0,y.f1,y.f2,v⟩:PGoal)::post)∧W.grownBy w1 (some gg):=by
  subst hl;have hn:=(Kd.R_reads' h).1;have h1:((pre.length:Nat):Int)<(n:Int):=by rw [hn,List.length_append,List.length_cons];omega
  obtain ⟨c,hcl,hM,hc,_⟩:=Kd.R_elem h z141 ((pre.length:Nat):Int) (by omega) h1;rw [goal_getD] at hM;have e:=k141_openM hM;obtain ⟨hrow,hg⟩:=Kd.R_seg h ((pre.length:Nat):Int) (by omega) h1 (c:=c) (seg:=[.int .i64 v.f0, .int .i64 v.f1, .int .i64 v.f2]) (j:=18) (x':=(⟨y.f0,y.f1,y.f2,v⟩:PGoal)) hcl hc (show 18+3≤21 by decide) (okp:=fun _=>False) (by rw [e];exact k141_mkM _ _ _ (⟨y.f0,y.f1,y.f2,v⟩:PGoal)) (fun _ hk=>hk.elim)
  have es:(pre++y::post).set ((pre.length:Nat):Int).toNat (⟨y.f0,y.f1,y.f2,v⟩:PGoal)=pre++(⟨y.f0,y.f1,y.f2,v⟩:PGoal)::post:=by
    rw [Int.toNat_natCast,List.set_append_right _ _ (Nat.le_refl _),Nat.sub_self]
    rfl
  rw [es] at hrow
  have hrun:(Instr.storeAt 37 (.pointer (some ⟨gg,pre.length*21+18,none⟩)) (.agg #[.int .i64 v.f0, .int .i64 v.f1, .int .i64 v.f2])).run P W= .ok () (W.setCells gg (pre.length*21+18) [.int .i64 v.f0, .int .i64 v.f1, .int .i64 v.f2]):=by
    obtain ⟨_,inner,hown,hr⟩:=h
    rcases hown.2 with ⟨hv,_⟩|⟨g',cap',cur,hv,hb,hh,hnc,hcm,hcs,_⟩
    · cases hv
    injection hv with ha _ hc2;injection ha with ha;injection ha with hg';subst hg';subst hc2;refine run_store_run 37 _ [.int .i64 v.f0, .int .i64 v.f1, .int .i64 v.f2] hh rfl ht ?_ (by intro q hq;simp only [List.mem_cons,List.not_mem_nil,or_false] at hq;rcases hq with rfl|rfl|rfl<;>rfl);have hcs':cur.size=cg*21:=hcs;have hlen:n=pre.length+(post.length+1):=by rw [hn,List.length_append,List.length_cons]
    have h2:pre.length*21+21≤cg*21:=by
      have:pre.length+1≤cg:=by omega
      omega
    rw [hcs']
    show pre.length*21+18+3≤cg*21
    omega
  have en:((pre.length:Nat):Int).toNat*Kd.sz k141=pre.length*21:=by rw [Int.toNat_natCast];rfl
  rw [en] at hrow hg;exact ⟨_,hrun,hrow,hg⟩
section
variable {P:Program} {ops:Array Oper} {rest:List Oper} {o:Oper} {a:Act} {Q:Exit→Act→World→Prop} {Kc:Act→World→Prop} {W:World} {base gg n cg i:Nat} {pre post:List PGoal} {y:PGoal}
theorem goal_step (h:Kd.R k141 141 W base (fun _=>True) (.slice (some ⟨gg,0,none⟩) n cg) (pre++y::post)) (hl:pre.length=i) (ht:(P.info? 37).map (·.size)=some 3) (hw:Region.wanted o (yielded ops a.tmps)=true) (p x:Operand) (ho:o.op= .store 37 p x) (hN:o.dst=none) (v:S37)
  (hp:a.eval p= .pointer (some ⟨gg,i*21+18,none⟩)) (hx:a.eval x= .agg #[.int .i64 v.f0, .int .i64 v.f1, .int .i64 v.f2])
  (k: ∀w',Kd.R k141 141 w' base (fun _=>True) (.slice (some ⟨gg,0,none⟩) n cg) (pre++(⟨y.f0,y.f1,y.f2,v⟩:PGoal)::post)→W.grownBy w' (some gg)→Kc a w'):if Region.wanted o (yielded ops a.tmps)=true then Oper.wp P o a W Kc Q else Kc (a.put none undef) W:=by
 obtain ⟨w',hrun,hr,hg⟩:=goal_run (P:=P) hl h ht v;rw [if_pos hw];unfold Oper.wp execOp;simp only [ho,hp,hx,Sem.run_bind,Sem.run_pure,Result.andThen_ok,hrun]
 show Kc (a.put o.dst undef) _
 rw [hN];exact k _ hr hg
theorem goal_store (h:Kd.R k141 141 W base (fun _=>True) (.slice (some ⟨gg,0,none⟩) n cg) (pre++y::post)) (hl:pre.length=i) (ht:(P.info? 37).map (·.size)=some 3) (p x:Operand) (ho:o.op= .store 37 p x) (hN:o.dst=none) (hgd:o.guard=none) (v:S37)
  (hp:a.eval p= .pointer (some ⟨gg,i*21+18,none⟩)) (hx:a.eval x= .agg #[.int .i64 v.f0, .int .i64 v.f1, .int .i64 v.f2])
  (k: ∀w',Kd.R k141 141 w' base (fun _=>True) (.slice (some ⟨gg,0,none⟩) n cg) (pre++(⟨y.f0,y.f1,y.f2,v⟩:PGoal)::post)→W.grownBy w' (some gg)→wpList P ops Q rest a w'):wpList P ops Q (o::rest) a W:=by
 obtain ⟨w',hrun,hr,hg⟩:=goal_run (P:=P) hl h ht v;refine wpList_plain hgd fun K hK=> ?_
 unfold Oper.wp execOp;simp only [ho,hp,hx,Sem.run_bind,Sem.run_pure,Result.andThen_ok,hrun]
 show K (a.put o.dst undef) _
 rw [hN];exact hK a _ (k _ hr hg)
end
def maxG (y:PGoal):S37:=⟨(vecByF (fun x y=>mx x y) [y.f1.f2,y.f0.f2] 0 0 0).1,(vecByF (fun x y=>mx x y) [y.f1.f2,y.f0.f2] 0 0 0).2.1,(vecByF (fun x y=>mx x y) [y.f1.f2,y.f0.f2] 0 0 0).2.2⟩
theorem maxG_eq (y:PGoal):vec_Max.f [y.f1.f2,y.f0.f2]=some ((maxG y).f0,(maxG y).f1,(maxG y).f2):=rfl
def nowG (wide:Bool) (y:PGoal):S37:=if wide=true then ⟨1099511627776,1099511627776,1099511627776⟩ else maxG y
def upG (wide:Bool) (y:PGoal):PGoal:=⟨y.f0,y.f1,y.f2,nowG wide y⟩
def neG (a b:S37):Bool:=(!(a.f0==b.f0)||(!(a.f1==b.f1)||(!(a.f2==b.f2))))
def raise1 (y:PGoal):List S76:=if y.f2=false then [⟨1,y.f0.f0,y.f0.f1,y.f3⟩] else if neG y.f3 y.f1.f2=true then [⟨2,y.f0.f0,⟨#[]⟩,y.f3⟩] else []
def raiseG (wide:Bool) (y:PGoal):List S76:=raise1 (upG wide y)
theorem flat_snoc {α β:Type} (f:α→List β) (l:List α) (y:α):(l++ [y]).flatMap f=l.flatMap f++f y:=by
 rw [List.flatMap_append,List.flatMap_cons,List.flatMap_nil,List.append_nil]
theorem nx_nat {i n:Nat} (h:i<n) (hn:n<1000000):wrap64 ((i:Int)+1)=((i+1:Nat):Int):=by
 rw [w64 (by omega) (by omega)];rfl
theorem raiseG_len (wide:Bool): ∀l:List PGoal,(l.flatMap (raiseG wide)).length≤l.length
  |[]=>Nat.le_refl _
  | y :: l => by
    have:=raiseG_len wide l
    rw [List.flatMap_cons,List.length_append,List.length_cons];have:(raiseG wide y).length≤1:=by unfold raiseG raise1;split<;>(try split)<;>simp
    omega
set_option maxHeartbeats 8000000 in
set_option maxRecDepth 100000 in
theorem planRaise_calls (w W:World) (b:Nat) (vg vo:Value) (wide:Bool) (gs:List PGoal) (out:List S76)
    (hb:W.heap[b]?=some (.cells #[vg, .bool wide,vo] 139 (0,0))) (hge:w.heap.size≤b) (hB:Below w.heap.size w W) (hg:Kd.R k141 141 W w.heap.size (fun _=>True) vg gs) (ho:Kd.R k76 76 W w.heap.size (fun _=>True) vo out) (hl:out.length+gs.length<100000):
    Calls Try.prog 94 #[.pointer (some ⟨b,0,none⟩)] W fun e w'=>e= .returned (.tuple #[])∧ ∃vo',w'.heap[b]?=some (.cells #[vg, .bool wide,vo'] 139 (0,0))∧Kd.R k141 141 w' w.heap.size (fun _=>True) vg (gs.map (upG wide))∧Kd.R k76 76 w' w.heap.size (fun _=>True) vo' (out++gs.flatMap (raiseG wide))∧Below w.heap.size w w':=by
  have hu139:=Try.underlying139;have hu141:=Try.underlying141;have hu76:=Try.underlying76;have hu39:=Try.underlying39;have hu79:=Try.underlying79;have hu37:=Try.underlying37;obtain ⟨Ag,cg,eg⟩:=Kd.R_slice hg;subst eg;have BK:=Aside0.mk hb;have GE:=Aside0.mk hge;have HB:=Aside0.mk hB;have HG:=Aside0.mk hg;have HO:=Aside0.mk ho;have HLN:=Aside0.mk hl;clear hb hge hB hg ho hl;have cb0:=zz_ BK 0;go_enter Try.func94,Try.ntmps94;go_wp2
  clear cb0;go_loopg [9] gs.length (fun kq v9 w'=> ∃(pre post:List PGoal) (u:Value),gs=pre++post∧kq=post.length∧v9= .int .i64 (pre.length:Int)∧Aside0 (w'.heap[b]?=some (.cells #[.slice Ag gs.length cg, .bool wide,u] 139 (0,0)))∧Aside0 (Kd.R k141 141 w' w.heap.size (fun _=>True) (.slice Ag gs.length cg) (pre.map (upG wide)++post))∧Aside0 (Kd.R k76 76 w' w.heap.size (fun _=>True) u (out++pre.flatMap (raiseG wide)))∧Aside0 (Below w.heap.size w w'))
  case atStart=>exact ⟨[],gs,vo,rfl,rfl,rfl,BK,HG,⟨by rw [List.flatMap_nil,List.append_nil];exact HO.out⟩,HB⟩
  case round=>
    clear BK HG HO HB;obtain ⟨pre,post,u,hgs,hkq,rfl,BK,HG,HO,HB⟩:=hrel
    cases post with
    | nil =>
      have c1:decide ((pre.length:Int)<(gs.length:Int))=false:=decide_eq_false (by rw [hgs,List.append_nil];omega);rw [List.append_nil] at hgs;subst hgs;go_wp2
      (first|go_end0|((try simp only [Exit.inBlock,Exit.then]);refine bodyPost_ret (results_none rfl _ _ _) rfl ?_)|refine bodyPost_end (results_none rfl _ _ _) rfl ?_);exact ⟨rfl,_,BK.out,by have:=HG.out;rw [List.append_nil] at this;exact this,HO.out,HB.out⟩
    | cons y post =>
      have hn:gs.length=pre.length+(post.length+1):=by rw [hgs,List.length_append,List.length_cons]
      have c1:decide ((pre.length:Int)<(gs.length:Int))=true:=decide_eq_true (by omega);have q1:((pre.length:Nat):Int)<(gs.length:Int):=by omega
      obtain ⟨gg,cg',hv, -, -, -⟩:=Kd.R_form HG.out (by rw [List.length_append,List.length_cons];omega)
      obtain ⟨rfl,rfl⟩:Ag=some ⟨gg,0,none⟩∧cg=cg':=by
        injection hv with e1 e2 e3;exact ⟨e1,e3⟩
      clear hv;have HLEN:=am_ (show out.length+pre.length<100000 by have:=HLN.out;omega);generalize hi:pre.length=i at*;have HL0:=am_ (show (pre.map (upG wide)).length=i by rw [List.length_map];exact hi);have q0:(0:Int)≤((i:Nat):Int):=by omega
      have HGS:=Aside0.mk hgs;have HKQ:=Aside0.mk hkq;have HI:=Aside0.mk hi;have HN:=Aside0.mk hn;clear hgs hkq hi hn;replace q1:=eq_true q1;replace q0:=eq_true q0;have cb0:=zz_ BK 0;go_wp2
      have cb1:=zz_ BK 1;replace HO:=am_ (Kd.R_drew HO.out);replace HG:=am_ (Kd.R_drew HG.out);replace BK:=am_ (blk_drew BK.out);replace HB:=am_ (below_drew1 HB.out);refine start_ (n:=16) (S:=fun w'=>w'.cell? ⟨gg,i*21+5+2,none⟩=some (.int .i64 y.f1.f2.f0)∧w'.cell? ⟨gg,i*21+5+2+1,none⟩=some (.int .i64 y.f1.f2.f1)∧w'.cell? ⟨gg,i*21+5+2+2,none⟩=some (.int .i64 y.f1.f2.f2)∧w'.cell? ⟨gg,i*21+2,none⟩=some (.int .i64 y.f0.f2.f0)∧w'.cell? ⟨gg,i*21+2+1,none⟩=some (.int .i64 y.f0.f2.f1)∧w'.cell? ⟨gg,i*21+2+2,none⟩=some (.int .i64 y.f0.f2.f2)) (ds:=[15]) (bs_ 16 0) (by kernel_rfl) rfl rfl ⟨goal_cell HL0.out HG.out 7 rfl,goal_cell HL0.out HG.out 8 rfl,goal_cell HL0.out HG.out 9 rfl,goal_cell HL0.out HG.out 2 rfl,goal_cell HL0.out HG.out 3 rfl,goal_cell HL0.out HG.out 4 rfl⟩ (fun hHeld=> ?_);generalize wr.drew=w5 at HO HG BK HB hHeld ⊢;refine pv_ (i:=0) (N:=some 18) (bs_ 16 1) ?_;refine pv_ (i:=1) (N:=some 19) (bs_ 16 2) ?_;refine pv_ (i:=2) (N:=some 20) (bs_ 16 3) ?_;refine pv_ (i:=3) (N:=some 21) (bs_ 16 4) ?_;refine pv_ (i:=4) (N:=some 22) (bs_ 16 5) ?_;refine tv_ (i:=5) (N:=some 23) (bs_ 16 6) hHeld ?_;refine pv_ (i:=6) (N:=some 24) (bs_ 16 7) ?_;refine pv_ (i:=7) (N:=some 25) (bs_ 16 8) ?_;refine pv_ (i:=8) (N:=some 26) (bs_ 16 9) ?_;refine pv_ (i:=9) (N:=some 27) (bs_ 16 10) ?_;refine tv_ (i:=10) (N:=some 28) (bs_ 16 11) hHeld ?_;refine one_ (i:=11) (N:=some 29) (bs_ 16 12) rfl rfl (by kernel_rfl) (by decide) (fun K hK=> ?_)
      refine Kd.R_lit_step k37 (w0:=w5) w5.heap.size 37 (by rfl) (N:=29) rfl (xs:=[y.f1.f2,y.f0.f2]) (inner:=[.int .i64 y.f1.f2.f0, .int .i64 y.f1.f2.f1, .int .i64 y.f1.f2.f2, .int .i64 y.f0.f2.f0, .int .i64 y.f0.f2.f1, .int .i64 y.f0.f2.f2]) (ok:=fun _=>True) (okp:=fun _=>True) ?hr ?hp (fun _ hk=>hk) trivial (Below.refl _ _) (Nat.le_refl _) (by simp) ?_;(case hr=>first|(go_simp;done)|(go_simp;rfl));(case hp=>exact (Reps.c3 (show Kd.M k37 _ _ _ y.f1.f2 [.int .i64 y.f1.f2.f0, .int .i64 y.f1.f2.f1, .int .i64 y.f1.f2.f2] from k37_mkM _ _ _ y.f1.f2) (Reps.c3 (show Kd.M k37 _ _ _ y.f0.f2 [.int .i64 y.f0.f2.f0, .int .i64 y.f0.f2.f1, .int .i64 y.f0.f2.f2] from k37_mkM _ _ _ y.f0.f2) (Reps.none _ _))));intro v6 w6 ho6 hb _ _;replace HO:=am_ (Kd.R_below HO.out hb);replace HG:=am_ (Kd.R_below HG.out hb);replace BK:=am_ (blk_below BK.out hb);replace HB:=am_ (below_step HB.out hb);have HV:=Aside0.mk ho6;clear ho6 hb;obtain ⟨A6,c6,e6⟩:=Kd.R_slice HV.out;subst e6;refine hK.out _ _ ⟨goal_cell HL0.out HG.out 7 rfl,goal_cell HL0.out HG.out 8 rfl,goal_cell HL0.out HG.out 9 rfl,goal_cell HL0.out HG.out 2 rfl,goal_cell HL0.out HG.out 3 rfl,goal_cell HL0.out HG.out 4 rfl⟩ (fun hHeld=> ?_);clear hK K;refine norm_ (a':= ?_) ?_ ?_;rotate_left
      · show Act.put _ (some 29) _ = _
        simp only [Act.put,List.setIfInBounds_toArray,List.set_cons_zero,List.set_cons_succ,i64_w,i32_w]
        rfl
      refine one_ (i:=12) (N:=some 30) (bs_ 16 13) rfl rfl (by kernel_rfl) (by decide) (fun K hK=> ?_);refine goes_ Try.func124 (by kernel_rfl) rfl #[.slice A6 2 c6] (by rfl) rfl rfl (by (try simp only [List.map_toArray,List.map_cons,List.map_nil]);rfl) ?_;refine (vec_Max.calls A6 c6 [y.f1.f2,y.f0.f2] (maxG y).f0 (maxG y).f1 (maxG y).f2 _ (Kd.R_reads' HV.out).2.2 (Kd.R_reads' HV.out).2.1 (maxG_eq y)).mono ?_;rintro e w7 ⟨rfl,hb⟩;refine ⟨_,rfl, ?_⟩;replace HO:=am_ (Kd.R_below HO.out hb);replace HG:=am_ (Kd.R_below HG.out hb);replace BK:=am_ (blk_below BK.out hb);replace HB:=am_ (below_step HB.out hb);clear hb HV;refine hK.out _ _ ⟨goal_cell HL0.out HG.out 7 rfl,goal_cell HL0.out HG.out 8 rfl,goal_cell HL0.out HG.out 9 rfl,goal_cell HL0.out HG.out 2 rfl,goal_cell HL0.out HG.out 3 rfl,goal_cell HL0.out HG.out 4 rfl⟩ (fun hHeld=> ?_);clear hK K;refine norm_ (a':= ?_) ?_ ?_;rotate_left
      · show Act.put _ (some 30) _ = _
        simp only [Act.put,List.setIfInBounds_toArray,List.set_cons_zero,List.set_cons_succ,i64_w,i32_w]
        rfl
      refine pv_ (i:=13) (N:=some 31) (bs_ 16 14) ?_;refine pv_ (i:=14) (N:=some 32) (bs_ 16 15) ?_;refine last_ (i:=15) (N:=none) (bs_ 16 16) rfl rfl (by kernel_rfl) (by decide) (fun K hK=> ?_);refine goal_step HG.out HL0.out (by kernel_rfl) (by rfl) (.tmp 32) (.tmp 30) rfl rfl (maxG y) rfl rfl ?_;intro w8 hrow hg;have NEBK:=am_ (show some b≠some gg from fun e=>Kd.R_ne HG.out BK.out (by decide) e);have n0_:=am_ (Kd.R_over HO.out HG.out (by decide) hg);have n1_:=am_ (blk_put_other2 BK.out hg NEBK.out);have n2_:=am_ (pw_below_grown HB.out (some gg) (below_size HB.out) hg (fun k e=>by cases e;exact Kd.R_base HG.out gg rfl));have n3_:=Aside0.mk hrow;clear HO BK HB HG hrow hg NEBK;have HO:=n0_;have BK:=n1_;have HB:=n2_;have HG:=n3_;clear n0_ n1_ n2_ n3_;refine hK.out _ _ ?_;clear hK K hHeld;refine done_ (by kernel_rfl) ?_;clear cb0 cb1;have cb1:=zz_ BK 1;go_upto_if 36 with fail
      clear cb1;go_cut [] (fun wc=>Aside0 (wc.heap[b]?=some (.cells #[.slice (some ⟨gg,0,none⟩) gs.length cg, .bool wide,u] 139 (0,0)))∧Aside0 (Kd.R k141 141 wc w.heap.size (fun _=>True) (.slice (some ⟨gg,0,none⟩) gs.length cg) (pre.map (upG wide)++(upG wide y)::post))∧Aside0 (Kd.R k76 76 wc w.heap.size (fun _=>True) u (out++pre.flatMap (raiseG wide)))∧Aside0 (Below w.heap.size w wc))
      case first=>
        cases wide with
        | false =>
          go_wp2
          go_meet
          case rel=>exact ⟨BK,HG,HO,HB⟩
        | true =>
          go_wp2_with (first|(go_at_call 125;refine (vec_Most.calls 1099511627776 1099511627776 1099511627776 _ rfl).mono ?_;rintro e w9 ⟨rfl,hb⟩;have n0_:=am_ (Kd.R_below HO.out hb);have n1_:=am_ (Kd.R_below HG.out hb);have n2_:=am_ (blk_below BK.out hb);have n3_:=am_ (below_step HB.out hb);clear HO HG BK HB hb;have HO:=n0_;have HG:=n1_;have BK:=n2_;have HB:=n3_;clear n0_ n1_ n2_ n3_)|((with_reducible refine gate_store (t:=37) (p:=40) (v:= .tmp 38) rfl ?_);refine goal_store HG.out HL0.out (by kernel_rfl) (.tmp 40) (.tmp 38) rfl rfl rfl ⟨1099511627776,1099511627776,1099511627776⟩ rfl rfl ?_;intro w10 hrow hg;have NEBK:=am_ (show some b≠some gg from fun e=>Kd.R_ne HG.out BK.out (by decide) e);have n0_:=am_ (Kd.R_over HO.out HG.out (by decide) hg);have n1_:=am_ (blk_put_other2 BK.out hg NEBK.out);have n2_:=am_ (pw_below_grown HB.out (some gg) (below_size HB.out) hg (fun k e=>by cases e;exact Kd.R_base HG.out gg rfl));have n3_:=Aside0.mk hrow;clear HO BK HB HG hrow hg NEBK;have HO:=n0_;have BK:=n1_;have HB:=n2_;have HG:=n3_;clear n0_ n1_ n2_ n3_))
          go_meet
          case rel=>exact ⟨BK,HG,HO,HB⟩
      case rest=>
        clear BK HG HO HB;obtain ⟨BK,HG,HO,HB⟩:=hcut;obtain ⟨z,hz⟩: ∃z,upG wide y=z:=⟨_,rfl⟩;have HZ:=Aside0.mk hz;rw [hz] at HG;clear hz;have HRZ:raiseG wide y=raise1 z:=by unfold raiseG;rw [HZ.out]
        cases hth:z.f2 with
        | false =>
          have cth:wc.cell? ⟨gg,i*21+17,none⟩=some (.bool false):=(goal_cell HL0.out HG.out 17 rfl).trans (by rw [hth]);have HRS:raiseG wide y=[⟨1,z.f0.f0,z.f0.f1,z.f3⟩]:=by rw [HRZ];unfold raise1;rw [if_pos hth]
          clear HRZ;have HRS:=Aside0.mk HRS;go_wp2_with fail
          clear cth;replace HO:=am_ (Kd.R_drew HO.out);replace HG:=am_ (Kd.R_drew HG.out);replace BK:=am_ (blk_drew BK.out);replace HB:=am_ (below_drew1 HB.out);refine start_ (n:=17) (S:=fun w'=>w'.cell? ⟨gg,i*21,none⟩=some (.string z.f0.f0)∧w'.cell? ⟨gg,i*21+1,none⟩=some (.string z.f0.f1)∧w'.cell? ⟨gg,i*21+18,none⟩=some (.int .i64 z.f3.f0)∧w'.cell? ⟨gg,i*21+18+1,none⟩=some (.int .i64 z.f3.f1)∧w'.cell? ⟨gg,i*21+18+2,none⟩=some (.int .i64 z.f3.f2)) (ds:=[16]) (bs_ 17 0) (by kernel_rfl) rfl rfl ⟨goal_cell HL0.out HG.out 0 rfl,goal_cell HL0.out HG.out 1 rfl,goal_cell HL0.out HG.out 18 rfl,goal_cell HL0.out HG.out 19 rfl,goal_cell HL0.out HG.out 20 rfl⟩ (fun hHeld=> ?_);generalize wc.drew=w9 at HO HG BK HB hHeld ⊢;refine pv_ (i:=0) (N:=some 47) (bs_ 17 1) ?_;refine pv_ (i:=1) (N:=some 48) (bs_ 17 2) ?_;refine pv_ (i:=2) (N:=some 49) (bs_ 17 3) ?_;refine pv_ (i:=3) (N:=some 50) (bs_ 17 4) ?_;refine pv_ (i:=4) (N:=some 51) (bs_ 17 5) ?_;refine tv_ (i:=5) (N:=some 52) (bs_ 17 6) hHeld ?_;refine pv_ (i:=6) (N:=some 53) (bs_ 17 7) ?_;refine pv_ (i:=7) (N:=some 54) (bs_ 17 8) ?_;refine pv_ (i:=8) (N:=some 55) (bs_ 17 9) ?_;refine pv_ (i:=9) (N:=some 56) (bs_ 17 10) ?_;refine tv_ (i:=10) (N:=some 57) (bs_ 17 11) hHeld ?_;refine pv_ (i:=11) (N:=some 58) (bs_ 17 12) ?_;refine pv_ (i:=12) (N:=some 59) (bs_ 17 13) ?_;refine pv_ (i:=13) (N:=some 60) (bs_ 17 14) ?_;refine tv_ (i:=14) (N:=some 61) (bs_ 17 15) hHeld ?_;refine pv_ (i:=15) (N:=some 62) (bs_ 17 16) ?_
          refine last_ (i:=16) (N:=some 63) (bs_ 17 17) rfl rfl (by kernel_rfl) (by decide) (fun K hK=> ?_);refine goes_ Try.func126 (by kernel_rfl) rfl #[.pointer (some ⟨b,0,none⟩), .agg (stepCells ⟨1,z.f0.f0,z.f0.f1,z.f3⟩)] (by rfl) rfl rfl (by (try simp only [List.map_toArray,List.map_cons,List.map_nil]);rfl) ?_;refine (planPut_calls w _ b _ _ _ _ ⟨1,z.f0.f0,z.f0.f1,z.f3⟩ BK.out GE.out HB.out HO.out (by rw [List.length_append];have:=HLEN.out;have:=raiseG_len wide pre;have:=HI.out;omega)).mono ?_;rintro e w12 ⟨rfl,vo',hbk,ho,hb,hk⟩;refine ⟨_,rfl, ?_⟩;have n0_:=am_ (R_keepS HG.out BK.out (by decide) hk);clear HG BK HO HB hk;have HG:=n0_;have BK:=Aside0.mk hbk;have HO:=Aside0.mk ho;have HB:=Aside0.mk hb;clear n0_ hbk ho hb;refine hK.out _ _ ?_;clear hK K hHeld;refine done_ (by kernel_rfl) ?_;go_wp2_with fail
          go_roundg post.length
          case measure=>have:=HKQ.out;rw [this,List.length_cons];omega
          case rel=>exact ⟨pre++ [y],post,_,by rw [HGS.out,List.append_assoc];rfl,rfl,by rw [List.length_append,HI.out,List.length_singleton,nx_nat (n:=gs.length) (by have:=HN.out;omega) (by have:=HLN.out;omega)],BK,⟨by rw [List.map_append,List.append_assoc];show Kd.R _ _ _ _ _ _ (_++(upG wide y::post));rw [HZ.out];exact HG.out⟩,⟨by rw [flat_snoc,←List.append_assoc];rw [HRS.out];exact HO.out⟩,HB⟩
        | true =>
          have cth:wc.cell? ⟨gg,i*21+17,none⟩=some (.bool true):=(goal_cell HL0.out HG.out 17 rfl).trans (by rw [hth]);go_wp2_with fail
          clear cth;replace HO:=am_ (Kd.R_drew HO.out);replace HG:=am_ (Kd.R_drew HG.out);replace BK:=am_ (blk_drew BK.out);replace HB:=am_ (below_drew1 HB.out);refine start_ (n:=11) (S:=fun w'=>w'.cell? ⟨gg,i*21+18,none⟩=some (.int .i64 z.f3.f0)∧w'.cell? ⟨gg,i*21+18+1,none⟩=some (.int .i64 z.f3.f1)∧w'.cell? ⟨gg,i*21+18+2,none⟩=some (.int .i64 z.f3.f2)∧w'.cell? ⟨gg,i*21+5+2,none⟩=some (.int .i64 z.f1.f2.f0)∧w'.cell? ⟨gg,i*21+5+2+1,none⟩=some (.int .i64 z.f1.f2.f1)∧w'.cell? ⟨gg,i*21+5+2+2,none⟩=some (.int .i64 z.f1.f2.f2)) (ds:=[]) (bs_ 11 0) (by kernel_rfl) rfl rfl ⟨goal_cell HL0.out HG.out 18 rfl,goal_cell HL0.out HG.out 19 rfl,goal_cell HL0.out HG.out 20 rfl,goal_cell HL0.out HG.out 7 rfl,goal_cell HL0.out HG.out 8 rfl,goal_cell HL0.out HG.out 9 rfl⟩ (fun hHeld=> ?_);generalize wc.drew=w9 at HO HG BK HB hHeld ⊢;refine pv_ (i:=0) (N:=some 65) (bs_ 11 1) ?_;refine pv_ (i:=1) (N:=some 66) (bs_ 11 2) ?_;refine pv_ (i:=2) (N:=some 67) (bs_ 11 3) ?_;refine tv_ (i:=3) (N:=some 68) (bs_ 11 4) hHeld ?_;refine pv_ (i:=4) (N:=some 69) (bs_ 11 5) ?_;refine pv_ (i:=5) (N:=some 70) (bs_ 11 6) ?_;refine pv_ (i:=6) (N:=some 71) (bs_ 11 7) ?_;refine pv_ (i:=7) (N:=some 72) (bs_ 11 8) ?_;refine tv_ (i:=8) (N:=some 73) (bs_ 11 9) hHeld ?_;refine pv_ (i:=9) (N:=some 74) (bs_ 11 10) ?_;refine pv_ (i:=10) (N:=some 64) (bs_ 11 11) ?_;refine done_ (by kernel_rfl) ?_
          cases hne:neG z.f3 z.f1.f2 with
          | true =>
            have HRS:raiseG wide y=[⟨2,z.f0.f0,⟨#[]⟩,z.f3⟩]:=by rw [HRZ];unfold raise1;rw [if_neg (by rw [hth];simp),if_pos hne]
            clear HRZ;have HRS:=Aside0.mk HRS;unfold neG at hne;rw [hne];go_wp2_with fail
            replace HO:=am_ (Kd.R_drew HO.out);replace HG:=am_ (Kd.R_drew HG.out);replace BK:=am_ (blk_drew BK.out);replace HB:=am_ (below_drew1 HB.out);refine start_ (n:=12) (S:=fun w'=>w'.cell? ⟨gg,i*21,none⟩=some (.string z.f0.f0)∧w'.cell? ⟨gg,i*21+18,none⟩=some (.int .i64 z.f3.f0)∧w'.cell? ⟨gg,i*21+18+1,none⟩=some (.int .i64 z.f3.f1)∧w'.cell? ⟨gg,i*21+18+2,none⟩=some (.int .i64 z.f3.f2)) (ds:=[11]) (bs_ 12 0) (by kernel_rfl) rfl rfl ⟨goal_cell HL0.out HG.out 0 rfl,goal_cell HL0.out HG.out 18 rfl,goal_cell HL0.out HG.out 19 rfl,goal_cell HL0.out HG.out 20 rfl⟩ (fun hHeld=> ?_);generalize w9.drew=w10 at HO HG BK HB hHeld ⊢;refine pv_ (i:=0) (N:=some 75) (bs_ 12 1) ?_;refine pv_ (i:=1) (N:=some 76) (bs_ 12 2) ?_;refine pv_ (i:=2) (N:=some 77) (bs_ 12 3) ?_;refine pv_ (i:=3) (N:=some 78) (bs_ 12 4) ?_;refine pv_ (i:=4) (N:=some 79) (bs_ 12 5) ?_;refine tv_ (i:=5) (N:=some 80) (bs_ 12 6) hHeld ?_;refine pv_ (i:=6) (N:=some 81) (bs_ 12 7) ?_;refine pv_ (i:=7) (N:=some 82) (bs_ 12 8) ?_;refine pv_ (i:=8) (N:=some 83) (bs_ 12 9) ?_;refine tv_ (i:=9) (N:=some 84) (bs_ 12 10) hHeld ?_;refine pv_ (i:=10) (N:=some 85) (bs_ 12 11) ?_;refine last_ (i:=11) (N:=some 86) (bs_ 12 12) rfl rfl (by kernel_rfl) (by decide) (fun K hK=> ?_);refine goes_ Try.func126 (by kernel_rfl) rfl #[.pointer (some ⟨b,0,none⟩), .agg (stepCells ⟨2,z.f0.f0,⟨#[]⟩,z.f3⟩)] (by rfl) rfl rfl (by (try simp only [List.map_toArray,List.map_cons,List.map_nil]);rfl) ?_
            refine (planPut_calls w _ b _ _ _ _ ⟨2,z.f0.f0,⟨#[]⟩,z.f3⟩ BK.out GE.out HB.out HO.out (by rw [List.length_append];have:=HLEN.out;have:=raiseG_len wide pre;have:=HI.out;omega)).mono ?_;rintro e w12 ⟨rfl,vo',hbk,ho,hb,hk⟩;refine ⟨_,rfl, ?_⟩;have n0_:=am_ (R_keepS HG.out BK.out (by decide) hk);clear HG BK HO HB hk;have HG:=n0_;have BK:=Aside0.mk hbk;have HO:=Aside0.mk ho;have HB:=Aside0.mk hb;clear n0_ hbk ho hb;refine hK.out _ _ ?_;clear hK K hHeld;refine done_ (by kernel_rfl) ?_;go_wp2_with fail
            go_roundg post.length
            case measure=>have:=HKQ.out;rw [this,List.length_cons];omega
            case rel=>exact ⟨pre++ [y],post,_,by rw [HGS.out,List.append_assoc];rfl,rfl,by rw [List.length_append,HI.out,List.length_singleton,nx_nat (n:=gs.length) (by have:=HN.out;omega) (by have:=HLN.out;omega)],BK,⟨by rw [List.map_append,List.append_assoc];show Kd.R _ _ _ _ _ _ (_++(upG wide y::post));rw [HZ.out];exact HG.out⟩,⟨by rw [flat_snoc,←List.append_assoc];rw [HRS.out];exact HO.out⟩,HB⟩
          | false =>
            have HRS:raiseG wide y=[]:=by rw [HRZ];unfold raise1;rw [if_neg (by rw [hth];simp),if_neg (by rw [hne];simp)]
            clear HRZ;have HRS:=Aside0.mk HRS;unfold neG at hne;rw [hne];go_wp2_with fail
            go_roundg post.length
            case measure=>have:=HKQ.out;rw [this,List.length_cons];omega
            case rel=>exact ⟨pre++ [y],post,_,by rw [HGS.out,List.append_assoc];rfl,rfl,by rw [List.length_append,HI.out,List.length_singleton,nx_nat (n:=gs.length) (by have:=HN.out;omega) (by have:=HLN.out;omega)],BK,⟨by rw [List.map_append,List.append_assoc];show Kd.R _ _ _ _ _ _ (_++(upG wide y::post));rw [HZ.out];exact HG.out⟩,⟨by rw [flat_snoc,←List.append_assoc];rw [HRS.out,List.append_nil];exact HO.out⟩,HB⟩

def moveG (y:PGoal):List S76:=if y.f2=true∧y.f1.f1.toList≠y.f0.f1.toList then [⟨3,y.f0.f0,y.f0.f1,⟨0,0,0⟩⟩] else []
theorem moveG_len: ∀l:List PGoal,(l.flatMap moveG).length≤l.length
  |[]=>Nat.le_refl _
  | y :: l => by
    have:=moveG_len l
    rw [List.flatMap_cons,List.length_append,List.length_cons];have:(moveG y).length≤1:=by unfold moveG;split<;>simp
    omega
theorem goalCells_info:(Try.prog.info? 141).map (·.size)=some 21:=by kernel_rfl
theorem goalCells_one (y:PGoal): ∀q∈goalCells y,q.oneCell'=true:=by
 intro q hq;unfold goalCells at hq;simp only [List.mem_cons,List.not_mem_nil,or_false] at hq
 rcases hq with rfl|rfl|rfl|rfl|rfl|rfl|rfl|rfl|rfl|rfl|rfl|rfl|rfl|rfl|rfl|rfl|rfl|rfl|rfl|rfl|rfl<;>rfl
section
variable {P:Program} {ops:Array Oper} {rest:List Oper} {o:Oper} {a:Act} {Q:Exit→Act→World→Prop} {W:World}
theorem load_at {t g off:Nat} (cs:List Value) (hgd:o.guard=none) (x:Operand) (ho:o.op= .load t x) (hx:a.eval x= .pointer (some ⟨g,off,none⟩)) (d:TypeDesc) (hu:P.underlying t=some d) (hd:(match d with| .struct _| .array _ _=>true|_=>false)=true) (hi:(P.info? t).map (·.size)=some cs.length)
    (hc: ∀j v,cs[j]?=some v→W.cell? ⟨g,off+j,none⟩=some v) (h:wpList P ops Q rest (a.put o.dst (.agg cs.toArray)) W):wpList P ops Q (o::rest) a W:=by
  have hl:(loadCells ⟨g,off,none⟩ cs.length).run P W= .ok cs.toArray W:=run_loadCells_list (P:=P) W ⟨g,off,none⟩ cs (fun j v hv=>by
    have hadd:(⟨g,off,none⟩:Addr).add j=⟨g,off+j,none⟩:=Addr.add_lit _ _ _
    rw [hadd]
    exact hc j v hv)
  have hrun:(loadVar t ⟨g,off,none⟩).run P W= .ok (.agg cs.toArray) W:=by
    cases hq:P.info? t with
    |none=>simp [hq] at hi
    | some i =>
      have hs:i.size=cs.length:=by simpa [hq] using hi
      have hagg:(isAgg t).run P W= .ok true W:=by
        unfold isAgg
        rw [Sem.run_bind,run_underlying hu W]
        cases d<;>simp_all
      simp [loadVar,Sem.run_bind,hagg,sizeOf,typeInfo,hq,hs,hl]
  refine wpList_plain hgd fun K hK=> ?_
  unfold Oper.wp execOp
  simp only [ho,hx,Instr.loadAt,Instr.sureAddr,Sem.run_bind,Sem.run_pure,Result.andThen_ok,hrun]
  exact hK _ _ h
end
set_option maxHeartbeats 8000000 in
set_option maxRecDepth 100000 in
theorem planMove_calls (w W:World) (b:Nat) (vg vo:Value) (wide:Bool) (gs:List PGoal) (out:List S76)
    (hb:W.heap[b]?=some (.cells #[vg, .bool wide,vo] 139 (0,0))) (hge:w.heap.size≤b) (hB:Below w.heap.size w W) (hg:Kd.R k141 141 W w.heap.size (fun _=>True) vg gs) (ho:Kd.R k76 76 W w.heap.size (fun _=>True) vo out) (hl:out.length+gs.length<100000):
    Calls Try.prog 95 #[.pointer (some ⟨b,0,none⟩)] W fun e w'=>e= .returned (.tuple #[])∧ ∃vo',w'.heap[b]?=some (.cells #[vg, .bool wide,vo'] 139 (0,0))∧Kd.R k141 141 w' w.heap.size (fun _=>True) vg gs∧Kd.R k76 76 w' w.heap.size (fun _=>True) vo' (out++gs.flatMap moveG)∧Below w.heap.size w w':=by
  have hu139:=Try.underlying139;have hu141:=Try.underlying141;have hu76:=Try.underlying76;have hu39:=Try.underlying39;have hu79:=Try.underlying79;have hu37:=Try.underlying37;obtain ⟨Ag,cg,eg⟩:=Kd.R_slice hg;subst eg;have BK:=Aside0.mk hb;have GE:=Aside0.mk hge;have HB:=Aside0.mk hB;have HG:=Aside0.mk hg;have HO:=Aside0.mk ho;have HLN:=Aside0.mk hl;clear hb hge hB hg ho hl;have cb0:=zz_ BK 0;go_enter Try.func95,Try.ntmps95;go_wp2
  clear cb0;go_loopg [9] gs.length (fun kq v9 w'=> ∃(pre post:List PGoal) (u:Value),gs=pre++post∧kq=post.length∧v9= .int .i64 (pre.length:Int)∧Aside0 (w'.heap[b]?=some (.cells #[.slice Ag gs.length cg, .bool wide,u] 139 (0,0)))∧Aside0 (Kd.R k141 141 w' w.heap.size (fun _=>True) (.slice Ag gs.length cg) gs)∧Aside0 (Kd.R k76 76 w' w.heap.size (fun _=>True) u (out++pre.flatMap moveG))∧Aside0 (Below w.heap.size w w'))
  case atStart=>exact ⟨[],gs,vo,rfl,rfl,rfl,BK,HG,⟨by rw [List.flatMap_nil,List.append_nil];exact HO.out⟩,HB⟩
  case round=>
    clear BK HG HO HB;obtain ⟨pre,post,u,hgs,hkq,rfl,BK,HG,HO,HB⟩:=hrel
    cases post with
    | nil =>
      have c1:decide ((pre.length:Int)<(gs.length:Int))=false:=decide_eq_false (by rw [hgs,List.append_nil];omega);rw [List.append_nil] at hgs;subst hgs;go_wp2
      (first|go_end0|((try simp only [Exit.inBlock,Exit.then]);refine bodyPost_ret (results_none rfl _ _ _) rfl ?_)|refine bodyPost_end (results_none rfl _ _ _) rfl ?_);exact ⟨rfl,_,BK.out,HG.out,HO.out,HB.out⟩
    | cons y post =>
      have hn:gs.length=pre.length+(post.length+1):=by rw [hgs,List.length_append,List.length_cons]
      have c1:decide ((pre.length:Int)<(gs.length:Int))=true:=decide_eq_true (by omega);have q1:((pre.length:Nat):Int)<(gs.length:Int):=by omega
      obtain ⟨gg,cg',hv, -, -, -⟩:=Kd.R_form HG.out (by omega)
      obtain ⟨rfl,rfl⟩:Ag=some ⟨gg,0,none⟩∧cg=cg':=by
        injection hv with e1 e2 e3;exact ⟨e1,e3⟩
      clear hv;have HLEN:=am_ (show out.length+pre.length<100000 by have:=HLN.out;omega);have HG':Kd.R k141 141 wr w.heap.size (fun _=>True) (.slice (some ⟨gg,0,none⟩) gs.length cg) (pre++y::post):=by rw [←hgs];exact HG.out
      generalize hi:pre.length=i at*;have q0:(0:Int)≤((i:Nat):Int):=by omega
      have HGS:=Aside0.mk hgs;have HKQ:=Aside0.mk hkq;have HI:=Aside0.mk hi;have HN:=Aside0.mk hn;have HGP:=Aside0.mk HG';clear hgs hkq hi hn HG';replace q1:=eq_true q1;replace q0:=eq_true q0;have BK_:=BK;have HG_:=HG
      go_upto_region 3 with (first|((with_reducible refine gate_dst (N:=12) rfl ?_);refine load_at (goalCells y) rfl (.tmp 11) rfl (g:=gg) (off:=i*21) rfl _ hu141 rfl goalCells_info (fun j v hv=>goal_cell HI.out HGP.out j hv) ?_)|((with_reducible refine gate_dst (N:=3) rfl ?_);refine bx_ (N:=3) (cs:=#[.string ⟨#[]⟩, .string ⟨#[]⟩, .int .i64 0, .int .i64 0, .int .i64 0, .string ⟨#[]⟩, .string ⟨#[]⟩, .int .i64 0, .int .i64 0, .int .i64 0, .int .i64 0, .int .i64 0, .int .i64 0, .int .i64 0, .int .i64 0, .int .i64 0, .int .i64 0, .bool false, .int .i64 0, .int .i64 0, .int .i64 0]) (t:=141) ?_;intro gb3 hg w3 hbox hb;replace HO:=am_ (Kd.R_below HO.out hb);replace HG:=am_ (Kd.R_below HG.out hb);replace BK:=am_ (blk_below BK.out hb);have BK3:=am_ (hbox);have GE3:=am_ ((by rw [hg];exact below_size HB.out:w.heap.size≤gb3));replace HB:=am_ (below_step HB.out hb);have EQ3:=am_ (hg);have NE3:=am_ (show b≠gb3 from by have:=blk_lt BK_.out;rw [hg];exact Nat.ne_of_lt this);have OLDG:=am_ (show some gb3≠(Value.slice (some ⟨gg,0,none⟩) gs.length cg).ownBlock from fun e=>by have:=Kd.R_lt HG_.out gb3 e.symm;omega);clear hb hbox hg)|((with_reducible refine gate_store (t:=141) (p:=3) (v:= .tmp 12) rfl ?_);refine store_all BK3.out 141 (.tmp 3) (.tmp 12) rfl rfl rfl (.agg (goalCells y).toArray) (goalCells y) rfl rfl rfl goalCells_info rfl (goalCells_one y) ?_;intro w4 hbk hg;replace HO:=am_ (R_put HO.out BK3.out (by decide) hg);replace BK:=am_ (blk_put_other BK.out hg (NE3.out));replace HB:=am_ (below_put HB.out (below_size HB.out) hg GE3.out);replace BK3:=am_ (hbk);have HG4:=am_ (Kd.R_mono (Kd.R_grown (Kd.R_tight (by rfl) HG.out) hg (fun k hk e=>OLDG.out (e.symm.trans hk))) (fun _ _=>trivial));clear HG;have HG:=HG4;clear HG4;clear hbk hg))
      have c17:w4.cell? ⟨gb3,17,none⟩=some (.bool y.f2):=zz_ BK3 17;have c6:w4.cell? ⟨gb3,5+1,none⟩=some (.string y.f1.f1):=zz_ BK3 6;have c1_:w4.cell? ⟨gb3,1,none⟩=some (.string y.f0.f1):=zz_ BK3 1;have c0_:w4.cell? ⟨gb3,0,none⟩=some (.string y.f0.f0):=zz_ BK3 0;clear BK3 HGP
      cases hth:y.f2 with
      | false =>
        have HRS:Aside0 (moveG y=[]):=⟨by unfold moveG;rw [if_neg (by rw [hth];simp)]⟩;rw [hth] at c17;clear hth;go_wp2
        go_roundg post.length
        case measure=>have:=HKQ.out;rw [this,List.length_cons];omega
        case rel=>exact ⟨pre++ [y],post,_,by rw [HGS.out,List.append_assoc];rfl,rfl,by rw [List.length_append,HI.out,List.length_singleton,nx_nat (n:=gs.length) (by have:=HN.out;omega) (by have:=HLN.out;omega)],BK,HG,⟨by rw [flat_snoc,←List.append_assoc,HRS.out];rw [List.append_nil];exact HO.out⟩,HB⟩
      | true =>
        rw [hth] at c17;by_cases hp:y.f1.f1.toList=y.f0.f1.toList
        · have HRS : Aside0 (moveG y = []) := ⟨by unfold moveG; rw [if_neg (by simp [hp])]⟩
          have hp1:(y.f1.f1.toList==y.f0.f1.toList)=true:=beq_iff_eq.2 hp
          have hp2:(y.f1.f1.toList !=y.f0.f1.toList)=false:=bne_eq_false_iff_eq.2 hp
          clear hp hth
          go_wp2
          go_roundg post.length
          case measure=>have:=HKQ.out;rw [this,List.length_cons];omega
          case rel=>exact ⟨pre++ [y],post,_,by rw [HGS.out,List.append_assoc];rfl,rfl,by rw [List.length_append,HI.out,List.length_singleton,nx_nat (n:=gs.length) (by have:=HN.out;omega) (by have:=HLN.out;omega)],BK,HG,⟨by rw [flat_snoc,←List.append_assoc,HRS.out];rw [List.append_nil];exact HO.out⟩,HB⟩
        have HRS:Aside0 (moveG y=[⟨3,y.f0.f0,y.f0.f1,⟨0,0,0⟩⟩]):=⟨by unfold moveG;rw [if_pos ⟨hth,hp⟩]⟩;have hp1:(y.f1.f1.toList==y.f0.f1.toList)=false:=beq_eq_false_iff_ne.2 hp;have hp2:(y.f1.f1.toList !=y.f0.f1.toList)=true:=bne_iff_ne.2 hp;clear hp hth;go_wp2_with (go_at_call 126;refine (planPut_calls w _ b _ _ _ _ (⟨3,y.f0.f0,y.f0.f1,⟨0,0,0⟩⟩:S76) BK.out GE.out HB.out HO.out (by rw [List.length_append];have:=HLEN.out;have:=moveG_len pre;have:=HI.out;omega)).mono ?_;rintro e w6 ⟨rfl,vo',hbk,ho,hb,hk⟩;have n0_:=am_ (R_keepS HG.out BK.out (by decide) hk);clear HG BK HO HB hk;have HG:=n0_;have BK:=Aside0.mk hbk;have HO:=Aside0.mk ho;have HB:=Aside0.mk hb;clear n0_ hbk ho hb)
        go_roundg post.length
        case measure=>have:=HKQ.out;rw [this,List.length_cons];omega
        case rel=>exact ⟨pre++ [y],post,_,by rw [HGS.out,List.append_assoc];rfl,rfl,by rw [List.length_append,HI.out,List.length_singleton,nx_nat (n:=gs.length) (by have:=HN.out;omega) (by have:=HLN.out;omega)],BK,HG,⟨by rw [flat_snoc,←List.append_assoc,HRS.out];exact HO.out⟩,HB⟩
end Go.Proofs.Ytahidkjncljkaaa.Print

namespace Go.Proofs.Ytahidkjncljkaaa.Print
open Go.RowKit Go.Shelf Go.Proofs.YtahidkjncljkaaaW.PrintWords Go.Proofs.YtahidkjncljkaaaW.PrintLast Go.Proofs.YtahidkjncljkaaaW.PrintMore
attribute [local go_sem] Oper.semAt_some
section
variable {F:Fence} {n:Nat} {P:Program} {ops:Array Oper} {rest:List Oper} {o:Oper} {a:Act} {Q:Exit→Act→World→Prop} {W:World}
theorem in_load {t g off:Nat} (cs:List Value) (hgd:o.guard=none) (x:Operand) (ho:o.op= .load t x) (hx:a.eval x= .pointer (some ⟨g,off,none⟩)) (d:TypeDesc) (hu:P.underlying t=some d) (hd:(match d with| .struct _| .array _ _=>true|_=>false)=true) (hi:(P.info? t).map (·.size)=some cs.length)
    (hc: ∀j v,cs[j]?=some v→W.cell? ⟨g,off+j,none⟩=some v) (h:wpListIn F n P ops Q rest (a.put o.dst (.agg cs.toArray)) W):wpListIn F n P ops Q (o::rest) a W:=by
  have hl:(loadCells ⟨g,off,none⟩ cs.length).run P W= .ok cs.toArray W:=run_loadCells_list (P:=P) W ⟨g,off,none⟩ cs (fun j v hv=>by
    have hadd:(⟨g,off,none⟩:Addr).add j=⟨g,off+j,none⟩:=Addr.add_lit _ _ _;rw [hadd];exact hc j v hv)
  have hrun:(loadVar t ⟨g,off,none⟩).run P W= .ok (.agg cs.toArray) W:=by
    cases hq:P.info? t with
    |none=>simp [hq] at hi
    | some i =>
      have hs:i.size=cs.length:=by simpa [hq] using hi
      have hagg:(isAgg t).run P W= .ok true W:=by
        unfold isAgg;rw [Sem.run_bind,run_underlying hu W]
        cases d<;>simp_all
      simp [loadVar,Sem.run_bind,hagg,sizeOf,typeInfo,hq,hs,hl]
  refine wpListIn_plain hgd fun K hK=> ?_
  unfold Oper.wpIn;refine ⟨?_, ?_⟩
  · simp [Oper.about,ho]
  rw [Oper.semAt_plain F _ _ (by rw [ho];intro c hc';cases hc')];unfold execOp;simp only [ho,hx,Instr.loadAt,Instr.sureAddr,Sem.run_bind,Sem.run_pure,Result.andThen_ok,hrun];exact hK _ _ h
theorem in_alloc (hgd:o.guard=none) {N:Tmp} (_hd:o.dst=some N) (t:TypeId) (ho:o.op= .alloc t) {cs:Array Value}
    (hrun:(execOp a.eval o).run P W= .ok (.value (.pointer (some ⟨W.heap.size,0,none⟩))) (W.alloc (.cells cs t (0,0))))
    (h: ∀g,g=W.heap.size→ ∀w1,w1.heap[g]?=some (.cells cs t (0,0))→Below W.heap.size W w1→wpListIn F n P ops Q rest (a.put o.dst (.pointer (some ⟨g,0,none⟩))) w1):wpListIn F n P ops Q (o::rest) a W:=by
  refine wpListIn_plain hgd fun K hK=> ?_
  unfold Oper.wpIn;refine ⟨?_, ?_⟩
  · simp [Oper.about,ho]
  rw [Oper.semAt_plain F _ _ (by rw [ho];intro c hc';cases hc'),hrun];exact hK _ _ (h _ rfl _ (blk_new W _) (below_alloc (Below.refl _ _) _))
theorem in_store_all {gb e:Nat} {zs:Array Value} (hh:W.heap[gb]?=some (.cells zs e (0,0))) (t:TypeId) (p x:Operand) (ho:o.op= .store t p x) (hN:o.dst=none) (hgd:o.guard=none) (u:Value) (seg:List Value)
    (hp:a.eval p= .pointer (some ⟨gb,0,none⟩)) (hx:a.eval x=u) (hu:u.cells.toList=seg) (ht:(P.info? t).map (·.size)=some seg.length) (hz:zs.size=seg.length) (h1: ∀q∈seg,q.oneCell'=true)
    (h: ∀w',w'.heap[gb]?=some (.cells seg.toArray e (0,0))→W.grownBy w' (some gb)→wpListIn F n P ops Q rest a w'):wpListIn F n P ops Q (o::rest) a W:=by
  obtain ⟨w',cur,hrun,hc,hs,hl,hg⟩:=put_run (P:=P) hh t u 0 seg hu ht (by omega) h1
  have e1:cur=seg.toArray:=by
    apply Array.ext'
    rw [hl,List.take_zero,List.nil_append,Nat.zero_add,List.drop_of_length_le (by simp [Array.length_toList];omega),List.append_nil]
  subst e1;refine wpListIn_plain hgd fun K hK=> ?_
  unfold Oper.wpIn;refine ⟨?_, ?_⟩
  · simp [Oper.about,ho]
  rw [Oper.semAt_plain F _ _ (by rw [ho];intro c hc';cases hc')];unfold execOp;simp only [ho,hp,hx,Sem.run_bind,Sem.run_pure,Result.andThen_ok,hrun]
  show K (a.put o.dst undef) _
  rw [hN];exact hK a _ (h _ hc hg)
end
def KeepG (A B:World):Prop:= ∀(g:Nat) (cs:Array Value) (t:TypeId),A.heap[g]?=some (Obj.cells cs t (0,0))→t=141∨t=137→B.heap[g]?=some (Obj.cells cs t (0,0))
theorem keepG_trans {A B C:World} (h:KeepG A B) (k:KeepG B C):KeepG A C:=fun g cs t hg ht=>k g cs t (h g cs t hg ht) ht
theorem keepG_obj (W:World) (l:Nat) (o o':Obj) (h:W.heap[l]?=some o) (hc:o.isCells=false):KeepG W (W.putObj l o'):=fun g cs t hg ht=>by
 have hne:g≠l:=fun e=>by
  rw [e,h] at hg;cases hg;cases hc
 rw [World.putObj_heap_other hne];exact hg
theorem R_keepG {base:Nat} {A B:World} {v:Value} {gs:List PGoal} (h:Kd.R k141 141 A base (fun _=>True) v gs) (hk:KeepG A B):Kd.R k141 141 B base (fun _=>True) v gs:=
  Kd.R_mono (Kd.R_step (Kd.R_bound h) (fun k hk' _=>by
    obtain ⟨_,_,_,q,hq,cells,hc⟩:=hk'
    have e:q=141:=by
      rcases List.mem_cons.1 hq with e|e
      · exact e
      cases e
    subst e;rw [hk k cells _ hc (.inl rfl),hc])) (fun _ _=>trivial)
theorem goal_split {gs:List PGoal} {i:Nat} (h:i<gs.length):gs=gs.take i++gs[i]::gs.drop (i+1):=by
 rw [←List.drop_eq_getElem_cons h,List.take_append_drop]
def backAt (gs:List PGoal) (m:Nat):Int×PGoal:=(((gs.length - 1 - m:Nat):Int),gs.getD (gs.length - 1 - m) z141)
def backTo (gs:List PGoal) (m:Nat):List (Int×PGoal):=(List.range m).map (backAt gs)
theorem backTo_succ (gs:List PGoal) (m:Nat):backTo gs (m+1)=backTo gs m++ [backAt gs m]:=by simp [backTo,List.range_succ]
theorem backTo_len (gs:List PGoal) (m:Nat):(backTo gs m).length=m:=by simp [backTo]
theorem backTo_all (gs:List PGoal):(backTo gs gs.length).map (·.2)=gs.reverse:=by
  apply List.ext_getElem
  · simp [backTo]
  intro i h1 h2;rw [List.length_reverse] at h2;simp only [backTo,List.map_map,List.getElem_map,List.getElem_range,Function.comp_apply,backAt];rw [List.getElem_reverse,List.getD_eq_getElem?_getD,List.getElem?_eq_getElem (by omega),Option.getD_some]
def encG (x:Int×PGoal):Array Value:=#[.int .i64 x.1, .agg (goalCells x.2).toArray]
set_option maxRecDepth 100000 in
set_option maxHeartbeats 4000000 in
theorem back1_in (F:Fence) (n:Nat) (hf:F.fn 150) (hro:F.round=none) (hn:1≤n) (l Bs base cg:Nat) (Ag:Option Addr) (gs:List PGoal) (hl:gs.length<100000) (J Jx:List (Int×PGoal)→World→Prop)
    (hY: ∀pre x W,J pre W→pre.length<gs.length→YieldAt F (n - 1) Try.prog l (encG x) W fun e W'=>
      (e= .returned (.bool true)∧J (pre++ [x]) W'∧KeepG W W')∨(e= .returned (.bool false)∧Jx (pre++ [x]) W'))
    (W:World) (hBs:W.heap[Bs]?=some (.cells #[.slice Ag gs.length cg] 137 (0,0))) (hg:Kd.R k141 141 W base (fun _=>True) (.slice Ag gs.length cg) gs) (h0:J [] W):
    CallsIn F n Try.prog 150 #[.func (.yield l) #[] #[], .pointer (some ⟨Bs,0,none⟩)] W fun e W'=>(∃v,e= .returned v)∧
      ((∃ys,ys=backTo gs gs.length∧J ys W')∨(∃pre,pre.length≤gs.length∧Jx pre W')):=by
  refine callsIn_of_wp Try.func150 rfl hf ?_ hro;simp only [Try.ntmps150,List.size_toArray,List.length_cons,List.length_nil,Nat.reduceAdd,Nat.reduceSub,Array.replicate_succ,Array.replicate_zero,List.push_toArray,List.append_toArray,List.nil_append,List.cons_append];have hu141:=Try.underlying141;have hbs0:W.cell? ⟨Bs,0,none⟩=some (.slice Ag gs.length cg):=(blk_cell hBs 0).trans rfl
  gi_wp2
  clear hbs0
  gi_loopw [3] (fun i wr=> ∃m:Nat,m≤gs.length∧i= .int .i64 ((gs.length:Int) - 1 - m)∧J (backTo gs m) wr∧wr.heap[Bs]?=some (.cells #[.slice Ag gs.length cg] 137 (0,0))∧Kd.R k141 141 wr base (fun _=>True) (.slice Ag gs.length cg) gs)
    (fun i _=>(intOf i+1).toNat)
  case atStart=>exact ⟨0,Nat.zero_le _,by simp,h0,hBs,hg⟩
  case round=>
    obtain ⟨m,hm,rfl,hJs,hBr,hGr⟩:=hrel;have hbs0:wr.cell? ⟨Bs,0,none⟩=some (.slice Ag gs.length cg):=(blk_cell hBr 0).trans rfl;by_cases hlt:m<gs.length;rotate_left
    · obtain rfl : m = gs.length := by omega
      have c1:decide ((gs.length:Int) - 1 - (gs.length:Int)≥0)=false:=decide_eq_false (by omega)
      gi_wp2
      go_end0
      exact ⟨⟨_,rfl⟩, .inl ⟨_,rfl,hJs⟩⟩
    obtain ⟨i,hi⟩: ∃i,gs.length - 1 - m=i:=⟨_,rfl⟩;have ei:(gs.length:Int) - 1 - m=(i:Int):=by omega
    have hil:i<gs.length:=by omega
    obtain ⟨gg,cg',hv, -, -, -⟩:=Kd.R_form hGr (by omega)
    obtain ⟨rfl,rfl⟩:Ag=some ⟨gg,0,none⟩∧cg=cg':=by
      injection hv with e1 e2 e3;exact ⟨e1,e3⟩
    obtain ⟨fn,tmps,assign,body,hy,hR⟩:=hY _ (backAt gs m) wr hJs (by rw [backTo_len];exact hlt)
    have hba:backAt gs m=((i:Int),gs[i]):=by
      unfold backAt;rw [hi,List.getD_eq_getElem?_getD,List.getElem?_eq_getElem hil,Option.getD_some]
    obtain ⟨y,hyy⟩: ∃y,gs[i]=y:=⟨_,rfl⟩;have HSP:gs=gs.take i++y::gs.drop (i+1):=by rw [←hyy];exact goal_split hil
    rw [hba,hyy] at hy;unfold encG at hy;dsimp only at hy;have HG2:Kd.R k141 141 wr base (fun _=>True) (.slice (some ⟨gg,0,none⟩) gs.length cg) (gs.take i++y::gs.drop (i+1)):=by rw [←HSP];exact hGr
    have HTL:(gs.take i).length=i:=by rw [List.length_take];omega
    rw [ei];have c1:decide ((i:Int)≥0)=true:=decide_eq_true (by omega);have q0:(0:Int)≤(i:Int):=by omega
    have q1:(i:Int)<(gs.length:Int):=by omega
    have LD:=fun j v hv=>goal_cell HTL HG2 j (u:=v) hv
    have EI:=Aside0.mk ei;have HBA:=Aside0.mk hba;have HYY:=Aside0.mk hyy;clear HSP hba hyy hi ei HTL HG2
    gi_wp2_with (refine in_load (goalCells y) rfl (.tmp 15) rfl (g:=gg) (off:=i*21) rfl _ hu141 rfl goalCells_info LD ?_)
    refine hR.mono ?_;rintro e W3 (⟨rfl,hJ3,hk3⟩|⟨rfl,hJx3⟩)
    · gi_wp2
      go_roundw
      case rel=>exact ⟨m+1,by omega,by have:=EI.out;congr 1;omega,by rw [backTo_succ];exact hJ3,hk3 _ _ _ hBr (.inr rfl),R_keepG hGr hk3⟩
      case measure=>have:=EI.out;simp [intOf]
    gi_wp2
    refine bodyPost_ret (results_none rfl _ _ _) rfl ?_;exact ⟨⟨_,rfl⟩, .inr ⟨_,by rw [List.length_append,backTo_len];simp;omega,hJx3⟩⟩
def eqV (x0 x1 x2 y0 y1 y2:Int):Bool:=x0==y0 && (x1==y1 && x2==y2)
theorem eqA_v (d:Nat) (w:World) (x0 y0 x1 y1 x2 y2:Int):(Op.equalIn (d+2) 37 (.agg #[.int .i64 x0, .int .i64 x1, .int .i64 x2]) (.agg #[.int .i64 y0, .int .i64 y1, .int .i64 y2])).run Try.prog w= .ok (eqV x0 x1 x2 y0 y1 y2) w:=eqA37 d w x0 y0 x1 y1 x2 y2
attribute [local go_sem high] eqA_v
theorem neG_eqV (a b:S37):neG a b= !eqV a.f0 a.f1 a.f2 b.f0 b.f1 b.f2:=by
 unfold neG eqV
 cases (a.f0==b.f0)<;>cases (a.f1==b.f1)<;>cases (a.f2==b.f2)<;>rfl
section
variable {F:Fence} {n:Nat} {P:Program} {ops:Array Oper} {rest:List Oper} {o:Oper} {a:Act} {Q:Exit→Act→World→Prop} {W:World}
theorem in_box (hgd:o.guard=none) {N:Tmp} (_hd:o.dst=some N) (t:TypeId) (x:Operand) (ho:o.op= .box t x) {cs:Array Value}
    (hrun:(execOp a.eval o).run P W= .ok (.value (.pointer (some ⟨W.heap.size,0,none⟩))) (W.alloc (.cells cs t (0,0))))
    (h: ∀g,g=W.heap.size→ ∀w1,w1.heap[g]?=some (.cells cs t (0,0))→Below W.heap.size W w1→wpListIn F n P ops Q rest (a.put o.dst (.pointer (some ⟨g,0,none⟩))) w1):wpListIn F n P ops Q (o::rest) a W:=by
  refine wpListIn_plain hgd fun K hK=> ?_
  unfold Oper.wpIn;refine ⟨?_, ?_⟩
  · simp [Oper.about,ho]
  rw [Oper.semAt_plain F _ _ (by rw [ho];intro c hc';cases hc'),hrun];exact hK _ _ (h _ rfl _ (blk_new W _) (below_alloc (Below.refl _ _) _))
end
theorem blk_own {B k:Nat} {W1 W2:World} {row:Option Nat} {cs:Array Value} {t:TypeId} (h:W1.heap[k]?=some (Obj.cells cs t (0,0))) (hg:W1.grownBy W2 row) (hr: ∀r,row=some r→B≤r∧ ∃o:Obj,W1.heap[r]?=some o∧o.isCells=false):W2.heap[k]?=some (Obj.cells cs t (0,0)):=
 blk_put_other2 h hg (fun e=>by
  obtain ⟨_,o,ho,hc⟩:=hr k e.symm;rw [h] at ho;cases ho
  cases hc)
theorem R_ownf {α:Type} {d:Kd α} {e base B:Nat} {W1 W2:World} {v:Value} {xs:List α} {row:Option Nat} (h:d.R e W1 base (fun _=>True) v xs) (hg:W1.grownBy W2 row) (hr: ∀r,row=some r→B≤r∧ ∃o:Obj,W1.heap[r]?=some o∧o.isCells=false):d.R e W2 base (fun _=>True) v xs:=
 Kd.R_mono (Kd.R_step (Kd.R_bound h) (fun k hk' _=>by
  obtain ⟨_,_,_,q,hq,cells,hc⟩:=hk';rw [blk_own hc hg hr,hc])) (fun _ _=>trivial)
theorem keepsFrom_of {B:Nat} {W W':World} (hs:W.heap.size≤W'.heap.size) (h: ∀(g:Nat) (ob:Obj),W.heap[g]?=some ob→ob.isCells=false→W'.heap[g]?=some ob):KeepsFrom B W W':=⟨hs,fun k o _ hk ho=>h k o hk ho⟩
theorem keepS_from {B b:Nat} {W W':World} {cs:Array Value} {t:TypeId} (hb:W.heap[b]?=some (Obj.cells cs t (0,0))) (h:KeepS b W W'):KeepsFrom B W W':=keepsFrom_of h.2 fun g ob hg hc=>h.1 g ob hg (fun e=>by
 rw [e,hb] at hg;cases hg
 cases hc) (fun cs' e=>by
 rw [e] at hc
 cases hc)
theorem keepS_goal {b:Nat} {W W':World} {cs:Array Value} (hb:W.heap[b]?=some (Obj.cells cs 139 (0,0))) (h:KeepS b W W'):KeepG W W':=fun g cs' t hg ht=>h.1 g _ hg (fun e=>by
 rw [e,hb] at hg;injection hg with hg;injection hg with _ h2 _;subst h2
 rcases ht with ht|ht<;>cases ht) (fun cs2 e=>by
 injection e with _ h2 _;subst h2
 rcases ht with ht|ht<;>cases ht)
theorem back_calls (Ag:Option Addr) (n cg:Nat) (w:World):Calls Try.prog 127 #[.slice Ag n cg] w fun e w'=> ∃Bs,e= .returned (.func (.func 150) #[] #[.pointer (some ⟨Bs,0,none⟩)])∧w'.heap[Bs]?=some (Obj.cells #[.slice Ag n cg] 137 (0,0))∧Below w.heap.size w w':=by
 go_enter Try.func127,Try.ntmps127;go_wp2
 go_ret
 exact ⟨_,rfl,blk_new w _,below_alloc (Below.refl _ _) _⟩
theorem back_stops (base Bs cg:Nat) (Ag:Option Addr) (gs:List PGoal) (hl:gs.length<100000) (n:Nat) (hn:1≤n) (w:World) (hBs:w.heap[Bs]?=some (Obj.cells #[.slice Ag gs.length cg] 137 (0,0))) (hg:Kd.R k141 141 w base (fun _=>True) (.slice Ag gs.length cg) gs):
  SeqStopsK Fence.wide n Try.prog 150 #[.pointer (some ⟨Bs,0,none⟩)] encG KeepG (fun xs=>xs=backTo gs gs.length) (fun pre=>pre.length≤gs.length) gs.length w:=fun l J Jx W hW _ _ hY h0=>
 back1_in Fence.wide n trivial rfl hn l Bs base cg Ag gs hl J Jx hY W (blk_below hBs hW) (Kd.R_below hg hW) h0
def FreshW (W w:World):Prop:=W.heap.size≤w.heap.size∧ ∀k,k<W.heap.size→w.heap[k]?=W.heap[k]?
theorem fresh_box {W w3 w4:World} {g:Nat} (hb:Below W.heap.size W w3) (hg:g=W.heap.size) (hgr:w3.grownBy w4 (some g)):FreshW W w4:=⟨Nat.le_trans hb.size hgr.size,fun k hk=>by
 rw [hgr.block k (Nat.lt_of_lt_of_le hk hb.size) (fun e=>by injection e with e;omega),hb.block k hk]⟩
theorem R_fresh {α:Type} {d:Kd α} {e base:Nat} {W w:World} {v:Value} {xs:List α} (h:d.R e W base (fun _=>True) v xs) (hf:FreshW W w):d.R e w base (fun _=>True) v xs:=Kd.R_step h (fun k _ hk=>hf.2 k hk)
theorem blk_fresh {W w:World} {k:Nat} {ob:Obj} (h:W.heap[k]?=some ob) (hf:FreshW W w):w.heap[k]?=some ob:=by
 rw [hf.2 k (blk_lt h),h]
def lowerG (y:PGoal):List S76:=if neG y.f3 y.f0.f2=true then [⟨2,y.f0.f0,⟨#[]⟩,y.f0.f2⟩] else []
theorem lowerG_len: ∀l:List PGoal,(l.flatMap lowerG).length≤l.length
  |[]=>Nat.le_refl _
  | y :: l => by
    have:=lowerG_len l
    rw [List.flatMap_cons,List.length_append,List.length_cons];have:(lowerG y).length≤1:=by unfold lowerG;split<;>simp
    omega
set_option maxHeartbeats 8000000 in
set_option maxRecDepth 100000 in
theorem planLower_calls (w W:World) (b:Nat) (vg vo:Value) (wide:Bool) (gs:List PGoal) (out:List S76)
    (hb:W.heap[b]?=some (.cells #[vg, .bool wide,vo] 139 (0,0))) (hge:w.heap.size≤b) (hB:Below w.heap.size w W) (hg:Kd.R k141 141 W w.heap.size (fun _=>True) vg gs) (ho:Kd.R k76 76 W w.heap.size (fun _=>True) vo out) (hl:out.length+gs.length<100000):
    Calls Try.prog 96 #[.pointer (some ⟨b,0,none⟩)] W fun e w'=>e= .returned (.tuple #[])∧ ∃vo',w'.heap[b]?=some (.cells #[vg, .bool wide,vo'] 139 (0,0))∧Kd.R k141 141 w' w.heap.size (fun _=>True) vg gs∧Kd.R k76 76 w' w.heap.size (fun _=>True) vo' (out++gs.reverse.flatMap lowerG)∧Below w.heap.size w w':=by
  have hu139:=Try.underlying139;have hu141:=Try.underlying141;have hu76:=Try.underlying76;have hu39:=Try.underlying39;have hu79:=Try.underlying79;have hu37:=Try.underlying37;obtain ⟨Ag,cg,eg⟩:=Kd.R_slice hg;subst eg;have BK:=Aside0.mk hb;have GE:=Aside0.mk hge;have HB:=Aside0.mk hB;have HG:=Aside0.mk hg;have HO:=Aside0.mk ho;have HLN:=Aside0.mk hl;clear hb hge hB hg ho hl;refine (callsIn_wide (n:=5)).1 ?_;refine callsIn_of_wp_marks Try.func96 rfl trivial ?_ rfl;simp only [Try.ntmps96,List.size_toArray,List.length_cons,List.length_nil,Nat.reduceAdd,Nat.reduceSub,Array.replicate_succ,Array.replicate_zero,List.push_toArray,List.append_toArray,List.nil_append,List.cons_append]
  gi_wp2_with (first
    |(refine in_box rfl (N:=1) rfl 136 (.tmp 0) rfl (cs:=#[.pointer (some ⟨b,0,none⟩)]) ?hr ?_;(case hr=>first|(go_simp;done)|(go_simp;rfl));intro gb1 hg1 w1 hbox hb1;replace HO:=am_ (Kd.R_below HO.out hb1);replace HG:=am_ (Kd.R_below HG.out hb1);replace BK:=am_ (blk_below BK.out hb1);replace HB:=am_ (below_step HB.out hb1);have B1:=Aside0.mk hbox;clear hbox hb1 hg1;have cb1:=(blk_cell B1.out 0).trans rfl;have cb0:=(blk_cell BK.out 0).trans rfl)
    |(refine ⟨trivial, ?_⟩;gi_at_call 127;refine (callsIn_wide.2 (back_calls Ag gs.length cg _)).mono ?_;rintro e w2 ⟨Bs,rfl,hbs,hb2⟩;have n0_:=am_ (Kd.R_below HO.out hb2);have n1_:=am_ (Kd.R_below HG.out hb2);have n2_:=am_ (blk_below BK.out hb2);have n3_:=am_ (below_step HB.out hb2);have n4_:=am_ (blk_below B1.out hb2);clear HO HG BK HB B1 cb0 cb1;have HO:=n0_;have HG:=n1_;have BK:=n2_;have HB:=n3_;have B1:=n4_;clear n0_ n1_ n2_ n3_ n4_;have BS:=Aside0.mk hbs;have HS2:=am_ (below_size HB.out);clear hbs hb2))
  have h1:1≤5:=by omega
  refine wpIn_rangeFunc_ownH (F:=Fence.wide) rfl h1 (gf:=150) (lb:=#[.pointer (some ⟨Bs,0,none⟩)]) rfl trivial (enters_of Try.func150 (by kernel_rfl) rfl)
    (back_stops w.heap.size Bs cg Ag gs (by have:=HLN.out;omega) (5 - 1) (by omega) w2 BS.out HG.out) keepG_trans (fun W l o o' _ h hc _=>keepG_obj W l o o' h hc) (Below.refl _ _) (fun _=>rfl)
    (fun pre W'=> ∃u,Aside0 (W'.heap[b]?=some (Obj.cells #[.slice Ag gs.length cg, .bool wide,u] 139 (0,0)))∧Aside0 (W'.heap[gb1]?=some (Obj.cells #[.pointer (some ⟨b,0,none⟩)] 136 (0,0)))∧Aside0 (Kd.R k141 141 W' w.heap.size (fun _=>True) (.slice Ag gs.length cg) gs)∧Aside0 (Kd.R k76 76 W' w.heap.size (fun _=>True) u (out++(pre.map (·.2)).flatMap lowerG))∧Aside0 (Below w.heap.size w W'))
    (fun _ _ _=>False)
    (fun s W1 W2 row hs hg hr=>by
      obtain ⟨u,BK,B1,HG,HO,HB⟩:=hs;exact ⟨u,⟨blk_own BK.out hg hr⟩,⟨blk_own B1.out hg hr⟩,⟨R_ownf HG.out hg hr⟩,⟨R_ownf HO.out hg hr⟩,⟨pw_below_grown HB.out row (below_size HB.out) hg (fun k e=>by have:=(hr k e).1;have:=HS2.out;omega)⟩⟩)
    (fun _ _ _ _ _ hs _ _=>hs)
    ⟨vo,BK,B1,HG,⟨by show Kd.R _ _ _ _ _ _ (out++ []);rw [List.append_nil];exact HO.out⟩,HB⟩
    (fun x a' W'=> ∃g,a'={tmps:=#[.pointer (some ⟨b,0,none⟩), .pointer (some ⟨gb1,0,none⟩),undef, .pointer (some ⟨g,0,none⟩), .pointer (some ⟨b,0,none⟩), .pointer (some ⟨b,0,none⟩), .pointer (some ⟨b,0,none⟩), .slice Ag gs.length cg, .func (.func 150) #[] #[.pointer (some ⟨Bs,0,none⟩)], .int .i64 x.1, .agg (goalCells x.2).toArray,undef,undef,undef,undef,undef,undef,undef,undef,undef,undef,undef,undef,undef,undef,undef],defers:=[]}∧W'.heap[g]?=some (Obj.cells (goalCells x.2).toArray 141 (0,0)))
    (fun x a'=>fun _ W1 W2 row hs hg hr=>by
      obtain ⟨g,e,h⟩:=hs;exact ⟨g,e,blk_own h hg hr⟩) ?assign ?body ?done ?stop
  case assign=>
    clear BK B1 HG HO HB BS;rintro l pre x W' K ⟨u,BK,B1,HG,HO,HB⟩ hK;have HK:=Aside0.mk hK;clear hK;unfold encG;refine wpIn_region_lit ?_;simp only [List.zip_toArray,List.zip_cons_cons,List.zip_nil_right,List.zip_nil_left,List.foldl_toArray,List.foldl_toArray',List.foldl_cons,List.foldl_nil,List.setIfInBounds_toArray,List.set_cons_zero,List.set_cons_succ];refine in_alloc rfl (N:=3) rfl 141 rfl (cs:=#[.string ⟨#[]⟩, .string ⟨#[]⟩, .int .i64 0, .int .i64 0, .int .i64 0, .string ⟨#[]⟩, .string ⟨#[]⟩, .int .i64 0, .int .i64 0, .int .i64 0, .int .i64 0, .int .i64 0, .int .i64 0, .int .i64 0, .int .i64 0, .int .i64 0, .int .i64 0, .bool false, .int .i64 0, .int .i64 0, .int .i64 0]) ?hr ?_
    case hr=>first|(go_simp;done)|(go_simp;rfl)
    intro g hg0 w3 hbox hb3;have G0:=Aside0.mk hg0;have G3:=Aside0.mk hbox;have HB3:=Aside0.mk hb3;clear hg0 hbox hb3;refine in_store_all G3.out 141 (.tmp 3) (.tmp 10) rfl rfl rfl (.agg (goalCells x.2).toArray) (goalCells x.2) rfl rfl rfl goalCells_info rfl (goalCells_one x.2) ?_;intro w4 hbk hgr;have FR:=am_ (fresh_box HB3.out G0.out hgr);have HB4:=am_ (below_put (below_step HB.out HB3.out) (below_size (below_step HB.out HB3.out)) hgr (by have:=below_size HB.out;have:=G0.out;omega));have G4:=Aside0.mk hbk;clear hbk hgr;refine wpListIn_nil ?_;exact HK.out _ _ (keepsFrom_of FR.out.1 fun k ob h _=>blk_fresh h FR.out) (fun k cs t h _=>blk_fresh h FR.out) ⟨u,⟨blk_fresh BK.out FR.out⟩,⟨blk_fresh B1.out FR.out⟩,⟨R_fresh HG.out FR.out⟩,⟨R_fresh HO.out FR.out⟩,HB4⟩ ⟨g,rfl,G4.out⟩
  case body=>
    clear BK B1 HG HO HB BS;rintro l pre x a' W' hlD _ ⟨u,BK,B1,HG,HO,HB⟩ ⟨g,rfl,hg3⟩ hlt;obtain ⟨xi,y⟩:=x;have G3:W'.heap[g]?=some (Obj.cells (goalCells y).toArray 141 (0,0)):=hg3;have k18:W'.cell? ⟨g,18,none⟩=some (.int .i64 y.f3.f0):=(blk_cell G3 18).trans rfl;have k19:W'.cell? ⟨g,18+1,none⟩=some (.int .i64 y.f3.f1):=(blk_cell G3 19).trans rfl;have k20:W'.cell? ⟨g,18+2,none⟩=some (.int .i64 y.f3.f2):=(blk_cell G3 20).trans rfl;have k2:W'.cell? ⟨g,2,none⟩=some (.int .i64 y.f0.f2.f0):=(blk_cell G3 2).trans rfl;have k3:W'.cell? ⟨g,2+1,none⟩=some (.int .i64 y.f0.f2.f1):=(blk_cell G3 3).trans rfl;have k4:W'.cell? ⟨g,2+2,none⟩=some (.int .i64 y.f0.f2.f2):=(blk_cell G3 4).trans rfl;have k0:W'.cell? ⟨g,0,none⟩=some (.string y.f0.f0):=(blk_cell G3 0).trans rfl;have cb1:W'.cell? ⟨gb1,0,none⟩=some (.pointer (some ⟨b,0,none⟩)):=(blk_cell B1.out 0).trans rfl;have HLP:=Aside0.mk hlt;clear G3 hg3 hlt hlD
    cases hne:neG y.f3 y.f0.f2 with
    | false =>
      have he:eqV y.f3.f0 y.f3.f1 y.f3.f2 y.f0.f2.f0 y.f0.f2.f1 y.f0.f2.f2=true:=by rw [neG_eqV] at hne;simpa using hne
      have HRS:Aside0 (lowerG y=[]):=⟨by unfold lowerG;rw [if_neg (by rw [hne];simp)]⟩;clear hne
      gi_wp2
      exact ⟨keepsFrom_of (Nat.le_refl _) fun k ob h _=>h,fun k cs t h _=>h,u,BK,B1,HG,⟨by rw [List.map_append,List.map_cons,List.map_nil,flat_snoc,HRS.out,List.append_nil];exact HO.out⟩,HB⟩
    | true =>
      have he:eqV y.f3.f0 y.f3.f1 y.f3.f2 y.f0.f2.f0 y.f0.f2.f1 y.f0.f2.f2=false:=by rw [neG_eqV] at hne;simpa using hne
      have HRS:Aside0 (lowerG y=[⟨2,y.f0.f0,⟨#[]⟩,y.f0.f2⟩]):=⟨by unfold lowerG;rw [if_pos hne]⟩;clear hne
      gi_wp2_with (refine ⟨trivial, ?_⟩;gi_at_call 126;refine (CallsIn.inRound l (callsIn_wide.2 (planPut_calls w _ b _ _ _ _ (⟨2,y.f0.f0,⟨#[]⟩,y.f0.f2⟩:S76) BK.out GE.out HB.out HO.out (by rw [List.length_append];have:=HLN.out;have:=lowerG_len (pre.map (·.2));have:=HLP.out;rw [List.length_map] at*;omega)))).mono ?_;rintro e w6 ⟨rfl,vo',hbk,ho,hb,hk⟩;have KF:=am_ (keepS_from (B:=w2.heap.size) BK.out hk);have KG:=am_ (keepS_goal BK.out hk);have B16:=am_ (hk.1 _ _ B1.out (fun e=>by have h1:=BK.out;rw [←e,B1.out] at h1;cases h1) (fun cs e=>by cases e));have HG6:=am_ (R_keepG HG.out KG.out);have BK6:=Aside0.mk hbk;have HO6:=Aside0.mk ho;have HB6:=Aside0.mk hb;clear hbk ho hb hk)
      exact ⟨KF.out,KG.out,vo',BK6,B16,HG6,⟨by rw [List.map_append,List.map_cons,List.map_nil,flat_snoc,HRS.out,←List.append_assoc];exact HO6.out⟩,HB6⟩
  case done=>
    clear BK B1 HG HO HB BS;rintro D xs W' hD rfl ⟨u,BK,B1,HG,HO,HB⟩ hK
    gi_wp2
    refine ⟨by simp, .inl ⟨_,_,rfl,run_takeDeferred hK, ?_⟩⟩;have hgr:=grownBy_putObj' W' D (.deferred none)
    have hr: ∀r,some D=some r→w2.heap.size≤r∧ ∃o:Obj,W'.heap[r]?=some o∧o.isCells=false:=fun r e=>by
      cases e;exact ⟨hD,_,hK,rfl⟩
    refine ⟨_,results_none rfl _ _ _,rfl,u,blk_own BK.out hgr hr,R_ownf HG.out hgr hr, ?_,pw_below_grown HB.out (some D) (below_size HB.out) hgr (fun k e=>by have:=(hr k e).1;have:=HS2.out;omega)⟩;have q:=R_ownf HO.out hgr hr;rw [backTo_all] at q;exact q
  case stop=>
    rintro D c pre W _ _ h _;exact h.elim
end Go.Proofs.Ytahidkjncljkaaa.Print
