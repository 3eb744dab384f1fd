/- ApplyEnds: a part -/
import Derived.WalkSpells
import Derived.Shelf.Abstract
import Derived.Laws.Cover1
import Derived.Lib.SliceRun
import Derived.Lib.JoinLaws
import Derived.Lib.AppendZerosOnto
import Derived.Lib.Overlaps
import Derived.Laws.Externs
import Derived.Laws.IdiomCopy
import Derived.Laws.NewBlocks
import Derived.Deep.RegionLaw
import Derived.Shelf.RegionOpenPlain
import Derived.StillTailTactics
import Derived.Test.YtahidkjncljkaaaBApplyEnds0
import Derived.Test.YtahidkjncljkaaaBApplyEnds1
set_option linter.unusedVariables false
set_option linter.unusedSimpArgs false
namespace Go.Proofs.Ytahidkjncljkaaa.Print
open Go.RowKit Go.Proofs.YtahidkjncljkaaaW.PrintWords Go.Proofs.YtahidkjncljkaaaW.PrintLast Go.Proofs.YtahidkjncljkaaaW.PrintMore
attribute [local go_sem] max2_int min2_int max_two min_two max_three min_three max_four min_four

attribute [local go_sem high] eqA37
mutual
def r16_Steps.l0:Nat→List (S39)→List (S84)→List (S79)→List (S39)→Bool→Int→Option ((List (S76))×Int)
 |0,_,_,_,_,_,_=>none
 |k+1,x0,x1,x2,x8,x9,x10=>if x10<(x8.length:Int) then (if 0≤x10 then ((r10_Find.f k x2 ((rd_T39 x8 x10).f0)).bind fun t7=>(if t7≥0 then ((r16_marked.f k x1 ((rd_T39 x8 x10).f0)).bind fun t9=>(if t9<0 then (some (([]:List (S76)),3)) else (if x9=true then (r16_Steps.l0 k x0 x1 x2 x8 true (wrap64 (x10+1))) else (if 0≤t7 then (if t7<(x2.length:Int) then (r16_Steps.l0 k x0 x1 x2 x8 (((rd_T79 x2 t7).f1).toList !=((rd_T39 x8 x10).f1).toList) (wrap64 (x10+1))) else (none)) else (none))))) else (if x9=true then (r16_Steps.l0 k x0 x1 x2 x8 true (wrap64 (x10+1))) else (r16_Steps.l0 k x0 x1 x2 x8 false (wrap64 (x10+1)))))) else (none)) else (r16_Steps.l1 k x0 x1 x2 x8 x9 ([]:List (S76)) 0)
def r16_Steps.l1:Nat→List (S39)→List (S84)→List (S79)→List (S39)→Bool→List (S76)→Int→Option ((List (S76))×Int)
 |0,_,_,_,_,_,_,_=>none
 |k+1,x0,x1,x2,x8,x9,x12,x13=>if x13<(x8.length:Int) then (if 0≤x13 then ((r10_Find.f k x2 ((rd_T39 x8 x13).f0)).bind fun t14=>((r16_up.f k ((rd_T39 x8 x13).f0) ((rd_T39 x8 x13).f1) ((rd_T39 x8 x13).f2.f0) ((rd_T39 x8 x13).f2.f1) ((rd_T39 x8 x13).f2.f2) x2 x9).bind fun bt15=>(if t14<0 then (if x12.length<2199023255552 then (r16_Steps.l1 k x0 x1 x2 x8 x9 (x12++ [(⟨1,(rd_T39 x8 x13).f0,(rd_T39 x8 x13).f1,(⟨bt15.1,bt15.2.1,bt15.2.2⟩:S37)⟩:S76)]) (wrap64 (x13+1))) else (none)) else (if 0≤t14 then (if t14<(x2.length:Int) then (if (!(((rd_T79 x2 t14).f2.f0)==bt15.1)||(!(((rd_T79 x2 t14).f2.f1)==bt15.2.1)||(!(((rd_T79 x2 t14).f2.f2)==bt15.2.2))))=true then (if x12.length<2199023255552 then (r16_Steps.l1 k x0 x1 x2 x8 x9 (x12++ [(⟨2,(rd_T39 x8 x13).f0,(⟨#[]⟩:ByteArray),(⟨bt15.1,bt15.2.1,bt15.2.2⟩:S37)⟩:S76)]) (wrap64 (x13+1))) else (none)) else (r16_Steps.l1 k x0 x1 x2 x8 x9 x12 (wrap64 (x13+1)))) else (none)) else (none))))) else (none)) else (r16_Steps.l2 k x0 x1 x2 x8 x9 x12 0)
def r16_Steps.l2:Nat→List (S39)→List (S84)→List (S79)→List (S39)→Bool→List (S76)→Int→Option ((List (S76))×Int)
 |0,_,_,_,_,_,_,_=>none
 |k+1,x0,x1,x2,x8,x9,x12,x17=>if x17<(x8.length:Int) then (if 0≤x17 then ((r10_Find.f k x2 ((rd_T39 x8 x17).f0)).bind fun t27=>(if t27≥0 then (if 0≤t27 then (if t27<(x2.length:Int) then (if ((rd_T79 x2 t27).f1).toList=((rd_T39 x8 x17).f1).toList then (r16_Steps.l2 k x0 x1 x2 x8 x9 x12 (wrap64 (x17+1))) else (if x12.length<2199023255552 then (r16_Steps.l2 k x0 x1 x2 x8 x9 (x12++ [(⟨3,(rd_T39 x8 x17).f0,(rd_T39 x8 x17).f1,(⟨0,0,0⟩:S37)⟩:S76)]) (wrap64 (x17+1))) else (none))) else (none)) else (none)) else (r16_Steps.l2 k x0 x1 x2 x8 x9 x12 (wrap64 (x17+1))))) else (none)) else (r16_Steps.l3 k x0 x1 x2 x8 x9 x12 (wrap64 ((x8.length:Int) - 1)))
def r16_Steps.l3:Nat→List (S39)→List (S84)→List (S79)→List (S39)→Bool→List (S76)→Int→Option ((List (S76))×Int)
 |0,_,_,_,_,_,_,_=>none
 |k+1,x0,x1,x2,x8,x9,x12,x19=>if x19≥0 then (if 0≤x19 then (if x19<(x8.length:Int) then ((r16_up.f k ((rd_T39 x8 x19).f0) ((rd_T39 x8 x19).f1) ((rd_T39 x8 x19).f2.f0) ((rd_T39 x8 x19).f2.f1) ((rd_T39 x8 x19).f2.f2) x2 x9).bind fun bt36=>(if (!(bt36.1==((rd_T39 x8 x19).f2.f0))||(!(bt36.2.1==((rd_T39 x8 x19).f2.f1))||(!(bt36.2.2==((rd_T39 x8 x19).f2.f2)))))=true then (if x12.length<2199023255552 then (r16_Steps.l3 k x0 x1 x2 x8 x9 (x12++ [(⟨2,(rd_T39 x8 x19).f0,(⟨#[]⟩:ByteArray),(⟨(rd_T39 x8 x19).f2.f0,(rd_T39 x8 x19).f2.f1,(rd_T39 x8 x19).f2.f2⟩:S37)⟩:S76)]) (wrap64 (x19 - 1))) else (none)) else (r16_Steps.l3 k x0 x1 x2 x8 x9 x12 (wrap64 (x19 - 1))))) else (none)) else (none)) else ((r16_goes.f k x0 x1 x2).bind fun t45=>(r16_Steps.l4 k x12 t45 0))
def r16_Steps.l4:Nat→List (S76)→List ByteArray→Int→Option ((List (S76))×Int)
 |0,_,_,_=>none
 |k+1,x12,x20,x21=>if x21<(x20.length:Int) then (if 0≤x21 then (if x12.length<2199023255552 then (r16_Steps.l4 k (x12++ [(⟨4,rdOf ByteArray.empty x20 x21,(⟨#[]⟩:ByteArray),(⟨0,0,0⟩:S37)⟩:S76)]) x20 (wrap64 (x21+1))) else (none)) else (none)) else (some (x12,0))
end
def r16_Steps.f (k:Nat) (l0:List (S39)) (l1:List (S84)) (l2:List (S79)):Option ((List (S76))×Int):=(r10_Check.f k l0).bind fun t2=>(if t2=0 then ((r10_Top.f k l0).bind fun t3=>(r16_Steps.l0 k l0 l1 l2 t3 false 0)) else (some (([]:List (S76)),t2)))
theorem r16_Steps.mono_l: ∀k,(∀y0 y1 y2 y3 y4 y5,LeO (r16_Steps.l0 k y0 y1 y2 y3 y4 y5) (r16_Steps.l0 (k+1) y0 y1 y2 y3 y4 y5))∧(∀y0 y1 y2 y3 y4 y5 y6,LeO (r16_Steps.l1 k y0 y1 y2 y3 y4 y5 y6) (r16_Steps.l1 (k+1) y0 y1 y2 y3 y4 y5 y6))∧(∀y0 y1 y2 y3 y4 y5 y6,LeO (r16_Steps.l2 k y0 y1 y2 y3 y4 y5 y6) (r16_Steps.l2 (k+1) y0 y1 y2 y3 y4 y5 y6))∧(∀y0 y1 y2 y3 y4 y5 y6,LeO (r16_Steps.l3 k y0 y1 y2 y3 y4 y5 y6) (r16_Steps.l3 (k+1) y0 y1 y2 y3 y4 y5 y6))∧(∀y0 y1 y2,LeO (r16_Steps.l4 k y0 y1 y2) (r16_Steps.l4 (k+1) y0 y1 y2))
 |0=>⟨fun _ _ _ _ _ _ r h=>by simp [r16_Steps.l0] at h,fun _ _ _ _ _ _ _ r h=>by simp [r16_Steps.l1] at h,fun _ _ _ _ _ _ _ r h=>by simp [r16_Steps.l2] at h,fun _ _ _ _ _ _ _ r h=>by simp [r16_Steps.l3] at h,fun _ _ _ r h=>by simp [r16_Steps.l4] at h⟩
 |k+1=>by
  obtain ⟨ih0,ih1,ih2,ih3,ih4⟩:=r16_Steps.mono_l k;refine ⟨?_, ?_, ?_, ?_, ?_⟩<;>(intros;first|unfold r16_Steps.l0|unfold r16_Steps.l1|unfold r16_Steps.l2|unfold r16_Steps.l3|unfold r16_Steps.l4)<;>repeat' with_reducible first|apply ih0|apply ih1|apply ih2|apply ih3|apply ih4|apply r10_Check.mono|apply r10_Find.mono|apply r10_Top.mono|apply r16_goes.mono|apply r16_marked.mono|apply r16_up.mono|apply LeO.refl|apply LeO.none|apply LeO.ite|refine LeO.bind ?_ fun _=> ?_
theorem r16_Steps.mono: ∀a0 a1 a2 k,LeO (r16_Steps.f k a0 a1 a2) (r16_Steps.f (k+1) a0 a1 a2):=by
 intro a0 a1 a2 k;obtain ⟨ih0,ih1,ih2,ih3,ih4⟩:=r16_Steps.mono_l k;unfold r16_Steps.f
 repeat' with_reducible first|apply ih0|apply ih1|apply ih2|apply ih3|apply ih4|apply r10_Check.mono|apply r10_Find.mono|apply r10_Top.mono|apply r16_goes.mono|apply r16_marked.mono|apply r16_up.mono|apply LeO.refl|apply LeO.none|apply LeO.ite|refine LeO.bind ?_ fun _=> ?_
def r16_Steps.T12:Bool×List (List Nat×List Nat):=(true,[([],[]),([0],[0]),([1],[1]),([2,1],[1,2]),([3,1,1],[1,3]),([4],[4]),([4],[4]),([5,6,4],[4,5,6]),([7,4],[4,7]),([8,4],[4,8]),([4],[4]),([4],[4]),([10,11,4],[4,10,11]),([12,4],[4,12]),([13,4],[4,13]),([9,14,4],[4,9,14]),([4,15,1],[1,4,15]),([1,16],[1,16]),([17,4,0,1,2,3,4,5,6,7,8,9,10,11,12,13,14,15,16,17],[0,17])])
def r16_Steps.B12:List Nat:=[0,1,3,7,15,31,31,127,255,511,31,31,3103,7199,15391,32767,65535,131071,262143]
theorem r16_Steps.tab12:rtab .any (opsOf Try.f39 12)=r16_Steps.T12:=by kernel_rfl
theorem r16_Steps.bits12:waitsOk r16_Steps.T12.2 r16_Steps.B12=true:=by kernel_rfl
def r16_Steps.T28:Bool×List (List Nat×List Nat):=(true,[([],[]),([0],[0]),([1],[1]),([2],[2]),([2],[2]),([3,4,2],[2,3,4]),([5,2],[2,5]),([6,2],[2,6]),([2],[2]),([2],[2]),([8,9,2],[2,8,9]),([10,2],[2,10]),([11,2],[2,11]),([7,12,2],[2,7,12]),([2,13],[2,13])])
def r16_Steps.B28:List Nat:=[0,1,3,7,7,31,63,127,7,7,775,1799,3847,8191,16383]
theorem r16_Steps.tab28:rtab .any (opsOf Try.f39 28)=r16_Steps.T28:=by kernel_rfl
theorem r16_Steps.bits28:waitsOk r16_Steps.T28.2 r16_Steps.B28=true:=by kernel_rfl
def r16_Steps.T29:Bool×List (List Nat×List Nat):=(true,[([],[]),([],[]),([],[]),([1,2],[1,2]),([3],[3]),([4],[4]),([],[]),([],[]),([6,7],[6,7]),([8],[8]),([9],[9]),([5,10],[5,10]),([11],[11]),([0,12],[0,12]),([13,13,0,1,2,3,4,5,6,7,8,9,10,11,12,13],[0,13])])
def r16_Steps.B29:List Nat:=[0,0,0,6,14,30,0,0,192,448,960,2046,4094,8191,16383]
theorem r16_Steps.tab29:rtab .any (opsOf Try.f39 29)=r16_Steps.T29:=by kernel_rfl
theorem r16_Steps.bits29:waitsOk r16_Steps.T29.2 r16_Steps.B29=true:=by kernel_rfl
def r16_Steps.T33:Bool×List (List Nat×List Nat):=(true,[([],[]),([],[]),([0,1],[0,1]),([2],[2]),([],[]),([],[]),([3,4,5],[3,4,5]),([],[]),([],[]),([7,8],[7,8]),([9],[9]),([10],[10]),([6,11],[6,11])])
def r16_Steps.B33:List Nat:=[0,0,3,7,0,0,63,0,0,384,896,1920,4095]
theorem r16_Steps.tab33:rtab .any (opsOf Try.f39 33)=r16_Steps.T33:=by kernel_rfl
theorem r16_Steps.bits33:waitsOk r16_Steps.T33.2 r16_Steps.B33=true:=by kernel_rfl
def r16_Steps.T34:Bool×List (List Nat×List Nat):=(true,[([],[]),([],[]),([],[]),([1,2],[1,2]),([3],[3]),([4],[4]),([],[]),([],[]),([6,7],[6,7]),([8],[8]),([9],[9]),([5,10],[5,10]),([11],[11]),([0,12],[0,12]),([13,13,0,1,2,3,4,5,6,7,8,9,10,11,12,13],[0,13])])
def r16_Steps.B34:List Nat:=[0,0,0,6,14,30,0,0,192,448,960,2046,4094,8191,16383]
theorem r16_Steps.tab34:rtab .any (opsOf Try.f39 34)=r16_Steps.T34:=by kernel_rfl
theorem r16_Steps.bits34:waitsOk r16_Steps.T34.2 r16_Steps.B34=true:=by kernel_rfl
set_option maxHeartbeats 8000000 in
set_option maxRecDepth 100000 in
theorem r16_Steps.calls (k:Nat) (A0:Option Addr) (c0:Nat) (l0:List (S39)) (A1:Option Addr) (c1:Nat) (l1:List (S84)) (A2:Option Addr) (c2:Nat) (l2:List (S79)) (r1:List (S76)) (r2:Int) (w:World) (hr0:Kd.C k39 w A0 l0.length l0) (hc0:l0.length≤c0) (hr1:Kd.C k84 w A1 l1.length l1) (hc1:l1.length≤c1) (hr2:Kd.C k79 w A2 l2.length l2) (hc2:l2.length≤c2) (h:r16_Steps.f k l0 l1 l2=some (r1,r2)):
  Calls Try.prog 39 #[.slice A0 l0.length c0, .slice A1 l1.length c1, .slice A2 l2.length c2] w fun e w'=> ∃v0_:Value,e= .returned (.agg #[v0_, .int .i64 r2])∧Kd.R k76 76 w' w.heap.size (fun _=>True) v0_ r1∧Below w.heap.size w w':=by
 have hu51:=Try.underlying51;have hu39:=Try.underlying39;have hu37:=Try.underlying37;have hu76:=Try.underlying76;have HR0:=Aside0.mk hr0;have HC0:=Aside0.mk hc0;clear hr0 hc0;have HR1:=Aside0.mk hr1;have HC1:=Aside0.mk hc1;clear hr1 hc1;have HR2:=Aside0.mk hr2;have HC2:=Aside0.mk hc2;clear hr2 hc2;have HB:=am_ (Below.refl w.heap.size w);have H:((r10_Check.f k l0).bind fun t2=>(if t2=0 then ((r10_Top.f k l0).bind fun t3=>(r16_Steps.l0 k l0 l1 l2 t3 false 0)) else (some (([]:List (S76)),t2))))=some (r1,r2):=h;clear h;replace H:=zbd_ H;obtain ⟨t2,A4,H⟩:=H;try dsimp only at H
 by_cases c5:t2=0;rw [if_pos c5] at H;have c5b0:=beq_iff_eq.mpr c5;have c5b1:=bne_eq_false_iff_eq.mpr c5;clear c5;replace H:=zbd_ H;obtain ⟨t3,A6,H⟩:=H;try dsimp only at H
 have H':=Aside0.mk H;clear H;rotate_left;rw [if_neg c5] at H;have c5b0:=beq_eq_false_iff_ne.mpr c5;have c5b1:=bne_iff_ne.mpr c5;simp only [Option.some.injEq,Prod.mk.injEq] at H;obtain ⟨rfl,rfl⟩:=H;rotate_left
 all_goals (
 go_enter Try.func39,Try.ntmps39;go_wp2_with (first|((with_reducible refine gate_dst (N:=6) rfl ?_);refine bx_ (N:=6) (cs:=#[.slice none 0 0, .int .i64 0]) (t:=51) ?_;intro gb1 hg w7 hbox hb;have BK1:=am_ (hbox);have GE1:=am_ ((zg0_ HB hg:w.heap.size≤gb1));replace HB:=am_ (below_step (zl0_ HB) hb);clear hb hbox hg)|((with_reducible refine gate_callee (f:=24) rfl ?_);refine gl_ (some 23) Try.func24 #[.slice A0 l0.length c0] ?_;(with_reducible refine (r10_Check.calls k _ _ l0 t2 _ ?side1 ?side2 A4.out).mono ?_);(case side1=>exact zc_ (Kd.C_below HR0.out HB.out));(case side2=>exact HC0.out);rintro e w8 ⟨rfl,hb⟩;refine ⟨_,rfl, ?_⟩;replace BK1:=bb_ BK1 hb;replace HB:=am_ (below_step (zl1_ HB GE1) hb);(try clear hb);(try (obtain ⟨_,_⟩:=x2_ BK1;obtain ⟨_,_⟩:=ff2_ BK1)))|((with_reducible refine gate_callee (f:=31) rfl ?_);refine gl_ (some 29) Try.func31 #[.slice A0 l0.length c0] ?_;(with_reducible refine (r10_Top.calls k _ _ l0 t3 _ ?side1 ?side2 A6.out).mono ?_);(case side1=>exact zc_ (Kd.C_below HR0.out HB.out));(case side2=>exact HC0.out);rintro e w9 ⟨v4,rfl,ho0,hb⟩;refine ⟨_,rfl, ?_⟩;have HO5:=am_ (Kd.R_lower ho0 (below_size (zl1_ HB GE1)));replace BK1:=bb_ BK1 hb;replace HB:=am_ (below_step (zl1_ HB GE1) hb);(try clear hb ho0))))
 ·go_loopg [9,10] k (fun kq v9 v10 w'=> ∃(x9_1:Bool) (x10_1:Int) (x2001_1:Int),v9= .bool x9_1∧v10= .int .i64 x10_1∧Aside0 (r16_Steps.l0 kq l0 l1 l2 t3 x9_1 x10_1=some (r1,r2))∧Aside0 (kq≤k)∧Aside0 (Kd.R k39 39 w' w.heap.size (fun _=>True) v4 t3)∧Aside0 (w'.heap[gb1]?=some (.cells #[(.slice none 0 0), .int .i64 x2001_1] 51 (0,0)))∧Aside0 (Below w.heap.size w w'))
  case atStart=>exact ⟨(false),(0),(0),rf_,rf_,H',⟨Nat.le_refl _⟩,am_ (zr_ HO5),am_ (zb_ BK1),⟨zl1_ HB GE1⟩⟩
  case round=>
   clear H';obtain ⟨x9_1,x10_1,x2001_1,rfl,rfl,HA,HK1,HO_8,BK1,HB⟩:=hrel
   cases gk with
   |zero=>exact absurd HA.out (by simp [r16_Steps.l0])
   |succ k1=>
    have H:=HA.out;clear HA;simp only [r16_Steps.l0] at H;by_cases c10:x10_1<(t3.length:Int)
    ·rw [if_pos c10] at H;have c10b0:=decide_eq_true c10;clear c10;replace H:=zif_ H;obtain ⟨c11,H⟩:=H;replace c11:=decide_eq_true c11;replace H:=zbd_ H;obtain ⟨t7,A12,H⟩:=H;try dsimp only at H
     by_cases c13:t7≥0;rotate_left
     ·rw [if_neg c13] at H;have c13b0:decide (0≤t7)=false:=decide_eq_false c13;clear c13;by_cases c25:x9_1=true;subst c25;rw [if_pos rfl] at H;have H':=Aside0.mk H;clear H;obtain ⟨Ao26,co26,eo26⟩:=Kd.R_slice HO_8.out;subst eo26;obtain ⟨p6,q6,ad6,e6,hx6_0,hx6_1,hx6_2,hx6_3,hx6_4⟩:=zat_ (at_T39 (Kd.R_reads' HO_8.out).2.2 x10_1);cases e6;rotate_left;replace c25:=Bool.eq_false_iff.mpr c25;subst c25;rw [if_neg (show¬(false=true) by decide)] at H;have H':=Aside0.mk H;clear H;obtain ⟨Ao28,co26,eo28⟩:=Kd.R_slice HO_8.out;subst eo28;obtain ⟨p6,q6,ad6,e6,hx6_0,hx6_1,hx6_2,hx6_3,hx6_4⟩:=zat_ (at_T39 (Kd.R_reads' HO_8.out).2.2 x10_1);cases e6;rotate_left
      all_goals (
      try go_wp2_with (first|((with_reducible refine gate_callee (f:=52) rfl ?_);refine gl_ (some 42) Try.func52 #[.slice A2 l2.length c2, .string ((rd_T39 t3 x10_1).f0)] ?_;(with_reducible refine (r10_Find.calls k1 _ _ l2 ((rd_T39 t3 x10_1).f0) t7 _ ?side1 ?side2 A12.out).mono ?_);(case side1=>exact zc_ (Kd.C_below HR2.out HB.out));(case side2=>exact HC2.out);rintro e w' ⟨rfl,⟨nd,rfl⟩⟩;refine ⟨_,rfl, ?_⟩))
      (try (rw [drewN_self wr];generalize hq_:World.drewN wr _=wr;replace HO_8:=am_ (qr_ hq_ HO_8.out);replace BK1:=am_ (qb_ hq_ BK1.out);replace HB:=am_ (ql_ hq_ HB.out);clear hq_));replace HO_8:=am_ (Kd.R_drew HO_8.out);replace BK1:=am_ (blk_drew BK1.out);replace HB:=am_ (below_drew1 HB.out);refine start_ (n:=19) (S:=fun w'=>True) (ds:=[]) (bs_ 19 0) (by kernel_rfl) rfl rfl trivial (fun hHeld=> ?_);refine with_tabW r16_Steps.tab12 r16_Steps.bits12 (fun HT_ HW_=> ?_);generalize wr.drew=w27 at HO_8 BK1 HB hHeld ⊢;refine qu_ HT_ ?_;refine pu_ (i:=1) (N:=some 57) (bs_ 19 2) HT_ ?_)
      ·refine pn_ (i:=2) (N:=some 58) (bs_ 19 3) HT_ ?_;(iterate 14 refine qn_ HT_ ?_);(iterate 2 refine qu_ HT_ ?_);refine done_ (done_of HT_.out (by kernel_rfl)) ?_;try go_wp2
       go_roundg k1
       case measure=>have:=HK1.out;omega
       case rel=>exact ⟨(true),(wrap64 (x10_1+1)),(x2001_1),rf_,rf_,H',⟨by have:=HK1.out;omega⟩,am_ (zr_ HO_8),am_ (zb_ BK1),⟨zl1_ HB GE1⟩⟩
      ·refine pu_ (i:=2) (N:=some 58) (bs_ 19 3) HT_ ?_;(iterate 16 first|refine qn_ HT_ ?_|refine qu_ HT_ ?_);refine done_ (done_of HT_.out (by kernel_rfl)) ?_;try go_wp2
       go_roundg k1
       case measure=>have:=HK1.out;omega
       case rel=>exact ⟨(false),(wrap64 (x10_1+1)),(x2001_1),rf_,rf_,H',⟨by have:=HK1.out;omega⟩,am_ (zr_ HO_8),am_ (zb_ BK1),⟨zl1_ HB GE1⟩⟩
     rw [if_pos c13] at H;have c13b0:decide (0≤t7)=true:=decide_eq_true c13;clear c13;replace H:=zbd_ H;obtain ⟨t9,A14,H⟩:=H;try dsimp only at H
     by_cases c15:t9<0
     ·rw [if_pos c15] at H;have c15b0:=decide_eq_true c15;clear c15;simp only [Option.some.injEq,Prod.mk.injEq] at H;obtain ⟨rfl,rfl⟩:=H;obtain ⟨Ao16,co16,eo16⟩:=Kd.R_slice HO_8.out;subst eo16;obtain ⟨p6,q6,ad6,e6,hx6_0,hx6_1,hx6_2,hx6_3,hx6_4⟩:=zat_ (at_T39 (Kd.R_reads' HO_8.out).2.2 x10_1);cases e6
      go_wp2_with (first|((with_reducible refine gate_callee (f:=52) rfl ?_);refine gl_ (some 42) Try.func52 #[.slice A2 l2.length c2, .string ((rd_T39 t3 x10_1).f0)] ?_;(with_reducible refine (r10_Find.calls k1 _ _ l2 ((rd_T39 t3 x10_1).f0) t7 _ ?side1 ?side2 A12.out).mono ?_);(case side1=>exact zc_ (Kd.C_below HR2.out HB.out));(case side2=>exact HC2.out);rintro e w' ⟨rfl,⟨nd,rfl⟩⟩;refine ⟨_,rfl, ?_⟩;(try (rw [drewN_self wr];generalize hq_:World.drewN wr _=wr;replace HO_8:=am_ (qr_ hq_ HO_8.out);replace BK1:=am_ (qb_ hq_ BK1.out);replace HB:=am_ (ql_ hq_ HB.out);clear hq_));have p8:0≤(x10_1:Int):=of_decide_eq_true zq_;have q8:x10_1<(t3.length:Int):=of_decide_eq_true zq_;obtain ⟨ad8,e8,hx8_0,hx8_1,hx8_2,hx8_3,hx8_4⟩:=at_T39 (Kd.R_reads' HO_8.out).2.2 x10_1 p8 q8;obtain rfl:ad6=ad8:=(by injection e8);replace p8:=eq_true p8;replace q8:=eq_true q8)|(go_at_call 85;(with_reducible refine (r16_marked.calls k1 _ _ l1 ((rd_T39 t3 x10_1).f0) t9 _ ?side1 ?side2 A14.out).mono ?_);(case side1=>exact zc_ (Kd.C_below HR1.out HB.out));(case side2=>exact HC1.out);rintro e w' ⟨rfl,⟨nd,rfl⟩⟩;(try (rw [drewN_self wr];generalize hq_:World.drewN wr _=wr;replace HO_8:=am_ (qr_ hq_ HO_8.out);replace BK1:=am_ (qb_ hq_ BK1.out);replace HB:=am_ (ql_ hq_ HB.out);clear hq_));obtain ⟨_,_⟩:=x2_ BK1;obtain ⟨_,_⟩:=ff2_ BK1))
      refine bodyPost_ret (results_cell_row rfl _ _ gb1 51 #[.slice none 0 0, .int .i64 3] (0,0) _ rfl (zw_ BK1) Try.underlying51 rfl (by kernel_rfl)) rfl ?_;exact ⟨_,er_,by first|exact Kd.R_nil _ _ _ _ _|exact Kd.N_nil _ _ _ _ _|exact Kd.V_nil _ _ _ _ _|exact Kd.Q_nil _ _ _ _ _|exact Kd.S_nil _ _ _ _ _,zl1_ HB GE1⟩
     rw [if_neg c15] at H;have c15b0:=decide_eq_false c15;clear c15;by_cases c18:x9_1=true;subst c18;rw [if_pos rfl] at H;have H':=Aside0.mk H;clear H;obtain ⟨Ao19,co19,eo19⟩:=Kd.R_slice HO_8.out;subst eo19;obtain ⟨p6,q6,ad6,e6,hx6_0,hx6_1,hx6_2,hx6_3,hx6_4⟩:=zat_ (at_T39 (Kd.R_reads' HO_8.out).2.2 x10_1);cases e6;rotate_left;replace c18:=Bool.eq_false_iff.mpr c18;subst c18;rw [if_neg (show¬(false=true) by decide)] at H;replace H:=zif_ H;obtain ⟨c21,H⟩:=H;replace c21:=decide_eq_true c21;replace H:=zif_ H;obtain ⟨c22,H⟩:=H;replace c22:=decide_eq_true c22;have H':=Aside0.mk H;clear H;obtain ⟨Ao23,co19,eo23⟩:=Kd.R_slice HO_8.out;subst eo23;obtain ⟨p6,q6,ad6,e6,hx6_0,hx6_1,hx6_2,hx6_3,hx6_4⟩:=zat_ (at_T39 (Kd.R_reads' HO_8.out).2.2 x10_1);cases e6;rotate_left
     all_goals (
     try go_wp2_with (first|((with_reducible refine gate_callee (f:=52) rfl ?_);refine gl_ (some 42) Try.func52 #[.slice A2 l2.length c2, .string ((rd_T39 t3 x10_1).f0)] ?_;(with_reducible refine (r10_Find.calls k1 _ _ l2 ((rd_T39 t3 x10_1).f0) t7 _ ?side1 ?side2 A12.out).mono ?_);(case side1=>exact zc_ (Kd.C_below HR2.out HB.out));(case side2=>exact HC2.out);rintro e w' ⟨rfl,⟨nd,rfl⟩⟩;refine ⟨_,rfl, ?_⟩;have p8:0≤(x10_1:Int):=of_decide_eq_true zq_;have q8:x10_1<(t3.length:Int):=of_decide_eq_true zq_;obtain ⟨ad8,e8,hx8_0,hx8_1,hx8_2,hx8_3,hx8_4⟩:=at_T39 (Kd.R_reads' HO_8.out).2.2 x10_1 p8 q8;obtain rfl:ad6=ad8:=(by injection e8);replace p8:=eq_true p8;replace q8:=eq_true q8)|(go_at_call 85;(with_reducible refine (r16_marked.calls k1 _ _ l1 ((rd_T39 t3 x10_1).f0) t9 _ ?side1 ?side2 A14.out).mono ?_);(case side1=>repeat (first|exact (Kd.C_below HR1.out (zl1_ HB GE1))|(with_reducible refine Kd.C_alloc ?_ _)|(with_reducible refine Kd.C_drewN ?_ _)|(with_reducible refine Kd.C_drew ?_)));(case side2=>exact HC1.out);rintro e w' ⟨rfl,⟨nd,rfl⟩⟩))
     (try (rw [drewN_self wr];generalize hq_:World.drewN wr _=wr;replace HO_8:=am_ (qr_ hq_ HO_8.out);replace BK1:=am_ (qb_ hq_ BK1.out);replace HB:=am_ (ql_ hq_ HB.out);clear hq_));replace HO_8:=am_ (Kd.R_drew HO_8.out);replace BK1:=am_ (blk_drew BK1.out);replace HB:=am_ (below_drew1 HB.out))
     ·refine start_ (n:=19) (S:=fun w'=>True) (ds:=[]) (bs_ 19 0) (by kernel_rfl) rfl rfl trivial (fun hHeld=> ?_);refine with_tabW r16_Steps.tab12 r16_Steps.bits12 (fun HT_ HW_=> ?_);generalize wr.drew=w20 at HO_8 BK1 HB hHeld ⊢;(iterate 19 first|refine qn_ HT_ ?_|refine qu_ HT_ ?_);refine done_ (done_of HT_.out (by kernel_rfl)) ?_;try go_wp2
      go_roundg k1
      case measure=>have:=HK1.out;omega
      case rel=>exact ⟨(true),(wrap64 (x10_1+1)),(x2001_1),rf_,rf_,H',⟨by have:=HK1.out;omega⟩,am_ (zr_ HO_8),am_ (zb_ BK1),⟨zl1_ HB GE1⟩⟩
     ·have p10:0≤(t7:Int):=of_decide_eq_true zq_;have q10:t7<(l2.length:Int):=of_decide_eq_true zq_;obtain ⟨ad10,e10,hx10_0,hx10_1,hx10_2,hx10_3,hx10_4,hx10_5,hx10_6,hx10_7,hx10_8,hx10_9,hx10_10,hx10_11⟩:=at_T79 HR2.out t7 p10 q10;have hw10_1:=hx10_1;cases e10;replace hx10_0:=zx12_ HB hx10_0 hx10_1 hx10_2 hx10_3 hx10_4 hx10_5 hx10_6 hx10_7 hx10_8 hx10_9 hx10_10 hx10_11;clear hx10_1 hx10_2 hx10_3 hx10_4 hx10_5 hx10_6 hx10_7 hx10_8 hx10_9 hx10_10 hx10_11;obtain ⟨hx10_0,hx10_1,hx10_2,hx10_3,hx10_4,hx10_5,hx10_6,hx10_7,hx10_8,hx10_9,hx10_10,hx10_11⟩:=hx10_0;replace p10:=eq_true p10;replace q10:=eq_true q10;obtain ⟨p11,q11,ad11,e11,hx11_0,hx11_1,hx11_2,hx11_3,hx11_4⟩:=zat_ (at_T39 (Kd.R_reads' HO_8.out).2.2 x10_1);obtain rfl:ad6=ad11:=(by injection e11);refine start_ (n:=19) (S:=fun w'=>w'.cell? ⟨(ad10.add ((t7).toNat*12)).block,(ad10.add ((t7).toNat*12)).off+1,none⟩=some (.string ((rd_T79 l2 t7).f1))∧w'.cell? ⟨(ad6.add ((x10_1).toNat*5)).block,(ad6.add ((x10_1).toNat*5)).off+1,none⟩=some (.string ((rd_T39 t3 x10_1).f1))) (ds:=[]) (bt_ 19 0) (by kernel_rfl) rfl rfl ⟨(zx_ HB hw10_1:),hx11_1⟩ (fun hHeld=> ?_);refine with_tabW r16_Steps.tab12 r16_Steps.bits12 (fun HT_ HW_=> ?_);generalize wr.drew=w24 at HO_8 BK1 HB hx10_0 hx10_1 hx10_10 hx10_11 hx10_2 hx10_3 hx10_4 hx10_5 hx10_6 hx10_7 hx10_8 hx10_9 hx11_0 hx11_1 hx11_2 hx11_3 hx11_4 hHeld ⊢;refine ru_ 0 HT_ ?_;refine ru_ 1 HT_ ?_;refine ru_ 2 HT_ ?_;refine ru_ 3 HT_ ?_;refine ru_ 4 HT_ ?_;refine ru_ 5 HT_ ?_;refine ru_ 6 HT_ ?_
      refine ru_ 7 HT_ ?_;refine ru_ 8 HT_ ?_;refine ru_ 10 HT_ ?_;refine ru_ 11 HT_ ?_;refine ru_ 12 HT_ ?_;refine ru_ 13 HT_ ?_;refine rk_ 9 HT_ HW_ hHeld ?_;refine rk_ 14 HT_ HW_ hHeld ?_;refine ru_ 15 HT_ ?_;refine ru_ 16 HT_ ?_;refine ru_ 17 HT_ ?_;refine ru_ 18 HT_ ?_;refine done_ (done_of HT_.out (by kernel_rfl)) ?_;try go_wp2
      go_roundg k1
      case measure=>have:=HK1.out;omega
      case rel=>exact ⟨((((rd_T79 l2 t7).f1).toList !=((rd_T39 t3 x10_1).f1).toList)),(wrap64 (x10_1+1)),(x2001_1),rf_,rf_,H',⟨by have:=HK1.out;omega⟩,am_ (zr_ HO_8),am_ (zb_ BK1),⟨zl1_ HB GE1⟩⟩
    rw [if_neg c10] at H;have c10b0:=decide_eq_false c10;clear c10;have H':=Aside0.mk H;clear H;obtain ⟨Ao30,co30,eo30⟩:=Kd.R_slice HO_8.out;subst eo30;go_wp2
    go_loopg [12,13] k1 (fun kq v12 v13 w'=> ∃(x12_2:List (S76)) (x13_2:Int),v13= .int .i64 x13_2∧Aside0 (r16_Steps.l1 kq l0 l1 l2 t3 x9_1 x12_2 x13_2=some (r1,r2))∧Aside0 (kq≤k1)∧Aside0 (Kd.R k39 39 w' w.heap.size (fun _=>True) (.slice Ao30 t3.length co30) t3)∧Aside0 (Kd.R k76 76 w' w.heap.size (fun _=>True) v12 x12_2)∧Aside0 (w'.heap[gb1]?=some (.cells #[(.slice none 0 0), .int .i64 x2001_1] 51 (0,0)))∧Aside0 (Below w.heap.size w w'))
    case atStart=>exact ⟨(([]:List (S76))),(0),rf_,H',⟨Nat.le_refl _⟩,am_ (zr_ HO_8),⟨by first|exact Kd.R_nil _ _ _ _ _|exact Kd.N_nil _ _ _ _ _|exact Kd.V_nil _ _ _ _ _|exact Kd.Q_nil _ _ _ _ _|exact Kd.S_nil _ _ _ _ _⟩,am_ (zb_ BK1),⟨zl1_ HB GE1⟩⟩
    case round=>
     clear H';obtain ⟨x12_2,x13_2,rfl,HA,HK2,HO_8,HO_12,BK1,HB⟩:=hrel
     cases gk with
     |zero=>exact absurd HA.out (by simp [r16_Steps.l1])
     |succ k2=>
      have H:=HA.out;clear HA;simp only [r16_Steps.l1] at H;by_cases c31:x13_2<(t3.length:Int)
      ·rw [if_pos c31] at H;have c31b0:=decide_eq_true c31;clear c31;replace H:=zif_ H;obtain ⟨c32,H⟩:=H;replace c32:=decide_eq_true c32;replace H:=zbd_ H;obtain ⟨t14,A33,H⟩:=H;try dsimp only at H
       replace H:=zbd_ H;obtain ⟨⟨t15,t16,t17⟩,A34,H⟩:=H;try dsimp only at H
       by_cases c35:t14<0
       ·rw [if_pos c35] at H;have c35b0:=decide_eq_true c35;clear c35;replace H:=zif_ H;obtain ⟨c36,H⟩:=H;have LMc36:=Aside0.mk c36;clear c36;obtain ⟨y19,hy19⟩: ∃y_:List (S76),y_=(x12_2++ [(⟨1,(rd_T39 t3 x13_2).f0,(rd_T39 t3 x13_2).f1,(⟨t15,t16,t17⟩:S37)⟩:S76)]):=⟨_,rfl⟩;(first|replace H:=zsb_ hy19 H|rw [←hy19] at H);have Ny19:=Aside0.mk hy19;clear hy19;have H':=Aside0.mk H;clear H;obtain ⟨p12,q12,ad12,e12,hx12_0,hx12_1,hx12_2,hx12_3,hx12_4⟩:=zat_ (at_T39 (Kd.R_reads' HO_8.out).2.2 x13_2);cases e12
        go_wp2_with (first|((with_reducible refine gate_dst (N:=14) rfl ?_);refine bx_ (N:=14) (cs:=#[.string (⟨#[]⟩:ByteArray), .string (⟨#[]⟩:ByteArray), .int .i64 0, .int .i64 0, .int .i64 0]) (t:=39) ?_;intro gb13 hg w37 hbox hb;replace HO_8:=am_ (Kd.R_below (Kd.R_elderB (zr_ HO_8) gb13 (Nat.le_of_eq hg.symm)) hb);replace HO_12:=ob_ HO_12 hb;have BK13:=am_ (hbox);have GE13:=am_ ((zg1_ HB GE1 hg:w.heap.size≤gb13));replace HB:=am_ (below_step (zl1_ HB GE1) hb);have NB1_13:=am_ ((zn_ BK1 hg:gb1≠gb13));have NB13_1:=am_ ((zm_ BK1 hg:gb13≠gb1));replace BK1:=bb_ BK1 hb;clear hb hbox hg;have:=NB13_1.out;have:=NB1_13.out;obtain ⟨_,_,_,_,_⟩:=x5_ BK13;obtain ⟨_,_,_,_,_⟩:=ff5_ BK13)|((with_reducible refine gate_callee (f:=52) rfl ?_);refine gl_ (some 87) Try.func52 #[.slice A2 l2.length c2, .string ((rd_T39 t3 x13_2).f0)] ?_;(with_reducible refine (r10_Find.calls k2 _ _ l2 ((rd_T39 t3 x13_2).f0) t14 _ ?side1 ?side2 A33.out).mono ?_);(case side1=>exact Kd.C_below HR2.out (zl2_ HB GE1 GE13));(case side2=>exact HC2.out);rintro e w' ⟨rfl,⟨nd,rfl⟩⟩;refine ⟨_,rfl, ?_⟩)|((with_reducible refine gate_callee (f:=86) rfl ?_);refine gl_ (some 91) Try.func86 #[.agg #[.string ((rd_T39 t3 x13_2).f0), .string ((rd_T39 t3 x13_2).f1), .int .i64 ((rd_T39 t3 x13_2).f2.f0), .int .i64 ((rd_T39 t3 x13_2).f2.f1), .int .i64 ((rd_T39 t3 x13_2).f2.f2)], .slice A2 l2.length c2, .bool x9_1] ?_;(with_reducible refine (r16_up.calls k2 ((rd_T39 t3 x13_2).f0) ((rd_T39 t3 x13_2).f1) ((rd_T39 t3 x13_2).f2.f0) ((rd_T39 t3 x13_2).f2.f1) ((rd_T39 t3 x13_2).f2.f2) _ _ l2 x9_1 t15 t16 t17 _ ?side1 ?side2 A34.out).mono ?_);(case side1=>exact Kd.C_below HR2.out (zl2_ HB GE1 GE13));(case side2=>exact HC2.out);rintro e w40 ⟨rfl,hb⟩;refine ⟨_,rfl, ?_⟩;replace HO_8:=am_ (Kd.R_below (by refine zt_ ?_;exact (zu2_ gb13 HO_8)) hb);replace HO_12:=am_ (Kd.R_below (by refine zt_ ?_;exact (zv2_ HO_12 BK13)) hb);replace BK1:=am_ (blk_below (g:=gb1) (o:= .cells #[.slice none 0 0, .int .i64 x2001_1] 51 (0,0)) (zw_ BK1) hb);replace BK13:=am_ (blk_below (g:=gb13) (o:= .cells #[.string ((rd_T39 t3 x13_2).f0), .string ((rd_T39 t3 x13_2).f1), .int .i64 ((rd_T39 t3 x13_2).f2.f0), .int .i64 ((rd_T39 t3 x13_2).f2.f1), .int .i64 ((rd_T39 t3 x13_2).f2.f2)] 39 (0,0)) (zw_ BK13) hb);replace HB:=am_ (below_step (zl2_ HB GE1 GE13) hb);(try clear hb))|((with_reducible refine gate_dst (N:=16) rfl ?_);refine bx_ (N:=16) (cs:=#[.int .i64 0, .int .i64 0, .int .i64 0]) (t:=37) ?_;intro gb18 hg w41 hbox hb;replace HO_8:=ob_ HO_8 hb;replace HO_12:=ob_ HO_12 hb;have BK18:=am_ (hbox);have GE18:=am_ ((zg2_ HB GE1 GE13 hg:w.heap.size≤gb18));replace HB:=am_ (below_step (zl2_ HB GE1 GE13) hb);have NB1_18:=am_ ((zn_ BK1 hg:gb1≠gb18));have NB18_1:=am_ ((zm_ BK1 hg:gb18≠gb1));replace BK1:=bb_ BK1 hb;have NB13_18:=am_ ((zn_ BK13 hg:gb13≠gb18));have NB18_13:=am_ ((zm_ BK13 hg:gb18≠gb13));replace BK13:=bb_ BK13 hb;clear hb hbox hg;have:=NB18_1.out;have:=NB1_18.out;have:=NB18_13.out;have:=NB13_18.out;obtain ⟨_,_,_,_,_,_⟩:=y3_ BK18;obtain ⟨_,_,_,_,_⟩:=x5_ BK13;obtain ⟨_,_,_,_,_⟩:=ff5_ BK13)|((with_reducible refine gate_builtin (b:= .append) (xs:=#[.tmp 94, .tmp 101]) rfl ?_);at_builtin;refine Kd.R_append k76 (w0:=w) w.heap.size rfl (.tmp 94) (.tmp 101) 49 76 (.agg #[(.int .i64 0),(.string ⟨#[]⟩),(.string ⟨#[]⟩),(.int .i64 0),(.int .i64 0),(.int .i64 0)]) 64 rfl Try.underlying49 info76 rfl (by decide) (by omega) u12 x12_2 (⟨1,(rd_T39 t3 x13_2).f0,(rd_T39 t3 x13_2).f1,(⟨t15,t16,t17⟩:S37)⟩:S76) [.int .i64 1, .string ((rd_T39 t3 x13_2).f0), .string ((rd_T39 t3 x13_2).f1), .int .i64 t15, .int .i64 t16, .int .i64 t17] (fun _=>True) (fun _=>False) rfl (by first|(go_simp;done)|(go_simp;rfl)) ?aP (fun _ hk=>hk.elim) ?aF ?aO ?aB ?aS ?aL ?_;(case aP=>exact k76_mkM _ _ _ (⟨1,(rd_T39 t3 x13_2).f0,(rd_T39 t3 x13_2).f1,(⟨t15,t16,t17⟩:S37)⟩:S76));(case aB=>exact (zl3_ HB GE1 GE13 GE18));(case aF=>exact (fun _ _=>trivial));(case aO=>exact (by refine zt_ ?_;exact zy_ HO_12 BK18));(case aS=>exact (below_size (zl3_ HB GE1 GE13 GE18)));(case aL=>have:=LMc36.out;omega);intro v20 w46 ho hb hg hat;rw [←Ny19.out] at ho;have n0_:=am_ (Kd.R_over' (by refine zt_ ?_;exact (zv2_ HO_8 BK18)) (Kd.R_typed (by refine zt_ ?_;exact (zv2_ HO_12 BK18))) (by decide) hg);have n1_:=am_ (blk_grown (g:=gb1) (o:= .cells #[.slice none 0 0, .int .i64 x2001_1] 51 (0,0)) (zw_ BK1) hg (Kd.R_ne HO_12.out BK1.out (by decide)));have n2_:=am_ (blk_grown (g:=gb13) (o:= .cells #[.string ((rd_T39 t3 x13_2).f0), .string ((rd_T39 t3 x13_2).f1), .int .i64 ((rd_T39 t3 x13_2).f2.f0), .int .i64 ((rd_T39 t3 x13_2).f2.f1), .int .i64 ((rd_T39 t3 x13_2).f2.f2)] 39 (0,0)) (zw_ BK13) hg (Kd.R_ne HO_12.out BK13.out (by decide)));have n3_:=am_ (blk_grown (g:=gb18) (o:= .cells #[.int .i64 t15, .int .i64 t16, .int .i64 t17] 37 (0,0)) (zw_ BK18) hg (Kd.R_ne HO_12.out BK18.out (by decide)));have n4_:=am_ (hb);have n5_:=am_ (ho);clear HO_8;clear BK1;clear BK13;clear BK18;clear HB;clear HO_12;have HO_8:=n0_;have BK1:=n1_;have BK13:=n2_;have BK18:=n3_;have HB:=n4_;have HO21:=n5_;clear n0_ n1_ n2_ n3_ n4_ n5_;clear ho hb hg hat))
        go_roundg k2
        case measure=>have:=HK1.out;have:=HK2.out;omega
        case rel=>exact ⟨(y19),(wrap64 (x13_2+1)),rf_,H',⟨by have:=HK1.out;have:=HK2.out;omega⟩,⟨by (with_reducible repeat (first|apply Kd.R_alloc|apply Kd.R_drewN|apply Kd.R_drew));exact Kd.R_mono HO_8.out (fun _ hk=>trivial)⟩,am_ (zr_ HO21),am_ (zb_ BK1),⟨zl3_ HB GE1 GE13 GE18⟩⟩
       rw [if_neg c35] at H;have c35b0:=decide_eq_false c35;clear c35;replace H:=zif_ H;obtain ⟨c47,H⟩:=H;replace c47:=decide_eq_true c47;replace H:=zif_ H;obtain ⟨c48,H⟩:=H;replace c48:=decide_eq_true c48;by_cases c49:(!(((rd_T79 l2 t14).f2.f0)==t15)||(!(((rd_T79 l2 t14).f2.f1)==t16)||(!(((rd_T79 l2 t14).f2.f2)==t17))))=true;rw [if_pos c49] at H;have c49b0:(!(((rd_T79 l2 t14).f2.f0)==t15)||(!(((rd_T79 l2 t14).f2.f1)==t16)||(!(((rd_T79 l2 t14).f2.f2)==t17))))=true:=c49;clear c49;replace H:=zif_ H;obtain ⟨c50,H⟩:=H;have LMc50:=Aside0.mk c50;clear c50;obtain ⟨y23,hy23⟩: ∃y_:List (S76),y_=(x12_2++ [(⟨2,(rd_T39 t3 x13_2).f0,(⟨#[]⟩:ByteArray),(⟨t15,t16,t17⟩:S37)⟩:S76)]):=⟨_,rfl⟩;(first|replace H:=zsb_ hy23 H|rw [←hy23] at H);have Ny23:=Aside0.mk hy23;clear hy23;have H':=Aside0.mk H;clear H;obtain ⟨p12,q12,ad12,e12,hx12_0,hx12_1,hx12_2,hx12_3,hx12_4⟩:=zat_ (at_T39 (Kd.R_reads' HO_8.out).2.2 x13_2);cases e12;rotate_left;rw [if_neg c49] at H;have c49b0:(!(((rd_T79 l2 t14).f2.f0)==t15)||(!(((rd_T79 l2 t14).f2.f1)==t16)||(!(((rd_T79 l2 t14).f2.f2)==t17))))=false:=by simpa using c49
       clear c49;have H':=Aside0.mk H;clear H;obtain ⟨p12,q12,ad12,e12,hx12_0,hx12_1,hx12_2,hx12_3,hx12_4⟩:=zat_ (at_T39 (Kd.R_reads' HO_8.out).2.2 x13_2);cases e12;rotate_left
       all_goals (
       try go_wp2_with (first|((with_reducible refine gate_dst (N:=14) rfl ?_);refine bx_ (N:=14) (cs:=#[.string (⟨#[]⟩:ByteArray), .string (⟨#[]⟩:ByteArray), .int .i64 0, .int .i64 0, .int .i64 0]) (t:=39) ?_;intro gb13 hg w51 hbox hb;replace HO_8:=am_ (Kd.R_below (Kd.R_elderB (zr_ HO_8) gb13 (Nat.le_of_eq hg.symm)) hb);replace HO_12:=ob_ HO_12 hb;have BK13:=am_ (hbox);have GE13:=am_ ((zg1_ HB GE1 hg:w.heap.size≤gb13));replace HB:=am_ (below_step (zl1_ HB GE1) hb);have NB1_13:=am_ ((zn_ BK1 hg:gb1≠gb13));have NB13_1:=am_ ((zm_ BK1 hg:gb13≠gb1));replace BK1:=bb_ BK1 hb;clear hb hbox hg;have:=NB13_1.out;have:=NB1_13.out;obtain ⟨_,_,_,_,_⟩:=x5_ BK13;obtain ⟨_,_,_,_,_⟩:=ff5_ BK13)|((with_reducible refine gate_callee (f:=52) rfl ?_);refine gl_ (some 87) Try.func52 #[.slice A2 l2.length c2, .string ((rd_T39 t3 x13_2).f0)] ?_;(with_reducible refine (r10_Find.calls k2 _ _ l2 ((rd_T39 t3 x13_2).f0) t14 _ ?side1 ?side2 A33.out).mono ?_);(case side1=>exact Kd.C_below HR2.out (zl2_ HB GE1 GE13));(case side2=>exact HC2.out);rintro e w' ⟨rfl,⟨nd,rfl⟩⟩;refine ⟨_,rfl, ?_⟩)|((with_reducible refine gate_callee (f:=86) rfl ?_);refine gl_ (some 91) Try.func86 #[.agg #[.string ((rd_T39 t3 x13_2).f0), .string ((rd_T39 t3 x13_2).f1), .int .i64 ((rd_T39 t3 x13_2).f2.f0), .int .i64 ((rd_T39 t3 x13_2).f2.f1), .int .i64 ((rd_T39 t3 x13_2).f2.f2)], .slice A2 l2.length c2, .bool x9_1] ?_;(with_reducible refine (r16_up.calls k2 ((rd_T39 t3 x13_2).f0) ((rd_T39 t3 x13_2).f1) ((rd_T39 t3 x13_2).f2.f0) ((rd_T39 t3 x13_2).f2.f1) ((rd_T39 t3 x13_2).f2.f2) _ _ l2 x9_1 t15 t16 t17 _ ?side1 ?side2 A34.out).mono ?_);(case side1=>exact Kd.C_below HR2.out (zl2_ HB GE1 GE13));(case side2=>exact HC2.out);rintro e w54 ⟨rfl,hb⟩;refine ⟨_,rfl, ?_⟩;replace HO_8:=am_ (Kd.R_below (by refine zt_ ?_;exact (zu2_ gb13 HO_8)) hb);replace HO_12:=am_ (Kd.R_below (by refine zt_ ?_;exact (zv2_ HO_12 BK13)) hb);replace BK1:=am_ (blk_below (g:=gb1) (o:= .cells #[.slice none 0 0, .int .i64 x2001_1] 51 (0,0)) (zw_ BK1) hb);replace BK13:=am_ (blk_below (g:=gb13) (o:= .cells #[.string ((rd_T39 t3 x13_2).f0), .string ((rd_T39 t3 x13_2).f1), .int .i64 ((rd_T39 t3 x13_2).f2.f0), .int .i64 ((rd_T39 t3 x13_2).f2.f1), .int .i64 ((rd_T39 t3 x13_2).f2.f2)] 39 (0,0)) (zw_ BK13) hb);replace HB:=am_ (below_step (zl2_ HB GE1 GE13) hb);(try clear hb))|((with_reducible refine gate_dst (N:=16) rfl ?_);refine bx_ (N:=16) (cs:=#[.int .i64 0, .int .i64 0, .int .i64 0]) (t:=37) ?_;intro gb18 hg w55 hbox hb;replace HO_8:=ob_ HO_8 hb;replace HO_12:=ob_ HO_12 hb;have BK18:=am_ (hbox);have GE18:=am_ ((zg2_ HB GE1 GE13 hg:w.heap.size≤gb18));replace HB:=am_ (below_step (zl2_ HB GE1 GE13) hb);have NB1_18:=am_ ((zn_ BK1 hg:gb1≠gb18));have NB18_1:=am_ ((zm_ BK1 hg:gb18≠gb1));replace BK1:=bb_ BK1 hb;have NB13_18:=am_ ((zn_ BK13 hg:gb13≠gb18));have NB18_13:=am_ ((zm_ BK13 hg:gb18≠gb13));replace BK13:=bb_ BK13 hb;clear hb hbox hg;have:=NB18_1.out;have:=NB1_18.out;have:=NB18_13.out;have:=NB13_18.out;obtain ⟨_,_,_⟩:=x3_ BK18;obtain ⟨_,_,_⟩:=ff3_ BK18))
       have n0_:Aside0 (Kd.R k39 39 (((w55.setCell ⟨gb18,0,none⟩ (.int .i64 t15)).setCell ⟨gb18,1,none⟩ (.int .i64 t16)).setCell ⟨gb18,2,none⟩ (.int .i64 t17)) w.heap.size (fun k_=>k_≠gb13) (.slice (some ad12) t3.length co30) t3):=⟨by (with_reducible repeat (first|apply Kd.R_alloc|apply Kd.R_drewN|apply Kd.R_drew));exact Kd.R_mono (Kd.R_far (p:=⟨gb18,2,none⟩) (Kd.R_far (p:=⟨gb18,1,none⟩) (Kd.R_far (p:=⟨gb18,0,none⟩) (Kd.R_types HO_8.out BK18.out (by decide)) (fun _ hk=>hk.2) (.int .i64 t15)) (fun _ hk=>hk.2) (.int .i64 t16)) (fun _ hk=>hk.2) (.int .i64 t17)) (fun _ hk=>hk.1.2)⟩;have n1_:Aside0 (Kd.R k76 76 (((w55.setCell ⟨gb18,0,none⟩ (.int .i64 t15)).setCell ⟨gb18,1,none⟩ (.int .i64 t16)).setCell ⟨gb18,2,none⟩ (.int .i64 t17)) w.heap.size (fun _=>True) u12 x12_2):=⟨zy_ HO_12 BK18⟩;have n2_:Aside0 ((((w55.setCell ⟨gb18,0,none⟩ (.int .i64 t15)).setCell ⟨gb18,1,none⟩ (.int .i64 t16)).setCell ⟨gb18,2,none⟩ (.int .i64 t17)).heap[gb1]?=some (.cells #[.slice none 0 0, .int .i64 x2001_1] 51 (0,0))):=⟨zw_ BK1⟩;have n3_:Aside0 ((((w55.setCell ⟨gb18,0,none⟩ (.int .i64 t15)).setCell ⟨gb18,1,none⟩ (.int .i64 t16)).setCell ⟨gb18,2,none⟩ (.int .i64 t17)).heap[gb13]?=some (.cells #[.string ((rd_T39 t3 x13_2).f0), .string ((rd_T39 t3 x13_2).f1), .int .i64 ((rd_T39 t3 x13_2).f2.f0), .int .i64 ((rd_T39 t3 x13_2).f2.f1), .int .i64 ((rd_T39 t3 x13_2).f2.f2)] 39 (0,0))):=⟨zw_ BK13⟩
       have n4_:Aside0 ((((w55.setCell ⟨gb18,0,none⟩ (.int .i64 t15)).setCell ⟨gb18,1,none⟩ (.int .i64 t16)).setCell ⟨gb18,2,none⟩ (.int .i64 t17)).heap[gb18]?=some (.cells #[.int .i64 t15, .int .i64 t16, .int .i64 t17] 37 (0,0))):=⟨zw_ BK18⟩;have n5_:Aside0 (Below w.heap.size w (((w55.setCell ⟨gb18,0,none⟩ (.int .i64 t15)).setCell ⟨gb18,1,none⟩ (.int .i64 t16)).setCell ⟨gb18,2,none⟩ (.int .i64 t17))):=⟨zl3_ HB GE1 GE13 GE18⟩;generalize (((w55.setCell ⟨gb18,0,none⟩ (.int .i64 t15)).setCell ⟨gb18,1,none⟩ (.int .i64 t16)).setCell ⟨gb18,2,none⟩ (.int .i64 t17))=w59 at n0_ n1_ n2_ n3_ n4_ n5_ ⊢;have HO_8:=n0_;have HO_12:=n1_;have BK1:=n2_;have BK13:=n3_;have BK18:=n4_;have HB:=n5_;clear n0_ n1_ n2_ n3_ n4_ n5_;replace HO_8:=am_ (Kd.R_drew HO_8.out);replace HO_12:=am_ (Kd.R_drew HO_12.out);replace BK1:=am_ (blk_drew BK1.out);replace BK13:=am_ (blk_drew BK13.out);replace BK18:=am_ (blk_drew BK18.out);replace HB:=am_ (below_drew1 HB.out);have p22:0≤(t14:Int):=of_decide_eq_true zq_;have q22:t14<(l2.length:Int):=of_decide_eq_true zq_;obtain ⟨ad22,e22,hx22_0,hx22_1,hx22_2,hx22_3,hx22_4,hx22_5,hx22_6,hx22_7,hx22_8,hx22_9,hx22_10,hx22_11⟩:=at_T79 HR2.out t14 p22 q22;have hw22_11:=hx22_11;have hw22_10:=hx22_10;have hw22_9:=hx22_9;have hw22_8:=hx22_8;have hw22_7:=hx22_7;have hw22_6:=hx22_6;have hw22_5:=hx22_5;have hw22_4:=hx22_4;have hw22_3:=hx22_3;have hw22_2:=hx22_2;have hw22_1:=hx22_1;have hw22_0:=hx22_0;cases e22
       replace hx22_0:=zx12_ HB hx22_0 hx22_1 hx22_2 hx22_3 hx22_4 hx22_5 hx22_6 hx22_7 hx22_8 hx22_9 hx22_10 hx22_11;clear hx22_1 hx22_2 hx22_3 hx22_4 hx22_5 hx22_6 hx22_7 hx22_8 hx22_9 hx22_10 hx22_11;obtain ⟨hx22_0,hx22_1,hx22_2,hx22_3,hx22_4,hx22_5,hx22_6,hx22_7,hx22_8,hx22_9,hx22_10,hx22_11⟩:=hx22_0;replace p22:=eq_true p22;replace q22:=eq_true q22
       refine start_ (n:=7) (S:=fun w'=>w'.cell? ⟨gb18,0,none⟩=some (.int .i64 t15)∧w'.cell? ⟨gb18,1,none⟩=some (.int .i64 t16)∧w'.cell? ⟨gb18,2,none⟩=some (.int .i64 t17)∧w'.cell? (ad22.add ((t14).toNat*12))=some (.string ((rd_T79 l2 t14).f0))∧w'.cell? ⟨(ad22.add ((t14).toNat*12)).block,(ad22.add ((t14).toNat*12)).off+1,none⟩=some (.string ((rd_T79 l2 t14).f1))∧w'.cell? ⟨(ad22.add ((t14).toNat*12)).block,(ad22.add ((t14).toNat*12)).off+2,none⟩=some (.int .i64 ((rd_T79 l2 t14).f2.f0))∧w'.cell? ⟨(ad22.add ((t14).toNat*12)).block,(ad22.add ((t14).toNat*12)).off+3,none⟩=some (.int .i64 ((rd_T79 l2 t14).f2.f1))∧w'.cell? ⟨(ad22.add ((t14).toNat*12)).block,(ad22.add ((t14).toNat*12)).off+4,none⟩=some (.int .i64 ((rd_T79 l2 t14).f2.f2))∧w'.cell? ⟨(ad22.add ((t14).toNat*12)).block,(ad22.add ((t14).toNat*12)).off+5,none⟩=some (.int .i64 ((rd_T79 l2 t14).f3.f0))∧w'.cell? ⟨(ad22.add ((t14).toNat*12)).block,(ad22.add ((t14).toNat*12)).off+6,none⟩=some (.int .i64 ((rd_T79 l2 t14).f3.f1))∧w'.cell? ⟨(ad22.add ((t14).toNat*12)).block,(ad22.add ((t14).toNat*12)).off+7,none⟩=some (.int .i64 ((rd_T79 l2 t14).f3.f2))∧w'.cell? ⟨(ad22.add ((t14).toNat*12)).block,(ad22.add ((t14).toNat*12)).off+8,none⟩=some (.int .i64 ((rd_T79 l2 t14).f4.f0))∧w'.cell? ⟨(ad22.add ((t14).toNat*12)).block,(ad22.add ((t14).toNat*12)).off+9,none⟩=some (.int .i64 ((rd_T79 l2 t14).f4.f1))∧w'.cell? ⟨(ad22.add ((t14).toNat*12)).block,(ad22.add ((t14).toNat*12)).off+10,none⟩=some (.int .i64 ((rd_T79 l2 t14).f4.f2))∧w'.cell? ⟨(ad22.add ((t14).toNat*12)).block,(ad22.add ((t14).toNat*12)).off+11,none⟩=some (.int .i64 ((rd_T79 l2 t14).f5))) (ds:=[]) (bt_ 7 0) (by kernel_rfl) rfl rfl ⟨(blk_cell BK18.out 0).trans rfl,(blk_cell BK18.out 1).trans rfl,(blk_cell BK18.out 2).trans rfl,(zx_ HB hw22_0:),(zx_ HB hw22_1:),(zx_ HB hw22_2:),(zx_ HB hw22_3:),(zx_ HB hw22_4:),(zx_ HB hw22_5:),(zx_ HB hw22_6:),(zx_ HB hw22_7:),(zx_ HB hw22_8:),(zx_ HB hw22_9:),(zx_ HB hw22_10:),(zx_ HB hw22_11:)⟩ (fun hHeld=> ?_)
       generalize w59.drew=w60 at HO_8 HO_12 BK1 BK13 BK18 HB hx22_0 hx22_1 hx22_10 hx22_11 hx22_2 hx22_3 hx22_4 hx22_5 hx22_6 hx22_7 hx22_8 hx22_9 hHeld ⊢;refine pure_ (i:=0) (N:=some 103) (v:= ?_) (a':= ?_) (bt_ 7 1) rfl rfl (by kernel_rfl) (fun _ _ _ h=>h) (Or.inl ⟨by rfl, ?_⟩) ?_ ?_;rotate_left
       ·intro w';go_simp
        with_reducible rfl
       rotate_left
       ·simp only [Act.put,List.setIfInBounds_toArray,List.set_cons_zero,List.set_cons_succ,i64_w,i32_w]
        rfl
       refine pure_ (i:=1) (N:=some 104) (v:= ?_) (a':= ?_) (bt_ 7 3) rfl rfl (by kernel_rfl) (fun _ _ _ h=>h) (Or.inl ⟨by rfl, ?_⟩) ?_ ?_;rotate_left
       ·intro w';go_simp
        with_reducible rfl
       rotate_left
       ·simp only [Act.put,List.setIfInBounds_toArray,List.set_cons_zero,List.set_cons_succ,i64_w,i32_w]
        rfl
       refine pure_ (i:=2) (N:=some 105) (v:= ?_) (a':= ?_) (bt_ 7 7) rfl rfl (by kernel_rfl) (fun _ _ _ h=>h) (Or.inl ⟨by rfl, ?_⟩) ?_ ?_;rotate_left
       ·intro w';go_simp
        with_reducible rfl
       rotate_left
       ·simp only [Act.put,List.setIfInBounds_toArray,List.set_cons_zero,List.set_cons_succ,i64_w,i32_w]
        rfl
       refine pure_ (i:=3) (N:=some 106) (v:= ?_) (a':= ?_) (bt_ 7 15) rfl rfl (by kernel_rfl) (fun _ _ _ h=>h) (Or.inl ⟨by rfl, ?_⟩) ?_ ?_;rotate_left
       ·intro w';go_simp
        with_reducible rfl
       rotate_left
       ·simp only [Act.put,List.setIfInBounds_toArray,List.set_cons_zero,List.set_cons_succ,i64_w,i32_w]
        rfl
       refine take_ (i:=4) (N:=some 107) (v:= ?_) (a':= ?_) (bt_ 7 31) rfl rfl (by kernel_rfl) (fun _ _ _ h=>h) (Or.inl ⟨by rfl, ?_⟩) hHeld ?_ ?_;rotate_left
       ·rintro w' ⟨s0,s1,s2,s3,s4,s5,s6,s7,s8,s9,s10,s11,s12,s13,s14⟩;go_simp
        with_reducible rfl
       rotate_left
       ·simp only [Act.put,List.setIfInBounds_toArray,List.set_cons_zero,List.set_cons_succ,i64_w,i32_w]
        rfl
       refine take_ (i:=5) (N:=some 108) (v:= ?_) (a':= ?_) (bt_ 7 63) rfl rfl (by kernel_rfl) (fun _ _ _ h=>h) (Or.inl ⟨by rfl, ?_⟩) hHeld ?_ ?_;rotate_left
       ·rintro w' ⟨s0,s1,s2,s3,s4,s5,s6,s7,s8,s9,s10,s11,s12,s13,s14⟩;go_simp
        with_reducible rfl
       rotate_left
       ·simp only [Act.put,List.setIfInBounds_toArray,List.set_cons_zero,List.set_cons_succ,i64_w,i32_w]
        rfl
       refine pure_ (i:=6) (N:=some 109) (v:= ?_) (a':= ?_) (bt_ 7 127) rfl rfl (by kernel_rfl) (fun _ _ _ h=>h) (Or.inl ⟨by rfl, ?_⟩) ?_ ?_;rotate_left
       ·intro w';go_simp
        with_reducible rfl
       rotate_left
       ·simp only [Act.put,List.setIfInBounds_toArray,List.set_cons_zero,List.set_cons_succ,i64_w,i32_w]
        rfl
       refine done_ (by kernel_rfl) ?_)
       ·obtain ⟨_,_,_,_,_,_,_,_,_,_⟩:=y5_ BK13;obtain ⟨_,_,_,_,_,_⟩:=y3_ BK18
        try go_wp2_with (first|((with_reducible refine gate_builtin (b:= .append) (xs:=#[.tmp 110, .tmp 115]) rfl ?_);at_builtin;refine Kd.R_append k76 (w0:=w) w.heap.size rfl (.tmp 110) (.tmp 115) 49 76 (.agg #[(.int .i64 0),(.string ⟨#[]⟩),(.string ⟨#[]⟩),(.int .i64 0),(.int .i64 0),(.int .i64 0)]) 64 rfl Try.underlying49 info76 rfl (by decide) (by omega) u12 x12_2 (⟨2,(rd_T39 t3 x13_2).f0,(⟨#[]⟩:ByteArray),(⟨t15,t16,t17⟩:S37)⟩:S76) [.int .i64 2, .string ((rd_T39 t3 x13_2).f0), .string (⟨#[]⟩:ByteArray), .int .i64 t15, .int .i64 t16, .int .i64 t17] (fun _=>True) (fun _=>False) rfl rfl ?aP (fun _ hk=>hk.elim) ?aF ?aO ?aB ?aS ?aL ?_;(case aP=>exact k76_mkM _ _ _ (⟨2,(rd_T39 t3 x13_2).f0,(⟨#[]⟩:ByteArray),(⟨t15,t16,t17⟩:S37)⟩:S76));(case aB=>exact (zl3_ HB GE1 GE13 GE18));(case aF=>exact (fun _ _=>trivial));(case aO=>exact (zr_ HO_12));(case aS=>exact (below_size (zl3_ HB GE1 GE13 GE18)));(case aL=>have:=LMc50.out;omega);intro v24 w63 ho hb hg hat;rw [←Ny23.out] at ho;have n0_:=am_ (Kd.R_over' (zr_ HO_8) (Kd.R_typed (zr_ HO_12)) (by decide) hg);have n1_:=am_ (blk_grown (zb_ BK1) hg (Kd.R_ne HO_12.out BK1.out (by decide)));have n2_:=am_ (blk_grown (zb_ BK13) hg (Kd.R_ne HO_12.out BK13.out (by decide)));have n3_:=am_ (blk_grown (zb_ BK18) hg (Kd.R_ne HO_12.out BK18.out (by decide)));have n4_:=am_ (hb);have n5_:=am_ (ho);clear HO_8;clear BK1;clear BK13;clear BK18;clear HB;clear HO_12;have HO_8:=n0_;have BK1:=n1_;have BK13:=n2_;have BK18:=n3_;have HB:=n4_;have HO25:=n5_;clear n0_ n1_ n2_ n3_ n4_ n5_;clear ho hb hg hat))
        go_roundg k2
        case measure=>have:=HK1.out;have:=HK2.out;omega
        case rel=>exact ⟨(y23),(wrap64 (x13_2+1)),rf_,H',⟨by have:=HK1.out;have:=HK2.out;omega⟩,⟨by (with_reducible repeat (first|apply Kd.R_alloc|apply Kd.R_drewN|apply Kd.R_drew));exact Kd.R_mono HO_8.out (fun _ hk=>trivial)⟩,am_ (zr_ HO25),am_ (zb_ BK1),⟨zl3_ HB GE1 GE13 GE18⟩⟩
       ·try go_wp2
        go_roundg k2
        case measure=>have:=HK1.out;have:=HK2.out;omega
        case rel=>exact ⟨(x12_2),(wrap64 (x13_2+1)),rf_,H',⟨by have:=HK1.out;have:=HK2.out;omega⟩,⟨by (with_reducible repeat (first|apply Kd.R_alloc|apply Kd.R_drewN|apply Kd.R_drew));exact Kd.R_mono HO_8.out (fun _ hk=>trivial)⟩,am_ (zr_ HO_12),am_ (zb_ BK1),⟨zl3_ HB GE1 GE13 GE18⟩⟩
      rw [if_neg c31] at H;have c31b0:=decide_eq_false c31;clear c31;have H':=Aside0.mk H;clear H;go_wp2
      go_loopg [12,17] k2 (fun kq v12 v17 w'=> ∃(x12_3:List (S76)) (x17_3:Int),v17= .int .i64 x17_3∧Aside0 (r16_Steps.l2 kq l0 l1 l2 t3 x9_1 x12_3 x17_3=some (r1,r2))∧Aside0 (kq≤k2)∧Aside0 (Kd.R k39 39 w' w.heap.size (fun _=>True) (.slice Ao30 t3.length co30) t3)∧Aside0 (Kd.R k76 76 w' w.heap.size (fun _=>True) v12 x12_3)∧Aside0 (w'.heap[gb1]?=some (.cells #[(.slice none 0 0), .int .i64 x2001_1] 51 (0,0)))∧Aside0 (Below w.heap.size w w'))
      case atStart=>exact ⟨(x12_2),(0),rf_,H',⟨Nat.le_refl _⟩,am_ (zr_ HO_8),am_ (zr_ HO_12),am_ (zb_ BK1),⟨zl1_ HB GE1⟩⟩
      case round=>
       clear H';obtain ⟨x12_3,x17_3,rfl,HA,HK3,HO_8,HO_12,BK1,HB⟩:=hrel
       cases gk with
       |zero=>exact absurd HA.out (by simp [r16_Steps.l2])
       |succ k3=>
        have H:=HA.out;clear HA;simp only [r16_Steps.l2] at H;by_cases c74:x17_3<(t3.length:Int)
        ·rw [if_pos c74] at H;have c74b0:=decide_eq_true c74;clear c74;replace H:=zif_ H;obtain ⟨c75,H⟩:=H;replace c75:=decide_eq_true c75;replace H:=zbd_ H;obtain ⟨t27,A76,H⟩:=H;try dsimp only at H
         by_cases c77:t27≥0;rotate_left
         ·rw [if_neg c77] at H;have c77b0:decide (0≤t27)=false:=decide_eq_false c77;clear c77;have H':=Aside0.mk H;clear H;obtain ⟨p26,q26,ad26,e26,hx26_0,hx26_1,hx26_2,hx26_3,hx26_4⟩:=zat_ (at_T39 (Kd.R_reads' HO_8.out).2.2 x17_3);cases e26;try go_wp2_with (first|((with_reducible refine gate_callee (f:=52) rfl ?_);refine gl_ (some 129) Try.func52 #[.slice A2 l2.length c2, .string ((rd_T39 t3 x17_3).f0)] ?_;(with_reducible refine (r10_Find.calls k3 _ _ l2 ((rd_T39 t3 x17_3).f0) t27 _ ?side1 ?side2 A76.out).mono ?_);(case side1=>exact zc_ (Kd.C_below HR2.out HB.out));(case side2=>exact HC2.out);rintro e w' ⟨rfl,⟨nd,rfl⟩⟩;refine ⟨_,rfl, ?_⟩))
          (try (rw [drewN_self wr];generalize hq_:World.drewN wr _=wr;replace HO_12:=am_ (qr_ hq_ HO_12.out);replace HO_8:=am_ (qr_ hq_ HO_8.out);replace BK1:=am_ (qb_ hq_ BK1.out);replace HB:=am_ (ql_ hq_ HB.out);clear hq_));replace HO_8:=am_ (Kd.R_drew HO_8.out);replace HO_12:=am_ (Kd.R_drew HO_12.out);replace BK1:=am_ (blk_drew BK1.out);replace HB:=am_ (below_drew1 HB.out);refine start_ (n:=15) (S:=fun w'=>True) (ds:=[]) (bs_ 15 0) (by kernel_rfl) rfl rfl trivial (fun hHeld=> ?_);refine with_tabW r16_Steps.tab28 r16_Steps.bits28 (fun HT_ HW_=> ?_);generalize wr.drew=w86 at HO_8 HO_12 BK1 HB hHeld ⊢;(iterate 15 first|refine qn_ HT_ ?_|refine qu_ HT_ ?_);refine done_ (done_of HT_.out (by kernel_rfl)) ?_;try go_wp2
          go_roundg k3
          case measure=>have:=HK1.out;have:=HK2.out;have:=HK3.out;omega
          case rel=>exact ⟨(x12_3),(wrap64 (x17_3+1)),rf_,H',⟨by have:=HK1.out;have:=HK2.out;have:=HK3.out;omega⟩,am_ (zr_ HO_8),am_ (zr_ HO_12),am_ (zb_ BK1),⟨zl1_ HB GE1⟩⟩
         rw [if_pos c77] at H;have c77b0:decide (0≤t27)=true:=decide_eq_true c77;clear c77;replace H:=zif_ H;obtain ⟨c78,H⟩:=H;replace c78:=decide_eq_true c78;replace H:=zif_ H;obtain ⟨c79,H⟩:=H;replace c79:=decide_eq_true c79;by_cases c80:((rd_T79 l2 t27).f1).toList=((rd_T39 t3 x17_3).f1).toList;rw [if_pos c80] at H;have c80b0:=beq_iff_eq.mpr c80;have c80b1:=bne_eq_false_iff_eq.mpr c80;clear c80;have H':=Aside0.mk H;clear H;obtain ⟨p26,q26,ad26,e26,hx26_0,hx26_1,hx26_2,hx26_3,hx26_4⟩:=zat_ (at_T39 (Kd.R_reads' HO_8.out).2.2 x17_3);cases e26;rotate_left;rw [if_neg c80] at H;have c80b0:=beq_eq_false_iff_ne.mpr c80;have c80b1:=bne_iff_ne.mpr c80;replace H:=zif_ H;obtain ⟨c82,H⟩:=H;have LMc82:=Aside0.mk c82;clear c82;obtain ⟨y32,hy32⟩: ∃y_:List (S76),y_=(x12_3++ [(⟨3,(rd_T39 t3 x17_3).f0,(rd_T39 t3 x17_3).f1,(⟨0,0,0⟩:S37)⟩:S76)]):=⟨_,rfl⟩;(first|replace H:=zsb_ hy32 H|rw [←hy32] at H);have Ny32:=Aside0.mk hy32;clear hy32;have H':=Aside0.mk H;clear H;obtain ⟨p26,q26,ad26,e26,hx26_0,hx26_1,hx26_2,hx26_3,hx26_4⟩:=zat_ (at_T39 (Kd.R_reads' HO_8.out).2.2 x17_3);cases e26;rotate_left
         all_goals (
         try go_wp2_with (first|((with_reducible refine gate_callee (f:=52) rfl ?_);refine gl_ (some 129) Try.func52 #[.slice A2 l2.length c2, .string ((rd_T39 t3 x17_3).f0)] ?_;(with_reducible refine (r10_Find.calls k3 _ _ l2 ((rd_T39 t3 x17_3).f0) t27 _ ?side1 ?side2 A76.out).mono ?_);(case side1=>exact zc_ (Kd.C_below HR2.out HB.out));(case side2=>exact HC2.out);rintro e w' ⟨rfl,⟨nd,rfl⟩⟩;refine ⟨_,rfl, ?_⟩))
         (try (rw [drewN_self wr];generalize hq_:World.drewN wr _=wr;replace HO_12:=am_ (qr_ hq_ HO_12.out);replace HO_8:=am_ (qr_ hq_ HO_8.out);replace BK1:=am_ (qb_ hq_ BK1.out);replace HB:=am_ (ql_ hq_ HB.out);clear hq_));replace HO_8:=am_ (Kd.R_drew HO_8.out);replace HO_12:=am_ (Kd.R_drew HO_12.out);replace BK1:=am_ (blk_drew BK1.out);replace HB:=am_ (below_drew1 HB.out);have p28:0≤(t27:Int):=of_decide_eq_true zq_;have q28:t27<(l2.length:Int):=of_decide_eq_true zq_;obtain ⟨ad28,e28,hx28_0,hx28_1,hx28_2,hx28_3,hx28_4,hx28_5,hx28_6,hx28_7,hx28_8,hx28_9,hx28_10,hx28_11⟩:=at_T79 HR2.out t27 p28 q28;have hw28_1:=hx28_1;cases e28;replace hx28_0:=zx12_ HB hx28_0 hx28_1 hx28_2 hx28_3 hx28_4 hx28_5 hx28_6 hx28_7 hx28_8 hx28_9 hx28_10 hx28_11;clear hx28_1 hx28_2 hx28_3 hx28_4 hx28_5 hx28_6 hx28_7 hx28_8 hx28_9 hx28_10 hx28_11;obtain ⟨hx28_0,hx28_1,hx28_2,hx28_3,hx28_4,hx28_5,hx28_6,hx28_7,hx28_8,hx28_9,hx28_10,hx28_11⟩:=hx28_0;replace p28:=eq_true p28;replace q28:=eq_true q28;obtain ⟨p29,q29,ad29,e29,hx29_0,hx29_1,hx29_2,hx29_3,hx29_4⟩:=zat_ (at_T39 (Kd.R_reads' HO_8.out).2.2 x17_3);obtain rfl:ad26=ad29:=(by injection e29)
         refine start_ (n:=15) (S:=fun w'=>w'.cell? ⟨(ad28.add ((t27).toNat*12)).block,(ad28.add ((t27).toNat*12)).off+1,none⟩=some (.string ((rd_T79 l2 t27).f1))∧w'.cell? (ad26.add ((x17_3).toNat*5))=some (.string ((rd_T39 t3 x17_3).f0))∧w'.cell? ⟨(ad26.add ((x17_3).toNat*5)).block,(ad26.add ((x17_3).toNat*5)).off+1,none⟩=some (.string ((rd_T39 t3 x17_3).f1))) (ds:=[]) (bt_ 15 0) (by kernel_rfl) rfl rfl ⟨(zx_ HB hw28_1:),hx29_0,hx29_1⟩ (fun hHeld=> ?_);refine with_tabW r16_Steps.tab28 r16_Steps.bits28 (fun HT_ HW_=> ?_);generalize wr.drew=w81 at HO_8 HO_12 BK1 HB hx28_0 hx28_1 hx28_10 hx28_11 hx28_2 hx28_3 hx28_4 hx28_5 hx28_6 hx28_7 hx28_8 hx28_9 hx29_0 hx29_1 hx29_2 hx29_3 hx29_4 hHeld ⊢;refine ru_ 0 HT_ ?_;refine ru_ 1 HT_ ?_;refine ru_ 2 HT_ ?_;refine ru_ 3 HT_ ?_;refine ru_ 4 HT_ ?_;refine ru_ 5 HT_ ?_;refine ru_ 6 HT_ ?_;refine ru_ 8 HT_ ?_;refine ru_ 9 HT_ ?_;refine ru_ 10 HT_ ?_;refine ru_ 11 HT_ ?_;refine rk_ 7 HT_ HW_ hHeld ?_;refine rk_ 12 HT_ HW_ hHeld ?_;refine ru_ 13 HT_ ?_;refine ru_ 14 HT_ ?_;refine done_ (done_of HT_.out (by kernel_rfl)) ?_;try go_wp2)
         ·go_roundg k3
          case measure=>have:=HK1.out;have:=HK2.out;have:=HK3.out;omega
          case rel=>exact ⟨(x12_3),(wrap64 (x17_3+1)),rf_,H',⟨by have:=HK1.out;have:=HK2.out;have:=HK3.out;omega⟩,am_ (zr_ HO_8),am_ (zr_ HO_12),am_ (zb_ BK1),⟨zl1_ HB GE1⟩⟩
         ·replace HO_8:=am_ (Kd.R_drew HO_8.out);replace HO_12:=am_ (Kd.R_drew HO_12.out);replace BK1:=am_ (blk_drew BK1.out);replace HB:=am_ (below_drew1 HB.out);obtain ⟨p30,q30,ad30,e30,hx30_0,hx30_1,hx30_2,hx30_3,hx30_4⟩:=zat_ (at_T39 (Kd.R_reads' HO_8.out).2.2 x17_3);obtain rfl:ad26=ad30:=(by injection e30);obtain ⟨p31,q31,ad31,e31,hx31_0,hx31_1,hx31_2,hx31_3,hx31_4⟩:=zat_ (at_T39 (Kd.R_reads' HO_8.out).2.2 x17_3);obtain rfl:ad26=ad31:=(by injection e31);refine start_ (n:=15) (S:=fun w'=>w'.cell? (ad26.add ((x17_3).toNat*5))=some (.string ((rd_T39 t3 x17_3).f0))∧w'.cell? ⟨(ad26.add ((x17_3).toNat*5)).block,(ad26.add ((x17_3).toNat*5)).off+1,none⟩=some (.string ((rd_T39 t3 x17_3).f1))) (ds:=[12,13]) (bt_ 15 0) (by kernel_rfl) rfl rfl ⟨hx30_0,hx30_1⟩ (fun hHeld=> ?_);refine with_tabW r16_Steps.tab29 r16_Steps.bits29 (fun HT_ HW_=> ?_);generalize w81.drew=w84 at HO_8 HO_12 BK1 HB hx30_0 hx30_1 hx30_2 hx30_3 hx30_4 hx31_0 hx31_1 hx31_2 hx31_3 hx31_4 hHeld ⊢;refine ru_ 0 HT_ ?_;refine ru_ 1 HT_ ?_;refine ru_ 2 HT_ ?_;refine ru_ 3 HT_ ?_;refine ru_ 4 HT_ ?_;refine ru_ 6 HT_ ?_;refine ru_ 7 HT_ ?_;refine ru_ 8 HT_ ?_;refine ru_ 9 HT_ ?_;refine rk_ 5 HT_ HW_ hHeld ?_;refine rk_ 10 HT_ HW_ hHeld ?_;refine ru_ 11 HT_ ?_;refine last_ (i:=12) (N:=some 157) (bt_ 15 8191) rfl rfl (one_of HT_.out (by kernel_rfl)) (by decide) (fun K hK=> ?_);refine value_ (w1:= ?_) (v:= ?_) (by rfl) rfl ?_ ?_
          rotate_left 2
          ·go_simp
           constructor
           ·rfl
           rfl
          refine hK.out _ _ ?_;clear hK K;refine no_ (N:=some 157) ?_;refine last_ (i:=13) (N:=some 158) (bt_ 15 16383) rfl rfl (one_of HT_.out (by kernel_rfl)) (by decide) (fun K hK=> ?_);refine Kd.R_append_step k76 (w0:=w) w.heap.size (by rfl) (.tmp 145) (.tmp 157) 49 76 (.agg #[(.int .i64 0),(.string ⟨#[]⟩),(.string ⟨#[]⟩),(.int .i64 0),(.int .i64 0),(.int .i64 0)]) 64 rfl Try.underlying49 info76 rfl (by decide) (by omega) u12 x12_3 (⟨3,(rd_T39 t3 x17_3).f0,(rd_T39 t3 x17_3).f1,(⟨0,0,0⟩:S37)⟩:S76) [.int .i64 3, .string ((rd_T39 t3 x17_3).f0), .string ((rd_T39 t3 x17_3).f1), .int .i64 0, .int .i64 0, .int .i64 0] (fun _=>True) (fun _=>False) rfl rfl ?aP (fun _ hk=>hk.elim) ?aF ?aO ?aB ?aS ?aL ?_;(case aP=>exact k76_mkM _ _ _ (⟨3,(rd_T39 t3 x17_3).f0,(rd_T39 t3 x17_3).f1,(⟨0,0,0⟩:S37)⟩:S76));(case aB=>exact (zl1_ HB GE1));(case aF=>exact (fun _ _=>trivial));(case aO=>exact (zr_ HO_12));(case aS=>exact (below_size (zl1_ HB GE1)));(case aL=>have:=LMc82.out;omega);intro v33 w85 ho hb hg hat;rw [←Ny32.out] at ho;have n0_:=am_ (Kd.R_over' (zr_ HO_8) (Kd.R_typed (zr_ HO_12)) (by decide) hg);have n1_:=am_ (blk_grown (zb_ BK1) hg (Kd.R_ne HO_12.out BK1.out (by decide)));have n2_:=am_ (hb);have n3_:=am_ (ho);clear HO_8 BK1 HB HO_12;have HO_8:=n0_;have BK1:=n1_;have HB:=n2_;have HO34:=n3_;clear n0_ n1_ n2_ n3_ ho hb hg hat;refine hK.out _ _ ?_;clear hK K;refine no_ (N:=some 158) ?_;refine ru_ 14 HT_ ?_;refine done_ (done_of HT_.out (by kernel_rfl)) ?_;try go_wp2
          go_roundg k3
          case measure=>have:=HK1.out;have:=HK2.out;have:=HK3.out;omega
          case rel=>exact ⟨(y32),(wrap64 (x17_3+1)),rf_,H',⟨by have:=HK1.out;have:=HK2.out;have:=HK3.out;omega⟩,am_ (zr_ HO_8),am_ (zr_ HO34),am_ (zb_ BK1),⟨zl1_ HB GE1⟩⟩
        rw [if_neg c74] at H;have c74b0:=decide_eq_false c74;clear c74;have H':=Aside0.mk H;clear H;go_wp2
        go_loopg [12,19] k3 (fun kq v12 v19 w'=> ∃(x12_4:List (S76)) (x19_4:Int),v19= .int .i64 x19_4∧Aside0 (r16_Steps.l3 kq l0 l1 l2 t3 x9_1 x12_4 x19_4=some (r1,r2))∧Aside0 (kq≤k3)∧Aside0 (Kd.R k39 39 w' w.heap.size (fun _=>True) (.slice Ao30 t3.length co30) t3)∧Aside0 (Kd.R k76 76 w' w.heap.size (fun _=>True) v12 x12_4)∧Aside0 (w'.heap[gb1]?=some (.cells #[(.slice none 0 0), .int .i64 x2001_1] 51 (0,0)))∧Aside0 (Below w.heap.size w w'))
        case atStart=>exact ⟨(x12_3),(wrap64 ((t3.length:Int) - 1)),rf_,H',⟨Nat.le_refl _⟩,am_ (zr_ HO_8),am_ (zr_ HO_12),am_ (zb_ BK1),⟨zl1_ HB GE1⟩⟩
        case round=>
         clear H';obtain ⟨x12_4,x19_4,rfl,HA,HK4,HO_8,HO_12,BK1,HB⟩:=hrel
         cases gk with
         |zero=>exact absurd HA.out (by simp [r16_Steps.l3])
         |succ k4=>
          have H:=HA.out;clear HA;simp only [r16_Steps.l3] at H;by_cases c87:x19_4≥0;rotate_left
          ·rw [if_neg c87] at H;have c87b0:decide (0≤x19_4)=false:=decide_eq_false c87;clear c87;replace H:=zbd_ H;obtain ⟨t45,A99,H⟩:=H;try dsimp only at H
           have H':=Aside0.mk H;clear H;go_wp2_with (first|((with_reducible refine gate_callee (f:=87) rfl ?_);refine gl_ (some 196) Try.func87 #[.slice A0 l0.length c0, .slice A1 l1.length c1, .slice A2 l2.length c2] ?_;(with_reducible refine (r16_goes.calls k4 _ _ l0 _ _ l1 _ _ l2 t45 _ ?side1 ?side2 ?side3 ?side4 ?side5 ?side6 A99.out).mono ?_);(case side1=>exact zc_ (Kd.C_below HR0.out HB.out));(case side2=>exact HC0.out);(case side3=>exact zc_ (Kd.C_below HR1.out HB.out));(case side4=>exact HC1.out);(case side5=>exact zc_ (Kd.C_below HR2.out HB.out));(case side6=>exact HC2.out);rintro e w100 ⟨v46,rfl,ho0,hb⟩;refine ⟨_,rfl, ?_⟩;replace HO_8:=ob_ HO_8 hb;replace HO_12:=ob_ HO_12 hb;have HO47:=am_ (Kd.R_lower ho0 (below_size (zl1_ HB GE1)));replace BK1:=bb_ BK1 hb;replace HB:=am_ (below_step (zl1_ HB GE1) hb);(try clear hb ho0)))
           go_loopg [12,21] k4 (fun kq v12 v21 w'=> ∃(x12_5:List (S76)) (x21_5:Int),v21= .int .i64 x21_5∧Aside0 (r16_Steps.l4 kq x12_5 t45 x21_5=some (r1,r2))∧Aside0 (kq≤k4)∧Aside0 (Kd.R k76 76 w' w.heap.size (fun _=>True) v12 x12_5)∧Aside0 (Kd.R Kd.string 9 w' w.heap.size (fun _=>True) v46 t45)∧Aside0 (w'.heap[gb1]?=some (.cells #[(.slice none 0 0), .int .i64 x2001_1] 51 (0,0)))∧Aside0 (Below w.heap.size w w'))
           case atStart=>exact ⟨(x12_4),(0),rf_,H',⟨Nat.le_refl _⟩,am_ (zr_ HO_12),am_ (zr_ HO47),am_ (zb_ BK1),⟨zl1_ HB GE1⟩⟩
           case round=>
            clear H';obtain ⟨x12_5,x21_5,rfl,HA,HK5,HO_12,HO_20,BK1,HB⟩:=hrel
            cases gk with
            |zero=>exact absurd HA.out (by simp [r16_Steps.l4])
            |succ k5=>
             have H:=HA.out;clear HA;simp only [r16_Steps.l4] at H;by_cases c101:x21_5<(t45.length:Int);rotate_left
             ·rw [if_neg c101] at H;have c101b0:=decide_eq_false c101;clear c101;simp only [Option.some.injEq,Prod.mk.injEq] at H;obtain ⟨rfl,rfl⟩:=H;obtain ⟨Ao106,co106,eo106⟩:=Kd.R_slice HO_20.out;subst eo106;obtain ⟨Ao107,co107,eo107⟩:=Kd.R_slice HO_12.out;subst eo107;obtain ⟨_,_,_,_⟩:=y2_ BK1;go_wp2
              refine bodyPost_ret (results_cell_row rfl _ _ gb1 51 #[.slice Ao107 x12_5.length co107, .int .i64 0] (0,0) _ rfl (zw_ BK1) Try.underlying51 rfl (by kernel_rfl)) rfl ?_;exact ⟨_,er_,zy_ HO_12 BK1,zl1_ HB GE1⟩
             rw [if_pos c101] at H;have c101b0:=decide_eq_true c101;clear c101;replace H:=zif_ H;obtain ⟨c102,H⟩:=H;replace c102:=decide_eq_true c102;replace H:=zif_ H;obtain ⟨c103,H⟩:=H;have LMc103:=Aside0.mk c103;clear c103;obtain ⟨y49,hy49⟩: ∃y_:List (S76),y_=(x12_5++ [(⟨4,rdOf ByteArray.empty t45 x21_5,(⟨#[]⟩:ByteArray),(⟨0,0,0⟩:S37)⟩:S76)]):=⟨_,rfl⟩;(first|replace H:=zsb_ hy49 H|rw [←hy49] at H);have Ny49:=Aside0.mk hy49;clear hy49;have H':=Aside0.mk H;clear H;obtain ⟨Ao104,co104,eo104⟩:=Kd.R_slice HO_20.out;subst eo104;obtain ⟨p48,q48,ad48,e48,hx48_0⟩:=zat_ (Kd.at_string (Kd.R_reads' HO_20.out).2.2 x21_5);cases e48
             go_wp2_with (first|((with_reducible refine gate_builtin (b:= .append) (xs:=#[.tmp 203, .tmp 209]) rfl ?_);at_builtin;refine Kd.R_append k76 (w0:=w) w.heap.size rfl (.tmp 203) (.tmp 209) 49 76 (.agg #[(.int .i64 0),(.string ⟨#[]⟩),(.string ⟨#[]⟩),(.int .i64 0),(.int .i64 0),(.int .i64 0)]) 64 rfl Try.underlying49 info76 rfl (by decide) (by omega) u12 x12_5 (⟨4,rdOf ByteArray.empty t45 x21_5,(⟨#[]⟩:ByteArray),(⟨0,0,0⟩:S37)⟩:S76) [.int .i64 4, .string (rdOf ByteArray.empty t45 x21_5), .string (⟨#[]⟩:ByteArray), .int .i64 0, .int .i64 0, .int .i64 0] (fun _=>True) (fun _=>False) rfl rfl ?aP (fun _ hk=>hk.elim) ?aF ?aO ?aB ?aS ?aL ?_;(case aP=>exact k76_mkM _ _ _ (⟨4,rdOf ByteArray.empty t45 x21_5,(⟨#[]⟩:ByteArray),(⟨0,0,0⟩:S37)⟩:S76));(case aB=>exact (zl1_ HB GE1));(case aF=>exact (fun _ _=>trivial));(case aO=>exact (zr_ HO_12));(case aS=>exact (below_size (zl1_ HB GE1)));(case aL=>have:=LMc103.out;omega);intro v50 w105 ho hb hg hat;rw [←Ny49.out] at ho;have n0_:=am_ (Kd.R_over' (zr_ HO_20) (Kd.R_typed (zr_ HO_12)) (by decide) hg);have n1_:=am_ (blk_grown (zb_ BK1) hg (Kd.R_ne HO_12.out BK1.out (by decide)));have n2_:=am_ (hb);have n3_:=am_ (ho);clear HO_20;clear BK1;clear HB;clear HO_12;have HO_20:=n0_;have BK1:=n1_;have HB:=n2_;have HO51:=n3_;clear n0_ n1_ n2_ n3_;clear ho hb hg hat))
             go_roundg k5
             case measure=>have:=HK1.out;have:=HK2.out;have:=HK3.out;have:=HK4.out;have:=HK5.out;omega
             case rel=>exact ⟨(y49),(wrap64 (x21_5+1)),rf_,H',⟨by have:=HK1.out;have:=HK2.out;have:=HK3.out;have:=HK4.out;have:=HK5.out;omega⟩,am_ (zr_ HO51),am_ (zr_ HO_20),am_ (zb_ BK1),⟨zl1_ HB GE1⟩⟩
          rw [if_pos c87] at H;have c87b0:decide (0≤x19_4)=true:=decide_eq_true c87;clear c87;replace H:=zif_ H;obtain ⟨c88,H⟩:=H;replace c88:=decide_eq_true c88;replace H:=zif_ H;obtain ⟨c89,H⟩:=H;replace c89:=decide_eq_true c89;replace H:=zbd_ H;obtain ⟨⟨t36,t37,t38⟩,A90,H⟩:=H;try dsimp only at H
          by_cases c91:(!(t36==((rd_T39 t3 x19_4).f2.f0))||(!(t37==((rd_T39 t3 x19_4).f2.f1))||(!(t38==((rd_T39 t3 x19_4).f2.f2)))))=true;rw [if_pos c91] at H;have c91b0:(!(t36==((rd_T39 t3 x19_4).f2.f0))||(!(t37==((rd_T39 t3 x19_4).f2.f1))||(!(t38==((rd_T39 t3 x19_4).f2.f2)))))=true:=c91;clear c91;replace H:=zif_ H;obtain ⟨c92,H⟩:=H;have LMc92:=Aside0.mk c92;clear c92;obtain ⟨y42,hy42⟩: ∃y_:List (S76),y_=(x12_4++ [(⟨2,(rd_T39 t3 x19_4).f0,(⟨#[]⟩:ByteArray),(⟨(rd_T39 t3 x19_4).f2.f0,(rd_T39 t3 x19_4).f2.f1,(rd_T39 t3 x19_4).f2.f2⟩:S37)⟩:S76)]):=⟨_,rfl⟩;(first|replace H:=zsb_ hy42 H|rw [←hy42] at H);have Ny42:=Aside0.mk hy42;clear hy42;have H':=Aside0.mk H;clear H;rotate_left;rw [if_neg c91] at H;have c91b0:(!(t36==((rd_T39 t3 x19_4).f2.f0))||(!(t37==((rd_T39 t3 x19_4).f2.f1))||(!(t38==((rd_T39 t3 x19_4).f2.f2)))))=false:=by simpa using c91
          clear c91;have H':=Aside0.mk H;clear H;rotate_left
          all_goals (
          try go_wp2
          replace HO_8:=am_ (Kd.R_drew HO_8.out);replace HO_12:=am_ (Kd.R_drew HO_12.out);replace BK1:=am_ (blk_drew BK1.out);replace HB:=am_ (below_drew1 HB.out);obtain ⟨p35,q35,ad35,e35,hx35_0,hx35_1,hx35_2,hx35_3,hx35_4⟩:=zat_ (at_T39 (Kd.R_reads' HO_8.out).2.2 x19_4);cases e35;obtain ⟨p39,q39,ad39,e39,hx39_0,hx39_1,hx39_2,hx39_3,hx39_4⟩:=zat_ (at_T39 (Kd.R_reads' HO_8.out).2.2 x19_4);obtain rfl:ad35=ad39:=(by injection e39);refine start_ (n:=13) (S:=fun w'=>w'.cell? (ad35.add ((x19_4).toNat*5))=some (.string ((rd_T39 t3 x19_4).f0))∧w'.cell? ⟨(ad35.add ((x19_4).toNat*5)).block,(ad35.add ((x19_4).toNat*5)).off+1,none⟩=some (.string ((rd_T39 t3 x19_4).f1))∧w'.cell? ⟨(ad35.add ((x19_4).toNat*5)).block,(ad35.add ((x19_4).toNat*5)).off+2,none⟩=some (.int .i64 ((rd_T39 t3 x19_4).f2.f0))∧w'.cell? ⟨(ad35.add ((x19_4).toNat*5)).block,(ad35.add ((x19_4).toNat*5)).off+3,none⟩=some (.int .i64 ((rd_T39 t3 x19_4).f2.f1))∧w'.cell? ⟨(ad35.add ((x19_4).toNat*5)).block,(ad35.add ((x19_4).toNat*5)).off+4,none⟩=some (.int .i64 ((rd_T39 t3 x19_4).f2.f2))) (ds:=[]) (bt_ 13 0) (by kernel_rfl) rfl rfl ⟨hx35_0,hx35_1,hx35_2,hx35_3,hx35_4⟩ (fun hHeld=> ?_);refine with_tabW r16_Steps.tab33 r16_Steps.bits33 (fun HT_ HW_=> ?_);generalize wr.drew=w93 at HO_8 HO_12 BK1 HB hx35_0 hx35_1 hx35_2 hx35_3 hx35_4 hx39_0 hx39_1 hx39_2 hx39_3 hx39_4 hHeld ⊢;refine ru_ 0 HT_ ?_;refine ru_ 1 HT_ ?_;refine ru_ 2 HT_ ?_;refine ru_ 4 HT_ ?_;refine ru_ 5 HT_ ?_;refine ru_ 7 HT_ ?_;refine ru_ 8 HT_ ?_
          refine ru_ 9 HT_ ?_;refine ru_ 10 HT_ ?_;refine rk_ 3 HT_ HW_ hHeld ?_;refine rk_ 11 HT_ HW_ hHeld ?_;refine on_ (i:=6) (N:=some 172) (bt_ 13 4095) HT_ (fun K hK=> ?_);refine gs_ Try.func86 #[.agg #[.string ((rd_T39 t3 x19_4).f0), .string ((rd_T39 t3 x19_4).f1), .int .i64 ((rd_T39 t3 x19_4).f2.f0), .int .i64 ((rd_T39 t3 x19_4).f2.f1), .int .i64 ((rd_T39 t3 x19_4).f2.f2)], .slice A2 l2.length c2, .bool x9_1] ?_
          with_reducible refine (r16_up.calls k4 ((rd_T39 t3 x19_4).f0) ((rd_T39 t3 x19_4).f1) ((rd_T39 t3 x19_4).f2.f0) ((rd_T39 t3 x19_4).f2.f1) ((rd_T39 t3 x19_4).f2.f2) _ _ l2 x9_1 t36 t37 t38 _ ?side1 ?side2 A90.out).mono ?_
          (case side1=>exact zc_ (Kd.C_below HR2.out HB.out));(case side2=>exact HC2.out);rintro e w94 ⟨rfl,hb⟩;have HS_:=And.intro hb hHeld;refine ⟨_,rfl, ?_⟩;replace HO_8:=ob_ HO_8 hb;replace HO_12:=ob_ HO_12 hb;replace BK1:=bb_ BK1 hb;replace HB:=am_ (below_step (zl1_ HB GE1) hb);(try clear hb);refine hK.out _ _ (hk_ HS_) (fun hHeld=> ?_);clear hK K;refine no_ (N:=some 172) ?_;refine ru_ 12 HT_ ?_;refine done_ (done_of HT_.out (by kernel_rfl)) ?_;try go_wp2)
          ·replace HO_8:=am_ (Kd.R_drew HO_8.out);replace HO_12:=am_ (Kd.R_drew HO_12.out);replace BK1:=am_ (blk_drew BK1.out);replace HB:=am_ (below_drew1 HB.out);obtain ⟨p40,q40,ad40,e40,hx40_0,hx40_1,hx40_2,hx40_3,hx40_4⟩:=zat_ (at_T39 (Kd.R_reads' HO_8.out).2.2 x19_4);obtain rfl:ad35=ad40:=(by injection e40);obtain ⟨p41,q41,ad41,e41,hx41_0,hx41_1,hx41_2,hx41_3,hx41_4⟩:=zat_ (at_T39 (Kd.R_reads' HO_8.out).2.2 x19_4);obtain rfl:ad35=ad41:=(by injection e41);refine start_ (n:=15) (S:=fun w'=>w'.cell? (ad35.add ((x19_4).toNat*5))=some (.string ((rd_T39 t3 x19_4).f0))∧w'.cell? ⟨(ad35.add ((x19_4).toNat*5)).block,(ad35.add ((x19_4).toNat*5)).off+2,none⟩=some (.int .i64 ((rd_T39 t3 x19_4).f2.f0))∧w'.cell? ⟨(ad35.add ((x19_4).toNat*5)).block,(ad35.add ((x19_4).toNat*5)).off+3,none⟩=some (.int .i64 ((rd_T39 t3 x19_4).f2.f1))∧w'.cell? ⟨(ad35.add ((x19_4).toNat*5)).block,(ad35.add ((x19_4).toNat*5)).off+4,none⟩=some (.int .i64 ((rd_T39 t3 x19_4).f2.f2))) (ds:=[12,13]) (bt_ 15 0) (by kernel_rfl) rfl rfl ⟨hx40_0,hx40_2,hx40_3,hx40_4⟩ (fun hHeld=> ?_);refine with_tabW r16_Steps.tab34 r16_Steps.bits34 (fun HT_ HW_=> ?_);generalize w94.drew=w95 at HO_8 HO_12 BK1 HB hx40_0 hx40_1 hx40_2 hx40_3 hx40_4 hx41_0 hx41_1 hx41_2 hx41_3 hx41_4 hHeld ⊢;refine ru_ 0 HT_ ?_;refine ru_ 1 HT_ ?_;refine ru_ 2 HT_ ?_;refine ru_ 3 HT_ ?_;refine ru_ 4 HT_ ?_;refine ru_ 6 HT_ ?_;refine ru_ 7 HT_ ?_;refine ru_ 8 HT_ ?_;refine ru_ 9 HT_ ?_;refine rk_ 5 HT_ HW_ hHeld ?_;refine rk_ 10 HT_ HW_ hHeld ?_
           refine ru_ 11 HT_ ?_;refine last_ (i:=12) (N:=some 191) (bt_ 15 8191) rfl rfl (one_of HT_.out (by kernel_rfl)) (by decide) (fun K hK=> ?_);refine value_ (w1:= ?_) (v:= ?_) (by rfl) rfl ?_ ?_
           rotate_left 2
           ·go_simp
            constructor
            ·rfl
            rfl
           refine hK.out _ _ ?_;clear hK K;refine no_ (N:=some 191) ?_;refine last_ (i:=13) (N:=some 192) (bt_ 15 16383) rfl rfl (one_of HT_.out (by kernel_rfl)) (by decide) (fun K hK=> ?_);refine Kd.R_append_step k76 (w0:=w) w.heap.size (by rfl) (.tmp 179) (.tmp 191) 49 76 (.agg #[(.int .i64 0),(.string ⟨#[]⟩),(.string ⟨#[]⟩),(.int .i64 0),(.int .i64 0),(.int .i64 0)]) 64 rfl Try.underlying49 info76 rfl (by decide) (by omega) u12 x12_4 (⟨2,(rd_T39 t3 x19_4).f0,(⟨#[]⟩:ByteArray),(⟨(rd_T39 t3 x19_4).f2.f0,(rd_T39 t3 x19_4).f2.f1,(rd_T39 t3 x19_4).f2.f2⟩:S37)⟩:S76) [.int .i64 2, .string ((rd_T39 t3 x19_4).f0), .string (⟨#[]⟩:ByteArray), .int .i64 ((rd_T39 t3 x19_4).f2.f0), .int .i64 ((rd_T39 t3 x19_4).f2.f1), .int .i64 ((rd_T39 t3 x19_4).f2.f2)] (fun _=>True) (fun _=>False) rfl rfl ?aP (fun _ hk=>hk.elim) ?aF ?aO ?aB ?aS ?aL ?_;(case aP=>exact k76_mkM _ _ _ (⟨2,(rd_T39 t3 x19_4).f0,(⟨#[]⟩:ByteArray),(⟨(rd_T39 t3 x19_4).f2.f0,(rd_T39 t3 x19_4).f2.f1,(rd_T39 t3 x19_4).f2.f2⟩:S37)⟩:S76));(case aB=>exact (zl1_ HB GE1));(case aF=>exact (fun _ _=>trivial));(case aO=>exact (zr_ HO_12));(case aS=>exact (below_size (zl1_ HB GE1)));(case aL=>have:=LMc92.out;omega);intro v43 w96 ho hb hg hat;rw [←Ny42.out] at ho;have n0_:=am_ (Kd.R_over' (zr_ HO_8) (Kd.R_typed (zr_ HO_12)) (by decide) hg);have n1_:=am_ (blk_grown (zb_ BK1) hg (Kd.R_ne HO_12.out BK1.out (by decide)));have n2_:=am_ (hb);have n3_:=am_ (ho);clear HO_8 BK1 HB HO_12;have HO_8:=n0_;have BK1:=n1_;have HB:=n2_;have HO44:=n3_
           clear n0_ n1_ n2_ n3_ ho hb hg hat;refine hK.out _ _ ?_;clear hK K;refine no_ (N:=some 192) ?_;refine ru_ 14 HT_ ?_;refine done_ (done_of HT_.out (by kernel_rfl)) ?_;try go_wp2
           go_roundg k4
           case measure=>have:=HK1.out;have:=HK2.out;have:=HK3.out;have:=HK4.out;omega
           case rel=>exact ⟨(y42),(wrap64 (x19_4 - 1)),rf_,H',⟨by have:=HK1.out;have:=HK2.out;have:=HK3.out;have:=HK4.out;omega⟩,am_ (zr_ HO_8),am_ (zr_ HO44),am_ (zb_ BK1),⟨zl1_ HB GE1⟩⟩
          ·go_roundg k4
           case measure=>have:=HK1.out;have:=HK2.out;have:=HK3.out;have:=HK4.out;omega
           case rel=>exact ⟨(x12_4),(wrap64 (x19_4 - 1)),rf_,H',⟨by have:=HK1.out;have:=HK2.out;have:=HK3.out;have:=HK4.out;omega⟩,am_ (zr_ HO_8),am_ (zr_ HO_12),am_ (zb_ BK1),⟨zl1_ HB GE1⟩⟩
 ·refine bodyPost_ret (results_cell_row rfl _ _ gb1 51 #[.slice none 0 0, .int .i64 t2] (0,0) _ rfl (zw_ BK1) Try.underlying51 rfl (by kernel_rfl)) rfl ?_;exact ⟨_,er_,by first|exact Kd.R_nil _ _ _ _ _|exact Kd.N_nil _ _ _ _ _|exact Kd.V_nil _ _ _ _ _|exact Kd.Q_nil _ _ _ _ _|exact Kd.S_nil _ _ _ _ _,zl1_ HB GE1⟩

def apply_going_next.f (l0_0:List (S84)) (l0_1:List (S76)) (a0_2:Int):Option (Int×ByteArray×ByteArray×Int×Int×Int×Bool):=if a0_2<0 then (some (0,(⟨#[]⟩:ByteArray),(⟨#[]⟩:ByteArray),0,0,0,false)) else (if a0_2≥(l0_1.length:Int) then (some (0,(⟨#[]⟩:ByteArray),(⟨#[]⟩:ByteArray),0,0,0,false)) else (if 0≤a0_2 then (if a0_2<(l0_1.length:Int) then (some ((rd_T76 l0_1 a0_2).f0,(rd_T76 l0_1 a0_2).f1,(rd_T76 l0_1 a0_2).f2,(rd_T76 l0_1 a0_2).f3.f0,(rd_T76 l0_1 a0_2).f3.f1,(rd_T76 l0_1 a0_2).f3.f2,true)) else (none)) else (none)))
set_option maxHeartbeats 8000000 in
set_option maxRecDepth 100000 in
theorem apply_going_next.calls (A0_0:Option Addr) (c0_0:Nat) (l0_0:List (S84)) (A0_1:Option Addr) (c0_1:Nat) (l0_1:List (S76)) (a0_2:Int) (r1:Int) (r2:ByteArray) (r3:ByteArray) (r4:Int) (r5:Int) (r6:Int) (r7:Bool) (w:World) (hr0_0:Kd.C k84 w A0_0 l0_0.length l0_0) (hc0_0:l0_0.length≤c0_0) (hr0_1:Kd.C k76 w A0_1 l0_1.length l0_1) (hc0_1:l0_1.length≤c0_1) (h:apply_going_next.f l0_0 l0_1 a0_2=some (r1,r2,r3,r4,r5,r6,r7)):
  Calls Try.prog 103 #[.agg #[.slice A0_0 l0_0.length c0_0, .slice A0_1 l0_1.length c0_1, .int .i64 a0_2]] w fun e w'=>e= .returned (.tuple #[.agg #[.int .i64 r1, .string r2, .string r3, .int .i64 r4, .int .i64 r5, .int .i64 r6], .bool r7])∧Below w.heap.size w w':=by
 have hu150:=Try.underlying150;have hu76:=Try.underlying76;have HR0_0:=Aside0.mk hr0_0;have HC0_0:=Aside0.mk hc0_0;clear hr0_0 hc0_0;have HR0_1:=Aside0.mk hr0_1;have HC0_1:=Aside0.mk hc0_1;clear hr0_1 hc0_1;have HB:=am_ (Below.refl w.heap.size w);have H:(if a0_2<0 then (some (0,(⟨#[]⟩:ByteArray),(⟨#[]⟩:ByteArray),0,0,0,false)) else (if a0_2≥(l0_1.length:Int) then (some (0,(⟨#[]⟩:ByteArray),(⟨#[]⟩:ByteArray),0,0,0,false)) else (if 0≤a0_2 then (if a0_2<(l0_1.length:Int) then (some ((rd_T76 l0_1 a0_2).f0,(rd_T76 l0_1 a0_2).f1,(rd_T76 l0_1 a0_2).f2,(rd_T76 l0_1 a0_2).f3.f0,(rd_T76 l0_1 a0_2).f3.f1,(rd_T76 l0_1 a0_2).f3.f2,true)) else (none)) else (none))))=some (r1,r2,r3,r4,r5,r6,r7):=h;clear h;by_cases c2:a0_2<0;rw [if_pos c2] at H;have c2b0:=decide_eq_true c2;clear c2;simp only [Option.some.injEq,Prod.mk.injEq] at H;obtain ⟨rfl,rfl,rfl,rfl,rfl,rfl,rfl⟩:=H;rotate_left;rw [if_neg c2] at H;have c2b0:=decide_eq_false c2;clear c2;by_cases c8:a0_2≥(l0_1.length:Int);rw [if_pos c8] at H;have c8b0:decide ((l0_1.length:Int)≤a0_2)=true:=decide_eq_true c8;clear c8;simp only [Option.some.injEq,Prod.mk.injEq] at H;obtain ⟨rfl,rfl,rfl,rfl,rfl,rfl,rfl⟩:=H;rotate_left;rw [if_neg c8] at H;have c8b0:decide ((l0_1.length:Int)≤a0_2)=false:=decide_eq_false c8;clear c8;by_cases c14:0≤a0_2
 case neg=>
  rw [if_neg c14] at H;exact absurd H (by simp)

 rw [if_pos c14] at H;replace c14:=decide_eq_true c14;replace H:=zif_ H;obtain ⟨c15,H⟩:=H;replace c15:=decide_eq_true c15;simp only [Option.some.injEq,Prod.mk.injEq] at H;obtain ⟨rfl,rfl,rfl,rfl,rfl,rfl,rfl⟩:=H;rotate_left
 all_goals (
 go_enter Try.func103,Try.ntmps103
 go_wp2_with (first|((with_reducible refine gate_dst (N:=1) rfl ?_);(try (refine gate_guard (by rfl) ?_;dsimp only));refine bx_ (N:=1) (cs:=#[.slice A0_0 l0_0.length c0_0, .slice A0_1 l0_1.length c0_1, .int .i64 a0_2]) (t:=150) ?_;intro gb1 hg w3 hbox hb;have BK1:=am_ (hbox);have GE1:=am_ ((zg0_ HB hg:w.heap.size≤gb1));replace HB:=am_ (below_step (zl0_ HB) hb);clear hb hbox hg)|((with_reducible refine gate_dst (N:=2) rfl ?_);(try (refine gate_guard (by rfl) ?_;dsimp only));refine bx_ (N:=2) (cs:=#[.int .i64 0, .string (⟨#[]⟩:ByteArray), .string (⟨#[]⟩:ByteArray), .int .i64 0, .int .i64 0, .int .i64 0]) (t:=76) ?_;intro gb2 hg w4 hbox hb;have BK2:=am_ (hbox);have GE2:=am_ ((zg1_ HB GE1 hg:w.heap.size≤gb2));replace HB:=am_ (below_step (zl1_ HB GE1) hb);have NB1_2:=am_ ((zn_ BK1 hg:gb1≠gb2));have NB2_1:=am_ ((zm_ BK1 hg:gb2≠gb1));replace BK1:=bb_ BK1 hb;clear hb hbox hg;have:=NB1_2.out;have:=NB2_1.out;obtain ⟨_,_,_,_,_,_⟩:=y3_ BK1;(try (try (have p3:0≤(a0_2:Int):=of_decide_eq_true zq_;have q3:a0_2<(l0_1.length:Int):=of_decide_eq_true zq_;obtain ⟨ad3,e3,hx3_0,hx3_1,hx3_2,hx3_3,hx3_4,hx3_5⟩:=at_T76 HR0_1.out a0_2 p3 q3;cases e3;replace hx3_0:=zx6_ HB hx3_0 hx3_1 hx3_2 hx3_3 hx3_4 hx3_5;clear hx3_1 hx3_2 hx3_3 hx3_4 hx3_5;obtain ⟨hx3_0,hx3_1,hx3_2,hx3_3,hx3_4,hx3_5⟩:=hx3_0;replace p3:=eq_true p3;replace q3:=eq_true q3)));obtain ⟨_,_,_,_,_,_⟩:=x6_ BK2;obtain ⟨_,_,_,_,_,_⟩:=ff6_ BK2)))
 ·refine bodyPost_ret (results_ct rfl _ _ gb2 76 #[.int .i64 0, .string (⟨#[]⟩:ByteArray), .string (⟨#[]⟩:ByteArray), .int .i64 0, .int .i64 0, .int .i64 0] (0,0) _ rfl (zw_ BK2) Try.underlying76 rfl (by kernel_rfl)) rfl ?_;exact ⟨er_,zl2_ HB GE1 GE2⟩
 ·refine bodyPost_ret (results_ct rfl _ _ gb2 76 #[.int .i64 0, .string (⟨#[]⟩:ByteArray), .string (⟨#[]⟩:ByteArray), .int .i64 0, .int .i64 0, .int .i64 0] (0,0) _ rfl (zw_ BK2) Try.underlying76 rfl (by kernel_rfl)) rfl ?_;exact ⟨er_,zl2_ HB GE1 GE2⟩
 ·refine bodyPost_ret (results_ct rfl _ _ gb2 76 #[.int .i64 ((rd_T76 l0_1 a0_2).f0), .string ((rd_T76 l0_1 a0_2).f1), .string ((rd_T76 l0_1 a0_2).f2), .int .i64 ((rd_T76 l0_1 a0_2).f3.f0), .int .i64 ((rd_T76 l0_1 a0_2).f3.f1), .int .i64 ((rd_T76 l0_1 a0_2).f3.f2)] (0,0) _ rfl (zw_ BK2) Try.underlying76 rfl (by kernel_rfl)) rfl ?_;exact ⟨er_,zl2_ HB GE1 GE2⟩
def apply_Next.f (l0_0:List (S84)) (l0_1:List (S76)) (a0_2:Int):Option (Int×ByteArray×ByteArray×Int×Int×Int×Bool):=(apply_going_next.f l0_0 l0_1 a0_2).bind fun bt3=>(some (bt3.1,bt3.2.1,bt3.2.2.1,bt3.2.2.2.1,bt3.2.2.2.2.1,bt3.2.2.2.2.2.1,bt3.2.2.2.2.2.2))
set_option maxHeartbeats 8000000 in
set_option maxRecDepth 100000 in
theorem apply_Next.calls (A0_0:Option Addr) (c0_0:Nat) (l0_0:List (S84)) (A0_1:Option Addr) (c0_1:Nat) (l0_1:List (S76)) (a0_2:Int) (r1:Int) (r2:ByteArray) (r3:ByteArray) (r4:Int) (r5:Int) (r6:Int) (r7:Bool) (w:World) (hr0_0:Kd.C k84 w A0_0 l0_0.length l0_0) (hc0_0:l0_0.length≤c0_0) (hr0_1:Kd.C k76 w A0_1 l0_1.length l0_1) (hc0_1:l0_1.length≤c0_1) (h:apply_Next.f l0_0 l0_1 a0_2=some (r1,r2,r3,r4,r5,r6,r7)):
  Calls Try.prog 59 #[.agg #[.slice A0_0 l0_0.length c0_0, .slice A0_1 l0_1.length c0_1, .int .i64 a0_2]] w fun e w'=>e= .returned (.tuple #[.agg #[.int .i64 r1, .string r2, .string r3, .int .i64 r4, .int .i64 r5, .int .i64 r6], .bool r7])∧Below w.heap.size w w':=by
 have hu63:=Try.underlying63;have hu76:=Try.underlying76;have hu150:=Try.underlying150;have HR0_0:=Aside0.mk hr0_0;have HC0_0:=Aside0.mk hc0_0;clear hr0_0 hc0_0;have HR0_1:=Aside0.mk hr0_1;have HC0_1:=Aside0.mk hc0_1;clear hr0_1 hc0_1;have HB:=am_ (Below.refl w.heap.size w);have H:((apply_going_next.f l0_0 l0_1 a0_2).bind fun bt3=>(some (bt3.1,bt3.2.1,bt3.2.2.1,bt3.2.2.2.1,bt3.2.2.2.2.1,bt3.2.2.2.2.2.1,bt3.2.2.2.2.2.2)))=some (r1,r2,r3,r4,r5,r6,r7):=h;clear h;replace H:=zbd_ H;obtain ⟨⟨t3,t4,t5,t6,t7,t8,t9⟩,A2,H⟩:=H;try dsimp only at H
 simp only [Option.some.injEq,Prod.mk.injEq] at H;obtain ⟨rfl,rfl,rfl,rfl,rfl,rfl,rfl⟩:=H;go_enter Try.func59,Try.ntmps59
 go_wp2_with (first|((with_reducible refine gate_dst (N:=1) rfl ?_);refine bx_ (N:=1) (cs:=#[.slice A0_0 l0_0.length c0_0, .slice A0_1 l0_1.length c0_1, .int .i64 a0_2]) (t:=63) ?_;intro gb1 hg w3 hbox hb;have BK1:=am_ (hbox);have GE1:=am_ ((zg0_ HB hg:w.heap.size≤gb1));replace HB:=am_ (below_step (zl0_ HB) hb);clear hb hbox hg)|((with_reducible refine gate_dst (N:=2) rfl ?_);refine bx_ (N:=2) (cs:=#[.int .i64 0, .string (⟨#[]⟩:ByteArray), .string (⟨#[]⟩:ByteArray), .int .i64 0, .int .i64 0, .int .i64 0]) (t:=76) ?_;intro gb2 hg w4 hbox hb;have BK2:=am_ (hbox);have GE2:=am_ ((zg1_ HB GE1 hg:w.heap.size≤gb2));replace HB:=am_ (below_step (zl1_ HB GE1) hb);have NB1_2:=am_ ((zn_ BK1 hg:gb1≠gb2));have NB2_1:=am_ ((zm_ BK1 hg:gb2≠gb1));replace BK1:=bb_ BK1 hb;clear hb hbox hg;have:=NB1_2.out;have:=NB2_1.out;obtain ⟨_,_,_⟩:=x3_ BK1;obtain ⟨_,_,_⟩:=ff3_ BK1)|((with_reducible refine gate_callee (f:=103) rfl ?_);refine gl_ (some 6) Try.func103 #[.agg #[.slice A0_0 l0_0.length c0_0, .slice A0_1 l0_1.length c0_1, .int .i64 a0_2]] ?_;(with_reducible refine (apply_going_next.calls _ _ l0_0 _ _ l0_1 a0_2 t3 t4 t5 t6 t7 t8 t9 _ ?side1 ?side2 ?side3 ?side4 A2.out).mono ?_);(case side1=>exact zc_ (Kd.C_below HR0_0.out HB.out));(case side2=>exact HC0_0.out);(case side3=>exact zc_ (Kd.C_below HR0_1.out HB.out));(case side4=>exact HC0_1.out);rintro e w7 ⟨rfl,hb⟩;refine ⟨_,rfl, ?_⟩;replace BK1:=bb_ BK1 hb;replace BK2:=am_ (blk_below (g:=gb2) (o:= .cells #[.int .i64 0, .string (⟨#[]⟩:ByteArray), .string (⟨#[]⟩:ByteArray), .int .i64 0, .int .i64 0, .int .i64 0] 76 (0,0)) (zb_ BK2) hb);replace HB:=am_ (below_step (zl2_ HB GE1 GE2) hb);(try clear hb);obtain ⟨_,_,_,_,_,_⟩:=x6_ BK2;obtain ⟨_,_,_,_,_,_⟩:=ff6_ BK2))
 refine bodyPost_ret (results_ct rfl _ _ gb2 76 #[.int .i64 t3, .string t4, .string t5, .int .i64 t6, .int .i64 t7, .int .i64 t8] (0,0) _ rfl (zw_ BK2) Try.underlying76 rfl (by kernel_rfl)) rfl ?_;exact ⟨er_,zl2_ HB GE1 GE2⟩

def slices_Clone_Item.f (l0:List (S79)):Option (List (S79)):=if l0.length<1256584717458 then some l0 else none
set_option maxHeartbeats 8000000 in
set_option maxRecDepth 100000 in
theorem slices_Clone_Item.calls (A0:Option Addr) (c0:Nat) (l0:List (S79)) (r:List (S79)) (w:World) (hr0:Kd.C k79 w A0 l0.length l0) (hc0:l0.length≤c0) (h:slices_Clone_Item.f l0=some r):
    Calls Try.prog 88 #[.slice A0 l0.length c0] w fun e w'=> ∃v0_:Value,e= .returned (v0_)∧Kd.R k79 79 w' w.heap.size (fun _=>True) v0_ r∧Below w.heap.size w w':=by
  have hlim:l0.length<1256584717458∧l0=r:=by
    unfold slices_Clone_Item.f at h
    split at h
    · exact ⟨by assumption,Option.some.inj h⟩
    cases h
  obtain ⟨hlim,rfl⟩:=hlim;have hnil:=fun (W:World) (n c:Nat)=>Lib.run_eql_slice_nil (P:=Try.prog) W 46 79 A0 n c 0 0 Try.underlying46
  cases A0 with
  | none =>
    have hl:l0=[]:=by
      cases l0 with
      |nil=>rfl
      |cons x l=>exact absurd (hr0.2.2 (by simp)) (by simp)
    subst hl;clear hr0;go_enter Try.func88,Try.ntmps88;go_wp2
    go_ret
    exact ⟨_,rfl,Kd.R_nil _ _ _ _ _,Below.refl _ _⟩
  | some ad =>
    have HR0:=Aside0.mk hr0;have HC0:=Aside0.mk hc0;have LM:=Aside0.mk hlim;clear hr0 hc0 hlim h;have HB:=am_ (Below.refl w.heap.size w);go_enter Try.func88,Try.ntmps88
    go_wp2_with (first|((with_reducible refine gate_dst (N:=5) rfl ?_);refine Kd.R_lit k79 _ 79 ?hg (N:=5) ?hd (xs:=([]:List (S79))) (inner:=[]) (ok:=fun _=>True) (okp:=fun _=>True) ?hr ?hp (fun _ hk=>hk) trivial (Below.refl _ _) (Nat.le_refl _) (by simp) ?_;(case hd=>rfl);(case hg=>rfl);(case hr=>first|(go_simp;done)|(go_simp;rfl));(case hp=>exact (Reps.none _ _));intro v2 w3 ho4 hb hg_ hnew_;clear hg_ hnew_;have HO3:=am_ (Kd.R_lower ho4 (below_size HB.out));replace HB:=am_ (below_step HB.out hb);clear hb ho4)|((with_reducible refine gate_builtin (b:= .append) (xs:=#[.tmp 5, .tmp 6]) rfl ?_);at_builtin;refine Kd.R_append_rows k79 (w0:=w) w.heap.size rfl (.tmp 5) (.tmp 6) 46 79 (.agg #[(.string ⟨#[]⟩),(.string ⟨#[]⟩),(.int .i64 0),(.int .i64 0),(.int .i64 0),(.int .i64 0),(.int .i64 0),(.int .i64 0),(.int .i64 0),(.int .i64 0),(.int .i64 0),(.int .i64 0)]) 112 rfl Try.underlying46 info79 rfl (by decide) (by omega) v2 [] l0 _ _ _ (fun _=>True) (fun _=>False) rfl rfl ?aO ?aR (fun _ _ h=>h) (fun _ h=>h.elim) ?aF ?aB ?aS ?aL ?_;(case aR=>exact (Kd.C_below HR0.out HB.out));(case aB=>exact HB.out);(case aF=>exact (fun _ _=>trivial));(case aO=>exact HO3.out);(case aS=>exact (below_size HB.out));(case aL=>have:=LM.out;simp;omega);intro v5 w5 ho hb hg hat;have n0_:=am_ (hb);have n1_:=am_ (ho);clear HB;clear HO3;have HB:=n0_;have HO6:=n1_;clear n0_ n1_;clear ho hb hg hat))
    go_ret
    exact ⟨_,rfl,HO6.out,HB.out⟩


def vec_Le.f (a0_0:Int) (a0_1:Int) (a0_2:Int) (a1_0:Int) (a1_1:Int) (a1_2:Int):Option (Bool):=if a0_0≤a1_0 then (if a0_1≤a1_1 then (some (decide (a0_2≤a1_2))) else (some false)) else (some false)
set_option maxHeartbeats 8000000 in
set_option maxRecDepth 100000 in
theorem vec_Le.calls (a0_0:Int) (a0_1:Int) (a0_2:Int) (a1_0:Int) (a1_1:Int) (a1_2:Int) (r:Bool) (w:World) (h:vec_Le.f a0_0 a0_1 a0_2 a1_0 a1_1 a1_2=some r):
  Calls Try.prog 114 #[.agg #[.int .i64 a0_0, .int .i64 a0_1, .int .i64 a0_2], .agg #[.int .i64 a1_0, .int .i64 a1_1, .int .i64 a1_2]] w fun e w'=>e= .returned (.bool r)∧Below w.heap.size w w':=by
 have hu37:=Try.underlying37;have HB:=am_ (Below.refl w.heap.size w);have H:(if a0_0≤a1_0 then (if a0_1≤a1_1 then (some (decide (a0_2≤a1_2))) else (some false)) else (some false))=some r:=h;clear h;by_cases c3:a0_0≤a1_0;rw [if_pos c3] at H;have c3b0:=decide_eq_true c3;clear c3;by_cases c4:a0_1≤a1_1;rw [if_pos c4] at H;have c4b0:=decide_eq_true c4;clear c4;obtain rfl:=Option.some.inj H;rotate_left;rw [if_neg c4] at H;have c4b0:=decide_eq_false c4;clear c4;obtain rfl:=Option.some.inj H;rotate_left;rw [if_neg c3] at H;have c3b0:=decide_eq_false c3;clear c3;obtain rfl:=Option.some.inj H;rotate_left
 all_goals (
 go_enter Try.func114,Try.ntmps114;go_wp2_with (first|((with_reducible refine gate_dst (N:=2) rfl ?_);refine bx_ (N:=2) (cs:=#[.int .i64 a0_0, .int .i64 a0_1, .int .i64 a0_2]) (t:=37) ?_;intro gb1 hg w5 hbox hb;have BK1:=am_ (hbox);have GE1:=am_ ((zg0_ HB hg:w.heap.size≤gb1));replace HB:=am_ (below_step (zl0_ HB) hb);clear hb hbox hg)|((with_reducible refine gate_dst (N:=3) rfl ?_);refine bx_ (N:=3) (cs:=#[.int .i64 a1_0, .int .i64 a1_1, .int .i64 a1_2]) (t:=37) ?_;intro gb2 hg w6 hbox hb;have BK2:=am_ (hbox);have GE2:=am_ ((zg1_ HB GE1 hg:w.heap.size≤gb2));replace HB:=am_ (below_step (zl1_ HB GE1) hb);have NB1_2:=am_ ((zn_ BK1 hg:gb1≠gb2));have NB2_1:=am_ ((zm_ BK1 hg:gb2≠gb1));replace BK1:=bb_ BK1 hb;clear hb hbox hg;have:=NB1_2.out;have:=NB2_1.out;obtain ⟨_,_,_,_,_,_⟩:=y3_ BK1;obtain ⟨_,_,_⟩:=x3_ BK2;obtain ⟨_,_,_⟩:=ff3_ BK2))
 go_ret)
 ·exact ⟨er_,zl2_ HB GE1 GE2⟩
 ·exact ⟨er_,zl2_ HB GE1 GE2⟩
 ·exact ⟨er_,zl2_ HB GE1 GE2⟩

def vec_Most.f:Option (Int×Int×Int):=some (1099511627776,1099511627776,1099511627776)
set_option maxHeartbeats 8000000 in
set_option maxRecDepth 100000 in
theorem vec_Most.calls (r1:Int) (r2:Int) (r3:Int) (w:World) (h:vec_Most.f=some (r1,r2,r3)):
  Calls Try.prog 125 #[] w fun e w'=>e= .returned (.agg #[.int .i64 r1, .int .i64 r2, .int .i64 r3])∧Below w.heap.size w w':=by
 have hu37:=Try.underlying37;have HB:=am_ (Below.refl w.heap.size w);have H:(some (1099511627776,1099511627776,1099511627776))=some (r1,r2,r3):=h;clear h;simp only [Option.some.injEq,Prod.mk.injEq] at H;obtain ⟨rfl,rfl,rfl⟩:=H;go_enter Try.func125,Try.ntmps125;go_wp2_with (first|((with_reducible refine gate_dst (N:=0) rfl ?_);refine bx_ (N:=0) (cs:=#[.int .i64 0, .int .i64 0, .int .i64 0]) (t:=37) ?_;intro gb1 hg w1 hbox hb;have BK1:=am_ (hbox);have GE1:=am_ ((zg0_ HB hg:w.heap.size≤gb1));replace HB:=am_ (below_step (zl0_ HB) hb);clear hb hbox hg;obtain ⟨_,_,_⟩:=x3_ BK1;obtain ⟨_,_,_⟩:=ff3_ BK1))
 refine bodyPost_ret (results_cell_row rfl _ _ gb1 37 #[.int .i64 1099511627776, .int .i64 1099511627776, .int .i64 1099511627776] (0,0) _ rfl (zw_ BK1) Try.underlying37 rfl (by kernel_rfl)) rfl ?_;exact ⟨er_,zl1_ HB GE1⟩

def vec_May.f (a0_0:Int) (a0_1:Int) (a0_2:Int):Option (Bool):=(vec_Le.f 0 0 0 a0_0 a0_1 a0_2).bind fun t2=>(if t2=true then ((vec_Most.f).bind fun bt3=>((vec_Le.f a0_0 a0_1 a0_2 bt3.1 bt3.2.1 bt3.2.2).bind fun t6=>(some t6))) else (some false))
def vec_May.T1:Bool×List (List Nat×List Nat):=(true,[([],[]),([],[]),([0,1],[0,1]),([2,2],[2]),([3],[3]),([3,3],[3]),([4,5,5,3],[3,4,5]),([3,6],[3,6]),([7,6,0,1,2,3,4,5,6,7],[7])])
def vec_May.B1:List Nat:=[0,0,3,7,15,15,63,127,255]
theorem vec_May.tab1:rtab .any (opsOf Try.f111 1)=vec_May.T1:=by kernel_rfl
theorem vec_May.bits1:waitsOk vec_May.T1.2 vec_May.B1=true:=by kernel_rfl
set_option maxHeartbeats 8000000 in
set_option maxRecDepth 100000 in
theorem vec_May.calls (a0_0:Int) (a0_1:Int) (a0_2:Int) (r:Bool) (w:World) (h:vec_May.f a0_0 a0_1 a0_2=some r):
  Calls Try.prog 111 #[.agg #[.int .i64 a0_0, .int .i64 a0_1, .int .i64 a0_2]] w fun e w'=>e= .returned (.bool r)∧Below w.heap.size w w':=by
 have hu37:=Try.underlying37;have HB:=am_ (Below.refl w.heap.size w);have H:((vec_Le.f 0 0 0 a0_0 a0_1 a0_2).bind fun t2=>(if t2=true then ((vec_Most.f).bind fun bt3=>((vec_Le.f a0_0 a0_1 a0_2 bt3.1 bt3.2.1 bt3.2.2).bind fun t6=>(some t6))) else (some false)))=some r:=h;clear h;replace H:=zbd_ H;obtain ⟨t2,A2,H⟩:=H;try dsimp only at H
 by_cases c3:t2=true;subst c3;rw [if_pos rfl] at H;replace H:=zbd_ H;obtain ⟨⟨t3,t4,t5⟩,A4,H⟩:=H;try dsimp only at H
 replace H:=zbd_ H;obtain ⟨t6,A5,H⟩:=H;try dsimp only at H
 obtain rfl:=Option.some.inj H;rotate_left;replace c3:=Bool.eq_false_iff.mpr c3;subst c3;rw [if_neg (show¬(false=true) by decide)] at H;obtain rfl:=Option.some.inj H;rotate_left
 all_goals (
 go_enter Try.func111,Try.ntmps111;try go_wp2_with (first|((with_reducible refine gate_dst (N:=1) rfl ?_);refine bx_ (N:=1) (cs:=#[.int .i64 a0_0, .int .i64 a0_1, .int .i64 a0_2]) (t:=37) ?_;intro gb1 hg w6 hbox hb;have BK1:=am_ (hbox);have GE1:=am_ ((zg0_ HB hg:w.heap.size≤gb1));replace HB:=am_ (below_step (zl0_ HB) hb);clear hb hbox hg))
 replace BK1:=am_ (blk_drew BK1.out);replace HB:=am_ (below_drew1 HB.out);refine start_ (n:=9) (S:=fun w'=>w'.cell? ⟨gb1,0,none⟩=some (.int .i64 a0_0)∧w'.cell? ⟨gb1,1,none⟩=some (.int .i64 a0_1)∧w'.cell? ⟨gb1,2,none⟩=some (.int .i64 a0_2)) (ds:=[]) (bs_ 9 0) (by kernel_rfl) rfl rfl ⟨(blk_cell BK1.out 0).trans rfl,(blk_cell BK1.out 1).trans rfl,(blk_cell BK1.out 2).trans rfl⟩ (fun hHeld=> ?_);refine with_tabW vec_May.tab1 vec_May.bits1 (fun HT_ HW_=> ?_);generalize w6.drew=w7 at BK1 HB hHeld ⊢;refine qu_ HT_ ?_;refine qk_ HT_ HW_ hHeld ?_;refine on_ (i:=2) (N:=some 5) (bs_ 9 3) HT_ (fun K hK=> ?_);refine gs_ Try.func114 #[.agg #[.int .i64 0, .int .i64 0, .int .i64 0], .agg #[.int .i64 a0_0, .int .i64 a0_1, .int .i64 a0_2]] ?_
 with_reducible refine (vec_Le.calls 0 0 0 a0_0 a0_1 a0_2 _ _ A2.out).mono ?_
 rintro e w8 ⟨rfl,hb⟩;refine ⟨_,rfl, ?_⟩;replace BK1:=bb_ BK1 hb;replace HB:=am_ (below_step (zl1_ HB GE1) hb);(try clear hb);refine hK.out _ _ ⟨(blk_cell BK1.out 0).trans rfl,(blk_cell BK1.out 1).trans rfl,(blk_cell BK1.out 2).trans rfl⟩ (fun hHeld=> ?_);clear hK K;refine no_ (N:=some 5) ?_;refine pu_ (i:=3) (N:=some 6) (bs_ 9 4) HT_ ?_)
 ·refine tk_ (i:=4) (N:=some 7) (bs_ 9 5) HT_ HW_ hHeld ?_;refine on_ (i:=5) (N:=some 8) (bs_ 9 6) HT_ (fun K hK=> ?_);refine gs_ Try.func125 #[] ?_
  with_reducible refine (vec_Most.calls t3 t4 t5 _ A4.out).mono ?_
  rintro e w9 ⟨rfl,hb⟩;refine ⟨_,rfl, ?_⟩;replace BK1:=bb_ BK1 hb;replace HB:=am_ (below_step (zl1_ HB GE1) hb);(try clear hb);refine hK.out _ _ ⟨(blk_cell BK1.out 0).trans rfl,(blk_cell BK1.out 1).trans rfl,(blk_cell BK1.out 2).trans rfl⟩ (fun hHeld=> ?_);clear hK K;refine no_ (N:=some 8) ?_;refine on_ (i:=6) (N:=some 9) (bs_ 9 7) HT_ (fun K hK=> ?_);refine gs_ Try.func114 #[.agg #[.int .i64 a0_0, .int .i64 a0_1, .int .i64 a0_2], .agg #[.int .i64 t3, .int .i64 t4, .int .i64 t5]] ?_
  with_reducible refine (vec_Le.calls a0_0 a0_1 a0_2 t3 t4 t5 t6 _ A5.out).mono ?_
  rintro e w10 ⟨rfl,hb⟩;refine ⟨_,rfl, ?_⟩;replace BK1:=bb_ BK1 hb;replace HB:=am_ (below_step (zl1_ HB GE1) hb);(try clear hb);refine hK.out _ _ ⟨(blk_cell BK1.out 0).trans rfl,(blk_cell BK1.out 1).trans rfl,(blk_cell BK1.out 2).trans rfl⟩ (fun hHeld=> ?_);clear hK K;refine no_ (N:=some 9) ?_;(iterate 2 refine qu_ HT_ ?_);refine done_ (done_of HT_.out (by kernel_rfl)) ?_;try go_wp2
  go_ret
  exact ⟨er_,zl1_ HB GE1⟩
 ·refine pn_ (i:=4) (N:=some 7) (bs_ 9 5) HT_ ?_;(iterate 2 refine qn_ HT_ ?_);(iterate 2 refine qu_ HT_ ?_);refine done_ (done_of HT_.out (by kernel_rfl)) ?_;try go_wp2
  go_ret
  exact ⟨er_,zl1_ HB GE1⟩

def fidx {α:Type} (p:α→Bool):List α→Int→Int
 |[],_=> -1
 |x::l,i=>if p x=true then i else fidx p l (i+1)
theorem fidx_drop {α:Type} (p:α→Bool) (z:α) (l:List α) (i:Nat) (h:i<l.length):fidx p (l.drop i) i=if p (l.getD i z)=true then (i:Int) else fidx p (l.drop (i+1)) ((i+1:Nat):Int):=by
 rw [List.drop_eq_getElem_cons h,List.getD_eq_getElem?_getD,List.getElem?_eq_getElem h]
 rfl
def itemCells (x:S79):Array Value:=#[.string x.f0, .string x.f1, .int .i64 x.f2.f0, .int .i64 x.f2.f1, .int .i64 x.f2.f2, .int .i64 x.f3.f0, .int .i64 x.f3.f1, .int .i64 x.f3.f2, .int .i64 x.f4.f0, .int .i64 x.f4.f1, .int .i64 x.f4.f2, .int .i64 x.f5]
set_option maxHeartbeats 1000000 in
set_option maxRecDepth 100000 in
theorem idxItem_calls (g:Nat) (lb:Array Value) (p:S79→Bool) (eg: ∀args w,(callFunc g args).run Try.prog w= .ok (.enter g args) w) (w:World)
    (hp: ∀W x,Below w.heap.size w W→Calls Try.prog g (#[.agg (itemCells x)]++lb) W fun e w'=>e= .returned (.bool (p x))∧Below W.heap.size W w')
    (A:Option Addr) (c:Nat) (l:List S79) (hr0:Kd.C k79 w A l.length l) (hc0:l.length≤c):
    Calls Try.prog 121 #[.slice A l.length c, .func (.func g) #[] lb] w fun e w'=>e= .returned (.int .i64 (fidx p l 0))∧Below w.heap.size w w':=by
  have hu79:=Try.underlying79;have HR0:=Aside0.mk hr0;have HP:=Aside0.mk hp;have HEG:=Aside0.mk eg;have hm:l.length≤9223372036854775807:=hr0.2.1;clear hr0 hp eg;go_enter Try.func121,Try.ntmps121;go_wp2
  go_loopg [5,8] l.length (fun kq s5 s8 wr=> ∃i:Nat,i≤l.length∧l.length - i≤kq∧s8= .int .i64 i∧Aside0 (Below w.heap.size w wr)∧Aside0 (fidx p l 0=fidx p (l.drop i) i))
  case atStart=>exact ⟨0,by omega,by omega,rfl,⟨Below.refl _ _⟩,⟨rfl⟩⟩
  case round=>
    obtain ⟨i,hi,hg,rfl,HB,HF⟩:=hrel;by_cases hlt:i<l.length;rotate_left
    · obtain rfl : i = l.length := by omega
      go_wp2
      go_ret
      refine ⟨?_,HB.out⟩
      rw [HF.out,List.drop_length]
      rfl


    have hltz:(i:Int)<(l.length:Int):=by omega
    obtain ⟨ad,e1,h0,h1,h2,h3,h4,h5,h6,h7,h8,h9,h10,h11⟩:=at_T79 HR0.out (i:Int) (by omega) (by omega);cases e1;simp only [Int.toNat_natCast] at h0 h1 h2 h3 h4 h5 h6 h7 h8 h9 h10 h11;replace h0:=zx_ HB h0;replace h1:=zx_ HB h1;replace h2:=zx_ HB h2;replace h3:=zx_ HB h3;replace h4:=zx_ HB h4;replace h5:=zx_ HB h5;replace h6:=zx_ HB h6;replace h7:=zx_ HB h7;replace h8:=zx_ HB h8;replace h9:=zx_ HB h9;replace h10:=zx_ HB h10;replace h11:=zx_ HB h11;have hd:Aside0 _:=⟨fidx_drop p z79 l i hlt⟩;have HC:=am_ (HP.out wr (rd_T79 l i) HB.out);generalize hy:rd_T79 l i=y at h0 h1 h2 h3 h4 h5 h6 h7 h8 h9 h10 h11 HC;have hq:p (l.getD i z79)=p y:=by rw [←hy];simp [rd_T79]
    have HQ:=Aside0.mk hq;clear hy hq;have eg:=HEG.out
    cases hb:p y with
    | true =>
      rw [hb] at HC HQ;clear hb;go_wp2_with (go_at_fn g;refine HC.out.mono ?_;rintro e w' ⟨rfl,hb'⟩;have HB':=am_ (below_step HB.out hb');clear hb')
      go_ret
      refine ⟨?_,HB'.out⟩;rw [HF.out,hd.out,HQ.out]
      rfl
    | false =>
      rw [hb] at HC HQ;clear hb;go_wp2_with (go_at_fn g;refine HC.out.mono ?_;rintro e w' ⟨rfl,hb'⟩;have HB':=am_ (below_step HB.out hb');clear hb')
      go_roundg (l.length - (i+1))
      case measure=>omega
      case rel=>exact ⟨i+1,by omega,by omega,by go_num,HB',⟨by rw [HF.out,hd.out,HQ.out];rfl⟩⟩
set_option maxHeartbeats 1000000 in
set_option maxRecDepth 100000 in
theorem treeFind1_calls (W:World) (b:Nat) (nm:ByteArray) (hb:W.heap[b]?=some (.cells #[.string nm] 9 (0,0))) (x:S79):
  Calls Try.prog 122 #[.agg (itemCells x), .pointer (some ⟨b,0,none⟩)] W fun e w'=>e= .returned (.bool (x.f0.toList==nm.toList))∧Below W.heap.size W w':=by
 unfold itemCells
 have hu79:=Try.underlying79
 have h0:=(blk_cell hb 0).trans rfl
 have hl:b<W.heap.size:=blk_lt hb
 clear hb
 go_enter Try.func122,Try.ntmps122
 go_wp2
 go_ret
 exact ⟨rfl,by repeat (first|(with_reducible first|exact Below.refl _ _|apply below_alloc|apply pw_below_drewN|apply below_drew1))⟩
def tree_Find.f (l0:List (S79)) (a1:ByteArray):Option Int:=some (fidx (fun x=>x.f0.toList==a1.toList) l0 0)
set_option maxHeartbeats 1000000 in
set_option maxRecDepth 100000 in
theorem tree_Find.calls (A0:Option Addr) (c0:Nat) (l0:List (S79)) (a1:ByteArray) (r:Int) (w:World) (hr0:Kd.C k79 w A0 l0.length l0) (hc0:l0.length≤c0) (h:tree_Find.f l0 a1=some r):
  Calls Try.prog 91 #[.slice A0 l0.length c0, .string a1] w fun e w'=>e= .returned (.int .i64 r)∧Below w.heap.size w w':=by
 have hr:fidx (fun x=>x.f0.toList==a1.toList) l0 0=r:=Option.some.inj h;obtain ⟨W1,hW1⟩: ∃W1,W1=w.alloc (.cells #[.string a1] 9):=⟨_,rfl⟩;have hn:W1.heap[w.heap.size]?=some (.cells #[.string a1] 9 (0,0)):=by rw [hW1];exact blk_new _ _
 have hB:Below w.heap.size w W1:=by rw [hW1];exact below_alloc (Below.refl _ _) _
 have HC:=am_ (idxItem_calls 122 #[.pointer (some ⟨w.heap.size,0,none⟩)] (fun x=>x.f0.toList==a1.toList) (enters_of Try.func122 (by kernel_rfl) rfl) W1 (fun W x hb=>treeFind1_calls W w.heap.size a1 (blk_below hn hb) x) A0 c0 l0 (Kd.C_below hr0 hB) hc0);rw [hr] at HC;have HW:=Aside0.mk hW1;have HB:=Aside0.mk hB;clear hr0 hr hW1 hn hB h;go_enter Try.func91,Try.ntmps91;go_wp2_with fail
 rw [←HW.out];refine HC.out.mono ?_;rintro e w' ⟨rfl,hb⟩;have HB':=am_ (below_step HB.out hb);clear hb;go_wp2
 go_ret
 exact ⟨rfl,HB'.out⟩


def shape_made.f (l0:List (S79)) (a1:ByteArray):Option ((List (S79))×Int):=(slices_Clone_Item.f l0).bind fun t2=>((tree_Find.f l0 a1).bind fun t5=>(some (t2,t5)))
set_option maxHeartbeats 8000000 in
set_option maxRecDepth 100000 in
theorem shape_made.calls (A0:Option Addr) (c0:Nat) (l0:List (S79)) (a1:ByteArray) (r1:List (S79)) (r2:Int) (w:World) (hr0:Kd.C k79 w A0 l0.length l0) (hc0:l0.length≤c0) (h:shape_made.f l0 a1=some (r1,r2)):
  Calls Try.prog 154 #[.slice A0 l0.length c0, .string a1] w fun e w'=> ∃v0_:Value,e= .returned (.agg #[v0_, .int .i64 r2])∧Kd.R k79 79 w' w.heap.size (fun _=>True) v0_ r1∧Below w.heap.size w w':=by
 have hu197:=Try.underlying197;have hu195:=Try.underlying195;have HR0:=Aside0.mk hr0;have HC0:=Aside0.mk hc0;clear hr0 hc0;have HB:=am_ (Below.refl w.heap.size w);have H:((slices_Clone_Item.f l0).bind fun t2=>((tree_Find.f l0 a1).bind fun t5=>(some (t2,t5))))=some (r1,r2):=h;clear h;replace H:=zbd_ H;obtain ⟨t2,A3,H⟩:=H;try dsimp only at H
 replace H:=zbd_ H;obtain ⟨t5,A4,H⟩:=H;try dsimp only at H
 simp only [Option.some.injEq,Prod.mk.injEq] at H;obtain ⟨rfl,rfl⟩:=H;go_enter Try.func154,Try.ntmps154;go_wp2_with (first|((with_reducible refine gate_dst (N:=4) rfl ?_);refine bx_ (N:=4) (cs:=#[.slice none 0 0, .int .i64 0]) (t:=197) ?_;intro gb1 hg w5 hbox hb;have BK1:=am_ (hbox);have GE1:=am_ ((zg0_ HB hg:w.heap.size≤gb1));replace HB:=am_ (below_step (zl0_ HB) hb);clear hb hbox hg)|((with_reducible refine gate_callee (f:=88) rfl ?_);refine gl_ (some 6) Try.func88 #[.slice A0 l0.length c0] ?_;(with_reducible refine (slices_Clone_Item.calls _ _ l0 t2 _ ?side1 ?side2 A3.out).mono ?_);(case side1=>exact zc_ (Kd.C_below HR0.out HB.out));(case side2=>exact HC0.out);rintro e w6 ⟨v3,rfl,ho0,hb⟩;refine ⟨_,rfl, ?_⟩;have HO4:=am_ (Kd.R_lower ho0 (below_size (zl1_ HB GE1)));replace BK1:=bb_ BK1 hb;replace HB:=am_ (below_step (zl1_ HB GE1) hb);(try clear hb ho0);obtain ⟨Ao7,co7,eo7⟩:=Kd.R_slice HO4.out;subst eo7)|((with_reducible refine gate_callee (f:=91) rfl ?_);refine gl_ (some 10) Try.func91 #[.slice A0 l0.length c0, .string a1] ?_;(with_reducible refine (tree_Find.calls _ _ l0 a1 t5 _ ?side1 ?side2 A4.out).mono ?_);(case side1=>exact zc_ (Kd.C_below HR0.out HB.out));(case side2=>exact HC0.out);rintro e w8 ⟨rfl,hb⟩;refine ⟨_,rfl, ?_⟩;replace HO4:=ob_ HO4 hb;replace BK1:=bb_ BK1 hb;replace HB:=am_ (below_step (zl1_ HB GE1) hb);(try clear hb);obtain ⟨_,_⟩:=x2_ BK1;obtain ⟨_,_⟩:=ff2_ BK1))
 refine bodyPost_ret (results_cell_row rfl _ _ gb1 197 #[.slice Ao7 t2.length co7, .int .i64 t5] (0,0) _ rfl (zw_ BK1) Try.underlying197 rfl (by kernel_rfl)) rfl ?_;exact ⟨_,er_,zy_ HO4 BK1,zl1_ HB GE1⟩

def shape_change_parent.f (l0_0:List (S79)) (a0_1:Int) (a1:ByteArray):Option (Bool):=if a1.toList=([]:List UInt8) then (some true) else ((tree_Find.f l0_0 a1).bind fun t2=>(some (decide (t2≥0))))
set_option maxHeartbeats 8000000 in
set_option maxRecDepth 100000 in
theorem shape_change_parent.calls (A0_0:Option Addr) (c0_0:Nat) (l0_0:List (S79)) (a0_1:Int) (a1:ByteArray) (r:Bool) (w:World) (hr0_0:Kd.C k79 w A0_0 l0_0.length l0_0) (hc0_0:l0_0.length≤c0_0) (h:shape_change_parent.f l0_0 a0_1 a1=some r):
  Calls Try.prog 155 #[.agg #[.slice A0_0 l0_0.length c0_0, .int .i64 a0_1], .string a1] w fun e w'=>e= .returned (.bool r)∧Below w.heap.size w w':=by
 have hu197:=Try.underlying197;have HR0_0:=Aside0.mk hr0_0;have HC0_0:=Aside0.mk hc0_0;clear hr0_0 hc0_0;have HB:=am_ (Below.refl w.heap.size w);have H:(if a1.toList=([]:List UInt8) then (some true) else ((tree_Find.f l0_0 a1).bind fun t2=>(some (decide (t2≥0)))))=some r:=h;clear h;by_cases c3:a1.toList=([]:List UInt8);rw [if_pos c3] at H;have c3b0:=beq_iff_eq.mpr c3;have c3b1:=bne_eq_false_iff_eq.mpr c3;clear c3;obtain rfl:=Option.some.inj H;rotate_left;rw [if_neg c3] at H;have c3b0:=beq_eq_false_iff_ne.mpr c3;have c3b1:=bne_iff_ne.mpr c3;replace H:=zbd_ H;obtain ⟨t2,A5,H⟩:=H;try dsimp only at H
 obtain rfl:=Option.some.inj H;rotate_left
 all_goals (
 go_enter Try.func155,Try.ntmps155;go_wp2_with (first|((with_reducible refine gate_dst (N:=2) rfl ?_);refine bx_ (N:=2) (cs:=#[.slice A0_0 l0_0.length c0_0, .int .i64 a0_1]) (t:=197) ?_;intro gb1 hg w4 hbox hb;have BK1:=am_ (hbox);have GE1:=am_ ((zg0_ HB hg:w.heap.size≤gb1));replace HB:=am_ (below_step (zl0_ HB) hb);clear hb hbox hg;(try (obtain ⟨_,_⟩:=x2_ BK1;obtain ⟨_,_⟩:=ff2_ BK1)))|(go_at_call 91;(with_reducible refine (tree_Find.calls _ _ l0_0 a1 t2 _ ?side1 ?side2 A5.out).mono ?_);(case side1=>exact zc_ (Kd.C_below HR0_0.out HB.out));(case side2=>exact HC0_0.out);rintro e w8 ⟨rfl,hb⟩;replace BK1:=bb_ BK1 hb;replace HB:=am_ (below_step (zl1_ HB GE1) hb);(try clear hb)))
 go_ret)
 ·exact ⟨er_,zl1_ HB GE1⟩
 ·exact ⟨er_,zl1_ HB GE1⟩

theorem sh_head {α:Type} {d:Kd α} {e base:Nat} {ok:Nat→Prop} {w:World} {v:Value} {xs:List α} (h:d.R e w base ok v xs) (hn:0<xs.length): ∃(g c:Nat),v= .slice (some ⟨g,0,none⟩) xs.length c∧base≤g∧g<w.heap.size:=by
  obtain ⟨_,inner,⟨_,h|⟨g,cap,cur,rfl,hg,hh,_⟩⟩,_⟩:=h
  · omega
  exact ⟨g,cap,rfl,hg,blk_lt hh⟩
def shCells (y:S79):List Value:=[.string y.f0, .string y.f1, .int .i64 y.f2.f0, .int .i64 y.f2.f1, .int .i64 y.f2.f2, .int .i64 y.f3.f0, .int .i64 y.f3.f1, .int .i64 y.f3.f2, .int .i64 y.f4.f0, .int .i64 y.f4.f1, .int .i64 y.f4.f2, .int .i64 y.f5]
theorem sh_cells {base:Nat} {w:World} {g c:Nat} {l:List S79} (h:Kd.R k79 79 w base (fun _=>True) (.slice (some ⟨g,0,none⟩) l.length c) l) (j:Int) (h0:0≤j) (h1:j<(l.length:Int)):
  ∀j' u,(shCells (rd_T79 l j))[j']?=some u→w.cell? ⟨g,j.toNat*12+j',none⟩=some u:=by
 obtain ⟨ad2,cc,e3,hcl,hK,hcc0⟩:=Kd.C_get (Kd.R_reads' h).2.2 z79 j h0 h1
 cases e3
 have hcc: ∀j' u,cc[j']?=some u→w.cell? (Addr.add ⟨g,0,none⟩ (j.toNat*12+j'))=some u:=hcc0
 obtain rfl:=k79_open hK
 intro j' u hu
 have:=hcc j' u hu
 rwa [Addr.add_lit,Nat.zero_add] at this
set_option maxHeartbeats 1000000 in
set_option maxRecDepth 100000 in
theorem shapeItem_calls (W:World) (ad:Addr) (n c:Nat) (j:Int) (h0:0≤j) (h1:j<(n:Int)):
  Calls Try.prog 159 #[.agg #[.slice (some ad) n c, .int .i64 j]] W fun e w'=>e= .returned (.pointer (some (ad.add (j.toNat*12))))∧Below W.heap.size W w':=by
 have hu197:=Try.underlying197;have hu195:=Try.underlying195;have q0:=eq_true h0;have q1:=eq_true h1;go_enter Try.func159,Try.ntmps159;go_wp2_with fail
 go_ret
 exact ⟨rfl,below_alloc (Below.refl _ _) _⟩
def guardF (l:List S79) (j ver:Int):Option Int:=if j<0 then some 2 else if j<(l.length:Int) then (if 0≤ver∧(rd_T79 l j).f5≠ver then some 14 else some 0) else none
set_option maxHeartbeats 2000000 in
set_option maxRecDepth 100000 in
theorem shapeGuard_calls (W:World) (base:Nat) (v:Value) (l:List S79) (j ver r:Int) (hr:Kd.R k79 79 W base (fun _=>True) v l) (h:guardF l j ver=some r):
    Calls Try.prog 157 #[.agg #[v, .int .i64 j], .int .i64 ver] W fun e w'=>e= .returned (.int .i64 r)∧Below W.heap.size W w':=by
  have hu197:=Try.underlying197;have hu195:=Try.underlying195;have hu79:=Try.underlying79;have hu37:=Try.underlying37;have HR:=Aside0.mk hr;clear hr;unfold guardF at h;by_cases hj:j<0
  · rw [if_pos hj] at h
    cases h
    have q0:=eq_true hj
    clear hj
    go_enter Try.func157,Try.ntmps157
    go_wp2_with fail
    go_ret
    exact ⟨rfl,below_alloc (Below.refl _ _) _⟩
  rw [if_neg hj] at h;by_cases h1:j<(l.length:Int);rotate_left
  · rw [if_neg h1] at h
    cases h
  rw [if_pos h1] at h;have h0:0≤j:=by omega
  obtain ⟨gb,cap,rfl,hgb,hgl⟩:=sh_head HR.out (by omega);have HC:=sh_cells HR.out j h0 h1;generalize rd_T79 l j=y at HC h;have k0:W.cell? ⟨gb,j.toNat*12+11,none⟩=some (.int .i64 y.f5):=HC 11 _ rfl;have q1:=eq_false hj;have H0:=Aside0.mk h0;have H1:=Aside0.mk h1;have HH:=Aside0.mk h;have HGL:=Aside0.mk hgl;have K0:=Aside0.mk k0;clear HC h hj k0;by_cases hv:0≤ver;rotate_left
  · have q2 := eq_false hv
    have hr0:=HH.out
    rw [if_neg (fun h=>hv h.1)] at hr0
    cases hr0
    go_enter Try.func157,Try.ntmps157
    go_wp2_with fail
    go_ret
    exact ⟨rfl,below_alloc (Below.refl _ _) _⟩
  have q2:=eq_true hv;by_cases hw:y.f5=ver;subst hw;have hr0:=HH.out;rw [if_neg (by simp)] at hr0;cases hr0;rotate_left;have hr0:=HH.out;rw [if_pos ⟨hv,hw⟩] at hr0;cases hr0;have q3:=eq_false hw;rotate_left
  all_goals (
  go_enter Try.func157,Try.ntmps157;go_wp2_with (go_at_call 159;refine (shapeItem_calls _ ⟨gb,0,none⟩ l.length cap j H0.out H1.out).mono ?_;rintro e w3 ⟨rfl,hb⟩;have HB3:=am_ (below_then (below_alloc (Below.refl W.heap.size W) _) (by simp) hb);have k3:=(HB3.out.cell (p:=⟨gb,j.toNat*12+11,none⟩) HGL.out).trans K0.out;clear hb)
  go_ret
  exact ⟨rfl,HB3.out⟩)
def verF (y:S79):S79:=⟨y.f0,y.f1,y.f2,y.f3,y.f4,wrap64 (y.f5+1)⟩
def olderF (l:List S79) (j:Int):Option (Int×List S79):=if 0≤j∧j<(l.length:Int) then (if (rd_T79 l j).f5≥9007199254740992 then some (4,l) else some (0,l.set j.toNat (verF (rd_T79 l j)))) else none
structure Turned (W w':World) (base:Nat) (v:Value):Prop where
 below:Below base W w'
 block: ∀(k:Nat) o,W.heap[k]?=some o→some k≠v.ownBlock→w'.heap[k]?=some o
theorem Turned.of_below {W w':World} {base:Nat} {v:Value} (h:Below W.heap.size W w') (hb:base≤W.heap.size):Turned W w' base v:=⟨⟨h.os,h.tape,h.output,h.size,fun k hk=>h.block k (Nat.lt_of_lt_of_le hk hb)⟩,fun k o hk _=>blk_below hk h⟩
theorem Turned.then_grown {W w1 w2:World} {base g n c:Nat} (h:Turned W w1 base (.slice (some ⟨g,0,none⟩) n c)) (hb:base≤W.heap.size) (hg0:base≤g) (hg:w1.grownBy w2 (some g)):Turned W w2 base (.slice (some ⟨g,0,none⟩) n c):=
 ⟨pw_below_grown h.below (some g) (Nat.le_trans hb h.below.size) hg (fun k e=>by cases e;exact hg0),fun b o hk hn=>blk_grown (h.block b o hk hn) hg (by intro e;cases e;exact hn rfl)⟩
set_option maxHeartbeats 2000000 in
set_option maxRecDepth 100000 in
theorem shapeOlder_calls (W:World) (base:Nat) (v:Value) (l r2:List S79) (j r1:Int) (hr:Kd.R k79 79 W base (fun _=>True) v l) (hbase:base≤W.heap.size) (h:olderF l j=some (r1,r2)):
    Calls Try.prog 158 #[.agg #[v, .int .i64 j]] W fun e w'=>e= .returned (.int .i64 r1)∧Kd.R k79 79 w' base (fun _=>True) v r2∧Turned W w' base v:=by
  have hu197:=Try.underlying197;have hu195:=Try.underlying195;have hu79:=Try.underlying79;have hu37:=Try.underlying37;have HR:=Aside0.mk hr;have HBS:=Aside0.mk hbase;clear hr hbase;unfold olderF at h;by_cases hj:0≤j∧j<(l.length:Int)
  case neg=>
   rw [if_neg hj] at h;cases h
  rw [if_pos hj] at h;obtain ⟨h0,h1⟩:=hj;obtain ⟨gb,cap,rfl,hgb,hgl⟩:=sh_head HR.out (by omega);have hc0:=sh_cells HR.out j h0 h1;generalize hy:rd_T79 l j=y at hc0 h;have HY:=Aside0.mk hy;clear hy;have k0:W.cell? ⟨gb,j.toNat*12+11,none⟩=some (.int .i64 y.f5):=hc0 11 _ rfl;have H0:=Aside0.mk h0;have H1:=Aside0.mk h1;have HC:=Aside0.mk hc0;have HGL:=Aside0.mk hgl;have HGB:=Aside0.mk hgb;have K0:=Aside0.mk k0;clear k0 h0 h1 hc0 hgl hgb;by_cases hv:y.f5≥9007199254740992;rw [if_pos hv] at h;cases h;have q0:=eq_true hv;rotate_left;rw [if_neg hv] at h;cases h;have q0:=eq_false hv;rotate_left
  all_goals (
  go_enter Try.func158,Try.ntmps158;go_wp2_with (go_at_call 159;refine (shapeItem_calls _ ⟨gb,0,none⟩ l.length cap j H0.out H1.out).mono ?_;rintro e w3 ⟨rfl,hb⟩;have HB3:=am_ (below_then (below_alloc (Below.refl W.heap.size W) _) (by simp) hb);have k3:=(HB3.out.cell (p:=⟨gb,j.toNat*12+11,none⟩) HGL.out).trans K0.out;have BK3:=am_ (blk_below (blk_new W _) hb);obtain ⟨_,_⟩:=xz2_ BK3;clear hb))
  ·go_ret
   exact ⟨rfl,Kd.R_below HR.out HB3.out,Turned.of_below HB3.out HBS.out⟩
  ·clear k3;go_wp2_with (first|(go_at_call 159;refine (shapeItem_calls _ ⟨gb,0,none⟩ l.length cap j H0.out H1.out).mono ?_;rintro e w4 ⟨rfl,hb⟩;have HB4:=am_ (below_then HB3.out (HB3.out.size) hb);have k4:=(HB4.out.cell (p:=⟨gb,j.toNat*12+11,none⟩) HGL.out).trans K0.out;clear hb)|((with_reducible refine gate_store (t:=3) (p:=16) (v:= .tmp 14) rfl ?_);(refine Kd.R_store k79 (w0:=w4) base rfl rfl 3 (.tmp 16) (.tmp 14) rfl 79 (g:=gb) (n:=l.length) (cap:=cap) (o':=j.toNat*12+11) j 11 l (verF y) (.int .i64 (wrap64 (y.f5+1))) [.int .i64 (wrap64 (y.f5+1))] (shCells y) (fun _=>True) (fun _=>False) rfl rfl rfl rfl ?ct ?c1 (Kd.R_below HR.out HB4.out) ?c2 ?c3 rfl ?cc (by show 11+1≤12;omega) ?cM (fun _ h=>h.elim) (Below.refl _ _) ?_);(case ct=>kernel_rfl);(case c1=>intro q hq;simp only [List.mem_cons,List.not_mem_nil,or_false] at hq;rcases hq with rfl;rfl);(case c2=>exact H0.out);(case c3=>exact H1.out);(case cc=>exact fun j' u hu=>(HB4.out.cell (p:=⟨gb,j.toNat*12+j',none⟩) HGL.out).trans (HC.out j' u hu));(case cM=>exact k79_mkM _ _ _ (verF y));intro w5 ho hb hg;have HO5:=Aside0.mk ho;have HG5:=Aside0.mk hg;clear ho hb hg))
   go_ret
   refine ⟨rfl, ?_, ?_⟩
   · exact HO5.out
   exact (Turned.of_below HB4.out HBS.out).then_grown HBS.out HGB.out HG5.out
end Go.Proofs.Ytahidkjncljkaaa.Print

namespace Go.Proofs.Ytahidkjncljkaaa.Print
open Go.RowKit Go.Proofs.YtahidkjncljkaaaW.PrintWords Go.Proofs.YtahidkjncljkaaaW.PrintLast Go.Proofs.YtahidkjncljkaaaW.PrintMore
theorem run_copy_wide {P:Program} (w:World) (dT sT ty elem:TypeId) (sz:Nat) (b o dLen dCap:Nat) (a:Addr) (sLen sCap:Nat) (cs:List Value)
    (hu:P.underlying dT=some (.slice elem)) (hs:(P.info? elem).map (·.size)=some sz) (m:Nat) (hm:Nat.min sLen dLen=m) (hn:cs.length=m*sz)
    (hsrc: ∀j v,cs[j]?=some v→w.cell? (a.add j)=some v) (hc: ∀j,j<cs.length→(w.cell? ⟨b,o+j,none⟩).isSome=true) (hf: ∀j,j<cs.length→w.frozen? ⟨b,o+j,none⟩=false) (h1: ∀v∈cs,v.oneCell'=true):
    (Builtin.copy_ #[dT,sT] ty #[.slice (some ⟨b,o,none⟩) dLen dCap, .slice (some a) sLen sCap]).run P w= .ok (goInt m) (w.setCells b o cs):=by
  have hl:=run_loadCells_list (P:=P) w a cs hsrc
  have hst:=run_storeCells_cells (P:=P) b o cs 0 w (by simpa using hc) (by simpa using hf) h1
  cases hq:P.info? elem with
  |none=>simp [hq] at hs
  | some i =>
    have hi:i.size=sz:=by simpa [hq] using hs
    simp [Builtin.copy_,run_underlying hu,Builtin.lenOf,Builtin.firstCells,sizeOf,typeInfo,hq,hi,hm,←hn,hl,hst]
theorem run_clear_one {P:Program} (w:World) (t e ty:TypeId) (z:Value) (zs:List Value) (ht:P.underlying t=some (.slice e)) (hv: ∀w,(zeroValue e).run P w= .ok z w) (hz:(Builtin.zeroCells z.cells 1).toList=zs) (h1: ∀u∈zs,u.oneCell'=true) (b o c:Nat)
  (hc: ∀j,j<zs.length→(w.cell? ⟨b,o+j,none⟩).isSome=true) (hf: ∀j,j<zs.length→w.frozen? ⟨b,o+j,none⟩=false):
  (Builtin.clear_ #[t] ty #[.slice (some ⟨b,o,none⟩) 1 c]).run P w= .ok (.tuple #[]) (w.setCells b o zs):=by
 have hst:=run_storeCells_cells (P:=P) b o zs 0 w (by simpa using hc) (by simpa using hf) h1;simp only [Nat.add_zero] at hst
 simp [Builtin.clear_,run_underlying ht,hv,hz,hst]
def zCells:List Value:=[.string ⟨#[]⟩, .string ⟨#[]⟩, .int .i64 0, .int .i64 0, .int .i64 0, .int .i64 0, .int .i64 0, .int .i64 0, .int .i64 0, .int .i64 0, .int .i64 0, .int .i64 0]
def flat (l:List S79):List Value:=l.flatMap shCells
theorem shCells_len (y:S79):(shCells y).length=12:=rfl
theorem flat_lenI: ∀l:List S79,(flat l).length=l.length*12
  |[]=>rfl
  | y :: l => by
    show (shCells y++flat l).length=_
    rw [List.length_append,flat_lenI l,shCells_len,List.length_cons]
    omega
theorem flat_append (a b:List S79):flat (a++b)=flat a++flat b:=by simp [flat]
theorem flat_one (l:List S79): ∀u∈flat l,u.oneCell'=true:=by
 intro u hu;obtain ⟨y,_,hy⟩:=List.mem_flatMap.1 hu;simp only [shCells,List.mem_cons,List.not_mem_nil,or_false] at hy
 rcases hy with rfl|rfl|rfl|rfl|rfl|rfl|rfl|rfl|rfl|rfl|rfl|rfl<;>rfl
theorem flat_take (l:List S79) (i:Nat) (h:i≤l.length):(flat l).take (i*12)=flat (l.take i):=by
 have:=flat_append (l.take i) (l.drop i)
 rw [List.take_append_drop] at this;rw [this];exact List.take_left' (by rw [flat_lenI,List.length_take];omega)
theorem flat_drop (l:List S79) (i:Nat) (h:i≤l.length):(flat l).drop (i*12)=flat (l.drop i):=by
 have:=flat_append (l.take i) (l.drop i)
 rw [List.take_append_drop] at this;rw [this];exact List.drop_left' (by rw [flat_lenI,List.length_take];omega)
theorem flat_reps (w:World) (base:Nat) (ok:Nat→Prop): ∀l:List S79,Reps (k79.M w base ok) 12 l (flat l):=by
 intro l;refine ⟨flat_lenI l,fun j p hj=> ?_⟩;have hjl:j<l.length:=(List.getElem?_eq_some_iff.1 hj).1;rw [flat_drop l j (by omega),List.drop_eq_getElem_cons hjl]
 show k79.M w base ok p ((shCells l[j]++flat (l.drop (j+1))).take 12)
 rw [show (12:Nat)=(shCells l[j]).length from rfl,List.take_left];obtain ⟨_,rfl⟩:=List.getElem?_eq_some_iff.1 hj;exact k79_mkM w base ok _
theorem reps_flatI {w:World} {base:Nat} {ok:Nat→Prop} {l:List S79} {cs:List Value} (h:Reps (k79.M w base ok) 12 l cs):cs=flat l:=by
  obtain ⟨hl,hr⟩:=h
  apply List.ext_getElem?
  intro q
  rcases Nat.lt_or_ge q cs.length with hq|hq
  rotate_left
  · rw [List.getElem?_eq_none hq,List.getElem?_eq_none (by rw [flat_lenI,←hl];exact hq)]
  have hj:q / 12<l.length:=by rw [hl] at hq;omega
  have h1:=k79_open (k79.K_of_M (hr (q / 12) _ (List.getElem?_eq_getElem hj)));have h2:=k79_open (k79.K_of_M ((flat_reps w base ok l).2 (q / 12) _ (List.getElem?_eq_getElem hj)));have h3:=congrArg (·[q % 12]?) (h1.trans h2.symm);simp only [List.getElem?_take,List.getElem?_drop,if_pos (show q % 12<12 by omega)] at h3
  rwa [show q / 12*12+q % 12=q by omega] at h3
theorem R_cells {w:World} {base g n c:Nat} {ok:Nat→Prop} {l:List S79} (h:Kd.R k79 79 w base ok (.slice (some ⟨g,0,none⟩) n c) l):
    n=l.length∧base≤g∧n≤c∧c≤9223372036854775807∧ ∃cur,w.heap[g]?=some (.cells cur 79 (0,0))∧cur.size=c*12∧cur.toList.take (l.length*12)=flat l:=by
  obtain ⟨_,inner,⟨_,h|⟨g',cap',cur,hv,hg,hh,hnc,hcm,hcs,ht⟩⟩,hr⟩:=h
  · cases h.1
  cases hv
  have:=reps_flatI hr
  subst this
  exact ⟨rfl,hg,hnc,hcm,cur,hh,hcs,ht⟩
theorem R_of_cells {w:World} {base g c:Nat} {l:List S79} {cur:Array Value} (hg:base≤g) (hnc:l.length≤c) (hcm:c≤9223372036854775807) (hh:w.heap[g]?=some (.cells cur 79 (0,0))) (hcs:cur.size=c*12) (ht:cur.toList.take (l.length*12)=flat l):
  Kd.R k79 79 w base (fun _=>True) (.slice (some ⟨g,0,none⟩) l.length c) l:=
 ⟨fun _ _=>trivial,flat l,⟨flat_lenI l, .inr ⟨g,c,cur,rfl,hg,hh,hnc,hcm,hcs,ht⟩⟩,flat_reps _ _ _ l⟩
theorem Below.setCells_ {a w:World} {base g:Nat} (h:Below base a w) (hg:base≤g) (o:Nat) (vs:List Value):Below base a (w.setCells g o vs):=by
 obtain ⟨s1,s2,s3,s4⟩:=setCells_same g vs o w;exact ⟨s1.trans h.os,s2.trans h.tape,s3.trans h.output,by rw [s4];exact h.size,fun k hk=>(setCells_far vs o k (by omega)).trans (h.block k hk)⟩
theorem plain_there {w:World} {g:Nat} {cur:Array Value} {e:Nat} (h:w.heap[g]?=some (.cells cur e (0,0))) {j:Nat} (hj:j<cur.size):(w.cell? ⟨g,j,none⟩).isSome=true:=by
 rw [blk_cell h j,Array.getElem?_eq_getElem hj]
 rfl
theorem plain_cell {w:World} {g:Nat} {cur:Array Value} {e:Nat} (h:w.heap[g]?=some (.cells cur e (0,0))) {j:Nat} {v:Value} (hj:cur.toList[j]?=some v):w.cell? ⟨g,j,none⟩=some v:=by
 rw [blk_cell h j,←hj,Array.getElem?_toList]
end Go.Proofs.Ytahidkjncljkaaa.Print

namespace Go.Proofs.Ytahidkjncljkaaa.Print
open Go.RowKit Go.Proofs.YtahidkjncljkaaaW.PrintWords Go.Proofs.YtahidkjncljkaaaW.PrintLast Go.Proofs.YtahidkjncljkaaaW.PrintMore
attribute [local go_sem] max2_int min2_int max_two min_two max_three min_three max_four min_four
theorem step_copy {P:Program} {ops:Array Oper} {o:Oper} {a:Act} {w w':World} {K:Act→World→Prop} {Q:Exit→Act→World→Prop} {E:Prop} (hg:o.guard=none) (d x:Operand) (dT sT:TypeId)
  (hop:o.op=Op.call {callee:=Callee.builtin .copy,args:=#[d,x],argTypes:=#[dT,sT]}) (v u:Value) (hd:a.eval d=v) (hx:a.eval x=u) {v':Value}
  (hr:(Builtin.copy_ #[dT,sT] o.type #[v,u]).run P w= .ok v' w') (hK:K (a.put o.dst v') w'):if Region.wanted o (yielded ops a.tmps)=true then Oper.wp P o a w K Q else E:=by
 have hw:Region.wanted o (yielded ops a.tmps)=true:=by simp [Region.wanted,hg]
 rw [if_pos hw];unfold Oper.wp execOp;simp only [hop,resolve,invoke,builtin,Sem.run_bind,Sem.run_pure,Result.andThen_ok,List.map_toArray,List.map_cons,List.map_nil,hd,hx,hr];exact hK
theorem sh_read {w:World} {vb:Nat} {x:S79} (h:w.heap[vb]?=some (.cells (shCells x).toArray 79 (0,0))):Kd.C k79 w (some ⟨vb,0,none⟩) 1 [x]:=
 (Kd.R_reads' (R_of_cells (base:=0) (l:=[x]) (c:=1) (Nat.zero_le _) (Nat.le_refl _) (by decide) h rfl (by simp [flat,shCells]))).2.2
set_option maxHeartbeats 4000000 in
set_option maxRecDepth 100000 in
theorem sliInsert_end (w:World) (base:Nat) (v:Value) (l:List S79) (x:S79) (vb:Nat) (hr:Kd.R k79 79 w base (fun _=>True) v l) (hv:w.heap[vb]?=some (.cells (shCells x).toArray 79 (0,0))) (hbase:base≤w.heap.size) (hlim:l.length<1000000):
    Calls Try.prog 156 #[v, .int .i64 l.length, .slice (some ⟨vb,0,none⟩) 1 1] w fun e w'=> ∃v',e= .returned v'∧Kd.R k79 79 w' base (fun _=>True) v' (l++ [x])∧Below base w w':=by
  have HR:=Aside0.mk hr;have HC:=am_ (sh_read hv);have HB:=am_ (Below.refl base w);obtain ⟨A,c,rfl⟩:=Kd.R_slice hr;have hle:=(Kd.R_reads' hr).2.1;clear hr hv;have HBASE:=Aside0.mk hbase;clear hbase
  cases A with
  | none =>
    go_enter Try.func156,Try.ntmps156;go_wp2_with ((with_reducible refine gate_builtin (b:= .append) (xs:=#[.tmp 23, .tmp 24]) rfl ?_);at_builtin;refine Kd.R_append_rows k79 (w0:=w) base rfl (.tmp 23) (.tmp 24) 46 79 (.agg #[(.string ⟨#[]⟩),(.string ⟨#[]⟩),(.int .i64 0),(.int .i64 0),(.int .i64 0),(.int .i64 0),(.int .i64 0),(.int .i64 0),(.int .i64 0),(.int .i64 0),(.int .i64 0),(.int .i64 0)]) 112 rfl Try.underlying46 info79 rfl (by decide) (by omega) (.slice none l.length c) l [x] _ _ _ (fun _=>True) (fun _=>False) rfl rfl HR.out HC.out (fun _ _ h=>h) (fun _ h=>h.elim) (fun _ _=>trivial) HB.out HBASE.out (by omega) ?_;intro v5 w5 ho hb hg hat;have HO5:=Aside0.mk ho;have HB5:=Aside0.mk hb;clear ho hb hg hat)
    all_goals (go_ret;exact ⟨_,rfl,HO5.out,HB5.out⟩)
  | some ad =>
    go_enter Try.func156,Try.ntmps156;go_wp2_with ((with_reducible refine gate_builtin (b:= .append) (xs:=#[.tmp 23, .tmp 24]) rfl ?_);at_builtin;refine Kd.R_append_rows k79 (w0:=w) base rfl (.tmp 23) (.tmp 24) 46 79 (.agg #[(.string ⟨#[]⟩),(.string ⟨#[]⟩),(.int .i64 0),(.int .i64 0),(.int .i64 0),(.int .i64 0),(.int .i64 0),(.int .i64 0),(.int .i64 0),(.int .i64 0),(.int .i64 0),(.int .i64 0)]) 112 rfl Try.underlying46 info79 rfl (by decide) (by omega) (.slice (some ad) l.length c) l [x] _ _ _ (fun _=>True) (fun _=>False) rfl rfl HR.out HC.out (fun _ _ h=>h) (fun _ h=>h.elim) (fun _ _=>trivial) HB.out HBASE.out (by omega) ?_;intro v5 w5 ho hb hg hat;have HO5:=Aside0.mk ho;have HB5:=Aside0.mk hb;clear ho hb hg hat)
    all_goals (go_ret;exact ⟨_,rfl,HO5.out,HB5.out⟩)
set_option maxHeartbeats 4000000 in
set_option maxRecDepth 100000 in
theorem sliInsert_shift (w:World) (g n c i vb:Nat) (cs vs:List Value) (cur:Array Value) (hh:w.heap[g]?=some (.cells cur 79 (0,0))) (hsz:cur.size=c*12) (hi:i<n) (hroom:n+1≤c) (hc63:c≤9223372036854775807) (hvb:vb≠g)
    (hcs:cur.toList.take (n*12)=cs) (hv:w.heap[vb]?=some (.cells vs.toArray 79 (0,0))) (hvl:vs.length=12) (h1c: ∀u∈cs,u.oneCell'=true) (h1v: ∀u∈vs,u.oneCell'=true):
    Calls Try.prog 156 #[.slice (some ⟨g,0,none⟩) n c, .int .i64 i, .slice (some ⟨vb,0,none⟩) 1 1] w fun e w'=>e= .returned (.slice (some ⟨g,0,none⟩) (n+1) c)∧w'=(w.drew.setCells g ((i+1)*12) (cs.drop (i*12))).setCells g (i*12) vs:=by
  have hcl:cs.length=n*12:=by rw [←hcs,List.length_take,Array.length_toList,hsz];omega
  have hdl:(cs.drop (i*12)).length=(n - i)*12:=by rw [List.length_drop,hcl];omega
  have hget: ∀j u,cs[j]?=some u→w.cell? ⟨g,j,none⟩=some u:=by
    intro j u hu;rw [←hcs,List.getElem?_take] at hu
    split at hu
    · exact plain_cell hh hu
    cases hu
  have hS:(Try.prog.info? 79).map (·.size)=some 12:=by
    obtain ⟨i0,hi0,_,h1,_⟩:=info_parts info79;rw [hi0]
    simp [h1]
  have hov: ∀o lb cb,(callFunc 172 #[.slice (some ⟨vb,0,none⟩) 1 1, .slice (some ⟨g,o,none⟩) lb cb]).run Try.prog w= .ok (.value (.bool false)) w:=fun o lb cb=>by
    rw [run_callFunc_extern Try.func172 (by kernel_rfl) (by kernel_rfl) (by kernel_rfl) (e:=Extern.SlicesOverlaps.overlaps #[46,46] #[4]) (by kernel_rfl),
      Lib.run_overlaps_apart w 46 4 79 Try.underlying46 12 Try.sizeOf79 ⟨vb,0,none⟩ ⟨g,o,none⟩ 1 1 lb cb hvb 79 79 12 (c*12) (by rw [←hvl];simp [World.shape?,hv]) (by rw [←hsz];simp [World.shape?,hh]) (by omega) (blk_frozen hv _) (blk_frozen hv _)]
    rfl
  have hcp1: ∀ty o1 n1 dc o2 n2 sc,o1=(i+1)*12→n1=n - i→o2=i*12→n2=n+1 - i→(Builtin.copy_ #[46,46] ty #[.slice (some ⟨g,o1,none⟩) n1 dc, .slice (some ⟨g,o2,none⟩) n2 sc]).run Try.prog w.drew= .ok (goInt (n - i:Nat)) (w.drew.setCells g ((i+1)*12) (cs.drop (i*12))):=by
    rintro ty _ _ dc _ _ sc rfl rfl rfl rfl
    exact run_copy_wide w.drew _ _ ty 79 12 g ((i+1)*12) (n - i) dc ⟨g,i*12,none⟩ (n+1 - i) sc (cs.drop (i*12)) Try.underlying46 hS (n - i) (by simp only [Nat.min_def];split<;>omega) hdl
      (fun j u hj=>by rw [Addr.add_lit];exact hget (i*12+j) u (by rwa [List.getElem?_drop] at hj))
      (fun j hj=>plain_there (w:=w.drew) (blk_drew hh) (by rw [hdl] at hj;omega)) (fun j hj=>blk_frozen (w:=w.drew) (blk_drew hh) _) (fun u hu=>h1c u (List.mem_of_mem_drop hu))
  obtain ⟨W1,hW1⟩: ∃W1,W1=w.drew.setCells g ((i+1)*12) (cs.drop (i*12)):=⟨_,rfl⟩
  have hg1: ∃cur1,W1.heap[g]?=some (.cells cur1 79 (0,0))∧cur1.size=cur.size:=by
    obtain ⟨cur',a,b,_⟩:=setCells_row (cs.drop (i*12)) ((i+1)*12) w.drew cur (blk_drew hh) (by rw [hdl];omega);exact ⟨cur',by rw [hW1];exact a,b⟩
  obtain ⟨cur1,hg1,hz1⟩:=hg1;have hvb1:W1.heap[vb]?=some (.cells vs.toArray 79 (0,0)):=by rw [hW1,setCells_far _ _ _ hvb];exact blk_drew hv
  have hcp2: ∀ty o1 n1 dc,o1=i*12→n1=n+1 - i→(Builtin.copy_ #[46,46] ty #[.slice (some ⟨g,o1,none⟩) n1 dc, .slice (some ⟨vb,0,none⟩) 1 1]).run Try.prog W1= .ok (goInt (1:Nat)) (W1.setCells g (i*12) vs):=by
    rintro ty _ _ dc rfl rfl
    exact run_copy_wide W1 _ _ ty 79 12 g (i*12) (n+1 - i) dc ⟨vb,0,none⟩ 1 1 vs Try.underlying46 hS 1 (by simp only [Nat.min_def];split<;>omega) (by omega)
      (fun j u hj=>by rw [Addr.add_lit,Nat.zero_add];exact plain_cell hvb1 (by simpa using hj))
      (fun j hj=>plain_there hg1 (by omega)) (fun j hj=>blk_frozen hg1 _) h1v
  have HW:=Aside0.mk hW1;rw [←hW1] at hcp1;have CP1:=Aside0.mk hcp1;have CP2:=Aside0.mk hcp2;have HOV:=Aside0.mk hov;have hz1: ¬((1:Int)=0):=by omega
  have hz2: ¬((i:Int)=(n:Int)):=by omega
  have hz3: ¬((c:Int)<(n:Int)+1):=by omega
  have hin:i≤n:=by omega
  have hz4:(0:Int)≤(i:Int)+1:=by omega
  have hz5:(i:Int)+1≤(n:Int)+1:=by omega
  have hz6:(i:Int)≤(n:Int)+1:=by omega
  have hz7: ¬(c=i+1):=by omega
  have hz8: ¬(c=i):=by omega
  have hw1:IntKind.i64.wrap ((i:Int)+1)=(i:Int)+1:=by rw [IntKind.wrap_i64];omega
  have htn:((i:Int)+1).toNat=i+1:=by omega
  have mixed:Try.prog.follows .mixedOrders=true:=by kernel_rfl
  clear hcl hdl hget hS hov hcp1 hcp2 hW1 hg1 hz1 hvb1 hh hsz hcs hv hvl h1c h1v;go_enter Try.func156,Try.ntmps156;go_wp2_with (rw [HOV.out])
  go_region_law_o (refine step_copy rfl _ _ 46 46 rfl (.slice (some ⟨g,(i+1)*12,none⟩) (n - i) (c - (i+1))) (.slice (some ⟨g,i*12,none⟩) (n+1 - i) (c - i)) (by simp [Act.eval,Act.put]) (by simp [Act.eval,Act.put]) (CP1.out _ _ _ _ _ _ _ rfl rfl rfl rfl) ?_)
  go_wp2_with fail
  rw [CP2.out _ _ _ _ rfl rfl];go_wp2
  go_ret
  refine ⟨rfl, ?_⟩;rw [HW.out]
set_option maxHeartbeats 4000000 in
set_option maxRecDepth 100000 in
theorem sliInsert_grow (w:World) (g n c i vb:Nat) (cs vs:List Value) (cur:Array Value) (hh:w.heap[g]?=some (.cells cur 79 (0,0))) (hsz:cur.size=c*12) (hi:i<n) (hnc:n≤c) (hroom:c<n+1) (hlim:n<1000000)
    (hcs:cur.toList.take (n*12)=cs) (hv:w.heap[vb]?=some (.cells vs.toArray 79 (0,0))) (hvl:vs.length=12) (h1c: ∀u∈cs,u.oneCell'=true) (h1v: ∀u∈vs,u.oneCell'=true):
    Calls Try.prog 156 #[.slice (some ⟨g,0,none⟩) n c, .int .i64 i, .slice (some ⟨vb,0,none⟩) 1 1] w fun e w'=> ∃(G:Nat) (cur':Array Value),e= .returned (.slice (some ⟨w.heap.size,0,none⟩) (n+1) G)∧n+1≤G∧G≤9223372036854775807∧
      w'.heap[w.heap.size]?=some (.cells cur' 79 (0,0))∧cur'.size=G*12∧cur'.toList.take ((n+1)*12)=cs.take (i*12)++vs++cs.drop (i*12)∧Below w.heap.size w w':=by
  have hcl:cs.length=n*12:=by rw [←hcs,List.length_take,Array.length_toList,hsz];omega
  have hdl:(cs.drop (i*12)).length=(n - i)*12:=by rw [List.length_drop,hcl];omega
  have htl:(cs.take (i*12)).length=i*12:=by rw [List.length_take,hcl];omega
  have hget: ∀j u,cs[j]?=some u→w.cell? ⟨g,j,none⟩=some u:=by
    intro j u hu;rw [←hcs,List.getElem?_take] at hu
    split at hu
    · exact plain_cell hh hu
    cases hu
  obtain ⟨i0,hi0,hz0,hzs,hzb⟩:=info_parts info79
  have hS:(Try.prog.info? 79).map (·.size)=some 12:=by
    rw [hi0]
    simp [hzs]
  have hgw:g<w.heap.size:=blk_lt hh;have hvw:vb<w.heap.size:=blk_lt hv;have hkk:(n:Int)+1 - (i:Int)=((n+1 - i:Nat):Int):=by omega
  have hik:i+(n+1 - i)=n+1:=by omega
  have hold:(Builtin.firstCells i0.size i (.slice (some ⟨g,0,none⟩) i c)).run Try.prog w.drew= .ok (cs.take (i*12)).toArray w.drew:=by
    rw [hzs]
    exact run_firstCells_some w.drew 12 i ⟨g,0,none⟩ i c (cs.take (i*12)) htl (fun j u hj=>by
      rw [Addr.add_lit,Nat.zero_add];rw [List.getElem?_take] at hj
      split at hj
      · exact hget j u hj
      cases hj)
  obtain ⟨G,hG⟩: ∃G,G=grownCap w (n+1) c 79:=⟨_,rfl⟩;obtain ⟨ROW,hROW⟩: ∃ROW:Array Value,ROW=(cs.take (i*12)).toArray++Builtin.zeroCells (Value.agg zCells.toArray).cells (n+1 - i)++Builtin.zeroCells (Value.agg zCells.toArray).cells (G - (n+1)):=⟨_,rfl⟩
  have hrz: ∀ty k,k=(n:Int)+1 - (i:Int)→(Builtin.append_ #[46,3] ty #[.slice (some ⟨g,0,none⟩) i c, .int .i64 k]).run Try.prog w=
      .ok (.slice (some ⟨w.heap.size,0,none⟩) (n+1) G) (w.drew.alloc (.cells ROW 79)):=fun ty k hk=>by
    have h:=Lib.run_append_grow_zeros w 46 3 ty 79 i0 _ .i64 .i64 Try.underlying46 Try.underlying3 hi0 hz0 (some ⟨g,0,none⟩) i c (cs.take (i*12)) hold (n+1 - i) (by omega) (by omega) (by omega) (by omega) (by rw [hzb];omega) (by rw [hzb,hik];exact growslice_fits hroom (by omega))
    rw [hik] at h
    rw [hk,hkk,hG,hROW,hG]
    exact h
  have hGn:n+1≤G:=by rw [hG];exact grownCap_ge w _ _ _
  have hG63:G≤9223372036854775807:=by
    have:=grownCap_le_maxLen w (n+1) c 79 (by unfold maxLen;omega)
    rw [←hG] at this;unfold maxLen at this
    omega
  have hRl:ROW.size=G*12:=by
    rw [hROW]
    simp [Builtin.zeroCells,Value.cells,zCells,htl]
    omega
  have hRt:ROW.toList.take (i*12)=cs.take (i*12):=by
    rw [hROW];simp only [Array.toList_append,List.append_assoc];exact List.take_left' htl
  obtain ⟨W1,hW1⟩: ∃W1,W1=w.drew.alloc (.cells ROW 79):=⟨_,rfl⟩;rw [←hW1] at hrz;have hN:W1.heap[w.heap.size]?=some (.cells ROW 79 (0,0)):=by rw [hW1];exact blk_new w.drew _
  have hg1:W1.heap[g]?=some (.cells cur 79 (0,0)):=by rw [hW1];exact blk_alloc (blk_drew hh) _
  have hv1:W1.heap[vb]?=some (.cells vs.toArray 79 (0,0)):=by rw [hW1];exact blk_alloc (blk_drew hv) _
  have hB1:Below w.heap.size w W1:=by rw [hW1];exact below_alloc (below_drew (Below.refl _ _)) _
  have hcpA: ∀ty o1 n1 dc,o1=i*12→n1=n+1 - i→(Builtin.copy_ #[46,46] ty #[.slice (some ⟨w.heap.size,o1,none⟩) n1 dc, .slice (some ⟨vb,0,none⟩) 1 1]).run Try.prog W1= .ok (goInt (1:Nat)) (W1.setCells w.heap.size (i*12) vs):=by
    rintro ty _ _ dc rfl rfl
    exact run_copy_wide W1 _ _ ty 79 12 w.heap.size (i*12) (n+1 - i) dc ⟨vb,0,none⟩ 1 1 vs Try.underlying46 hS 1 (by simp only [Nat.min_def];split<;>omega) (by omega)
      (fun j u hj=>by rw [Addr.add_lit,Nat.zero_add];exact plain_cell hv1 (by simpa using hj))
      (fun j hj=>plain_there hN (by omega)) (fun j hj=>blk_frozen hN _) h1v
  obtain ⟨W2,hW2⟩: ∃W2,W2=W1.setCells w.heap.size (i*12) vs:=⟨_,rfl⟩;rw [←hW2] at hcpA;obtain ⟨R2,hN2,hR2,hT2⟩:=setCells_row vs (i*12) W1 ROW hN (by omega);rw [←hW2] at hN2;have hg2:W2.heap[g]?=some (.cells cur 79 (0,0)):=by rw [hW2,setCells_far _ _ _ (by omega)];exact hg1
  have hB2:Below w.heap.size w W2:=by rw [hW2];exact Below.setCells_ hB1 (Nat.le_refl _) _ _
  have hcpB: ∀ty o1 n1 dc o2 n2 sc,o1=(i+1)*12→n1=n - i→o2=i*12→n2=n - i→(Builtin.copy_ #[46,46] ty #[.slice (some ⟨w.heap.size,o1,none⟩) n1 dc, .slice (some ⟨g,o2,none⟩) n2 sc]).run Try.prog W2.drew= .ok (goInt (n - i:Nat)) (W2.drew.setCells w.heap.size ((i+1)*12) (cs.drop (i*12))):=by
    rintro ty _ _ dc _ _ sc rfl rfl rfl rfl
    exact run_copy_wide W2.drew _ _ ty 79 12 w.heap.size ((i+1)*12) (n - i) dc ⟨g,i*12,none⟩ (n - i) sc (cs.drop (i*12)) Try.underlying46 hS (n - i) (by simp only [Nat.min_def];split<;>omega) hdl
      (fun j u hj=>by
        rw [Addr.add_lit];rw [List.getElem?_drop] at hj;refine plain_cell (w:=W2.drew) (blk_drew hg2) ?_;rw [←hcs,List.getElem?_take] at hj
        split at hj
        · exact hj
        cases hj)
      (fun j hj=>plain_there (w:=W2.drew) (blk_drew hN2) (by rw [hdl] at hj;omega)) (fun j hj=>blk_frozen (w:=W2.drew) (blk_drew hN2) _) (fun u hu=>h1c u (List.mem_of_mem_drop hu))
  obtain ⟨W3,hW3⟩: ∃W3,W3=W2.drew.setCells w.heap.size ((i+1)*12) (cs.drop (i*12)):=⟨_,rfl⟩;rw [←hW3] at hcpB;obtain ⟨R3,hN3,hR3,hT3⟩:=setCells_row (cs.drop (i*12)) ((i+1)*12) W2.drew R2 (blk_drew hN2) (by omega);rw [←hW3] at hN3;have hB3:Below w.heap.size w W3:=by rw [hW3];exact Below.setCells_ (below_drew hB2) (Nat.le_refl _) _ _
  have hFin:R3.toList.take ((n+1)*12)=cs.take (i*12)++vs++cs.drop (i*12):=by
    have e1:R2.toList.take ((i+1)*12)=cs.take (i*12)++vs:=by
      rw [hT2,hRt];exact List.take_left' (by simp only [List.length_append,htl,hvl];omega)
    rw [hT3,e1];exact List.take_left' (by simp only [List.length_append,htl,hvl,hdl];omega)
  have hz1: ¬((1:Int)=0):=by omega
  have hz2: ¬((i:Int)=(n:Int)):=by omega
  have hz3:(c:Int)<(n:Int)+1:=by omega
  have hin:i≤n:=by omega
  have hz4:(0:Int)≤(i:Int)+1:=by omega
  have hz5:(i:Int)+1≤(n:Int)+1:=by omega
  have hz6:(i:Int)≤(n:Int)+1:=by omega
  have hz7: ¬(G=i+1):=by omega
  have hz8: ¬(G=i):=by omega
  have hz9: ¬(c=i):=by omega
  have hw1:IntKind.i64.wrap ((i:Int)+1)=(i:Int)+1:=by rw [IntKind.wrap_i64];omega
  have hw2:IntKind.i64.wrap ((n:Int)+1)=(n:Int)+1:=by rw [IntKind.wrap_i64];omega
  have hw3:IntKind.i64.wrap ((n:Int)+1 - (i:Int))=(n:Int)+1 - (i:Int):=by rw [IntKind.wrap_i64];omega
  have htn:((i:Int)+1).toNat=i+1:=by omega
  have hic:i≤c:=by omega
  have mixed:Try.prog.follows .mixedOrders=true:=by kernel_rfl
  have RZ:=Aside0.mk hrz;have CA:=Aside0.mk hcpA;have CB:=Aside0.mk hcpB;have E1:=Aside0.mk hGn;have E2:=Aside0.mk hG63;have E3:=Aside0.mk hN3;have E4:=am_ (show R3.size=G*12 by omega);have E5:=Aside0.mk hFin;have E6:=Aside0.mk hB3;clear hcl hdl htl hget hi0 hz0 hzs hzb hS hgw hvw hkk hik hold hG hROW hrz hRl hRt hW1 hN hg1 hv1 hB1 hcpA hW2 hN2 hR2 hT2 hg2 hB2 hcpB hW3 hN3 hR3 hT3 hB3 hFin hh hsz hcs hv hvl h1c h1v hGn hG63 i0 ROW R2;go_enter Try.func156,Try.ntmps156;go_wp2_with ((with_reducible refine gate_builtin (b:= .append) (xs:=#[.tmp 34, .tmp 39]) rfl ?_);at_builtin;refine Lib.wpList_append_run _ rfl _ _ _ _ rfl _ _ rfl rfl _ _ (RZ.out _ _ rfl) ?_)
  rw [CA.out _ _ _ _ rfl rfl];go_wp2_with fail
  go_region_law_o (refine step_copy rfl _ _ 46 46 rfl (.slice (some ⟨w.heap.size,(i+1)*12,none⟩) (n - i) (G - (i+1))) (.slice (some ⟨g,i*12,none⟩) (n - i) (c - i)) (by simp [Act.eval,Act.put]) (by simp [Act.eval,Act.put]) (CB.out _ _ _ _ _ _ _ rfl rfl rfl rfl) ?_)
  go_wp2_with fail
  go_ret
  exact ⟨G,R3,rfl,E1.out,E2.out,E3.out,E4.out,E5.out,E6.out⟩
theorem Below.lower_ {a w:World} {b base:Nat} (h:Below b a w) (hb:base≤b):Below base a w:=⟨h.os,h.tape,h.output,h.size,fun k hk=>h.block k (Nat.lt_of_lt_of_le hk hb)⟩
theorem sliInsert_calls (w:World) (base:Nat) (v:Value) (l:List S79) (i:Nat) (x:S79) (vb:Nat) (hr:Kd.R k79 79 w base (fun _=>True) v l) (hi:i≤l.length) (hv:w.heap[vb]?=some (.cells (shCells x).toArray 79 (0,0))) (hvb:v.ownBlock≠some vb) (hbase:base≤w.heap.size) (hlim:l.length<1000000):
    Calls Try.prog 156 #[v, .int .i64 i, .slice (some ⟨vb,0,none⟩) 1 1] w fun e w'=> ∃v',e= .returned v'∧Kd.R k79 79 w' base (fun _=>True) v' (l.take i++x::l.drop i)∧Below base w w':=by
  rcases Nat.eq_or_lt_of_le hi with rfl|hlt
  · rw [List.take_length, List.drop_length]
    exact sliInsert_end w base v l x vb hr hv hbase hlim
  obtain ⟨g,c,rfl,hg,hgl⟩:=sh_head hr (by omega)
  obtain ⟨_,_,hnc,hcm,cur,hh,hcs,ht⟩:=R_cells hr
  have h1v: ∀u∈shCells x,u.oneCell'=true:=fun u hu=>flat_one [x] u (by simpa [flat] using hu)
  have h1c: ∀u∈flat l,u.oneCell'=true:=flat_one l
  have hvg:vb≠g:=by rintro rfl;exact hvb (by simp [Value.ownBlock])
  have hll:(l.take i++x::l.drop i).length=l.length+1:=by simp;omega
  have hfl:flat (l.take i++x::l.drop i)=(flat l).take (i*12)++shCells x++(flat l).drop (i*12):=by
    rw [flat_append,flat_take l i hi,flat_drop l i hi,List.append_assoc]
    rfl
  by_cases hroom:l.length+1≤c
  rotate_left
  · refine (sliInsert_grow w g l.length c i vb (flat l) (shCells x) cur hh hcs hlt hnc (by omega) hlim ht hv rfl h1c h1v).mono ?_
    rintro e w' ⟨G,cur',rfl,h1,h2,h3,h4,h5,h6⟩
    refine ⟨_,rfl, ?_,Below.lower_ h6 hbase⟩
    have:=R_of_cells (l:=l.take i++x::l.drop i) hbase (by rw [hll];omega) h2 h3 h4 (by rw [hll,hfl,h5])
    rw [hll] at this
    exact this
  refine (sliInsert_shift w g l.length c i vb (flat l) (shCells x) cur hh hcs hlt hroom hcm hvg ht hv rfl h1c h1v).mono ?_
  rintro e w' ⟨rfl,rfl⟩
  have hlc:(l.length+1)*12≤cur.size:=by rw [hcs];exact Nat.mul_le_mul_right _ hroom
  have hl1:((flat l).drop (i*12)).length=(l.length - i)*12:=by rw [List.length_drop,flat_lenI];omega
  obtain ⟨cur1,h1,s1,t1⟩:=setCells_row ((flat l).drop (i*12)) ((i+1)*12) w.drew cur (blk_drew hh) (by rw [hl1];omega)
  obtain ⟨cur2,h2,s2,t2⟩:=setCells_row (shCells x) (i*12) _ cur1 h1 (by rw [s1];show _+12≤_;omega)
  refine ⟨_,rfl, ?_,Below.setCells_ (Below.setCells_ (below_drew (Below.refl _ _)) hg _ _) hg _ _⟩
  have:=R_of_cells (l:=l.take i++x::l.drop i) hg (by rw [hll];omega) hcm h2 (by rw [s2,s1,hcs]) (by
    rw [hll,hfl,t2]
    have e1:cur1.toList.take (i*12)=(flat l).take (i*12):=by
      rw [t1,List.append_assoc,List.take_append_of_le_length (by simp [Array.length_toList];omega),List.take_take,Nat.min_eq_left (by omega),←ht,List.take_take,Nat.min_eq_left (by omega)]
    have e2:(cur1.toList.drop (i*12+(shCells x).length)).take ((l.length - i)*12)=(flat l).drop (i*12):=by
      rw [t1,show i*12+(shCells x).length=(i+1)*12 by rw [shCells_len];omega,List.append_assoc,List.drop_left' (by simp [Array.length_toList];omega)]
      exact List.take_left' hl1
    have e3:(cur1.toList.take (i*12)++shCells x).length=(i+1)*12:=by
      rw [List.length_append,List.length_take,Array.length_toList,shCells_len,Nat.min_eq_left (by omega)]
      omega
    rw [List.take_append,List.take_of_length_le (by rw [e3];omega),e3,show (l.length+1)*12 - (i+1)*12=(l.length - i)*12 by omega,e1,e2])
  rw [hll] at this
  exact this
end Go.Proofs.Ytahidkjncljkaaa.Print

namespace Go.Proofs.Ytahidkjncljkaaa.Print
open Go.RowKit Go.Proofs.YtahidkjncljkaaaW.PrintWords Go.Proofs.YtahidkjncljkaaaW.PrintLast Go.Proofs.YtahidkjncljkaaaW.PrintMore
section
variable {P:Program} {ops:Array Oper} {rest:List Oper} {o:Oper} {a:Act} {Q:Exit→Act→World→Prop} {Kc:Act→World→Prop} {W:World}
theorem put_run {gb e:Nat} {zs:Array Value} (hh:W.heap[gb]?=some (.cells zs e (0,0))) (t:TypeId) (u:Value) (off:Nat) (seg:List Value) (hu:u.cells.toList=seg) (ht:(P.info? t).map (·.size)=some seg.length) (hfit:off+seg.length≤zs.size) (h1: ∀q∈seg,q.oneCell'=true):
  ∃w' cur,(Instr.storeAt t (.pointer (some ⟨gb,off,none⟩)) u).run P W= .ok () w'∧w'.heap[gb]?=some (.cells cur e (0,0))∧cur.size=zs.size∧cur.toList=zs.toList.take off++seg++zs.toList.drop (off+seg.length)∧W.grownBy w' (some gb):=by
 have hrun:=run_store_run (P:=P) t u seg hh hu ht (o:=off) hfit h1;obtain ⟨cur,hc,hs,hl⟩:=setCells_row seg off W zs hh hfit;obtain ⟨s1,s2,s3,s4⟩:=setCells_same gb seg off W;exact ⟨_,cur,hrun,hc,hs,hl,⟨s1,s2,s3,by rw [s4];exact Nat.le_refl _,fun k hk hne=>setCells_far seg off k (by rintro rfl;exact hne rfl)⟩⟩
theorem store_all {gb e:Nat} {zs:Array Value} (hh:W.heap[gb]?=some (.cells zs e (0,0))) (t:TypeId) (p x:Operand) (ho:o.op= .store t p x) (hN:o.dst=none) (hgd:o.guard=none) (u:Value) (seg:List Value)
  (hp:a.eval p= .pointer (some ⟨gb,0,none⟩)) (hx:a.eval x=u) (hu:u.cells.toList=seg) (ht:(P.info? t).map (·.size)=some seg.length) (hz:zs.size=seg.length) (h1: ∀q∈seg,q.oneCell'=true)
  (h: ∀w',w'.heap[gb]?=some (.cells seg.toArray e (0,0))→W.grownBy w' (some gb)→wpList P ops Q rest a w'):wpList P ops Q (o::rest) a W:=by
 obtain ⟨w',cur,hrun,hc,hs,hl,hg⟩:=put_run (P:=P) hh t u 0 seg hu ht (by omega) h1
 have e1:cur=seg.toArray:=by
  apply Array.ext'
  rw [hl,List.take_zero,List.nil_append,Nat.zero_add,List.drop_of_length_le (by simp [Array.length_toList];omega),List.append_nil]
 subst e1
 refine wpList_plain hgd fun K hK=> ?_
 unfold Oper.wp execOp
 simp only [ho,hp,hx,Sem.run_bind,Sem.run_pure,Result.andThen_ok,hrun]
 show K (a.put o.dst undef) _
 rw [hN]
 exact hK a _ (h _ hc hg)
theorem store_part {gb e:Nat} {zs:Array Value} (hh:W.heap[gb]?=some (.cells zs e (0,0))) (t:TypeId) (p x:Operand) (ho:o.op= .store t p x) (hN:o.dst=none) (hgd:o.guard=none) (off:Nat) (u:Value) (seg new:List Value)
  (hp:a.eval p= .pointer (some ⟨gb,off,none⟩)) (hx:a.eval x=u) (hu:u.cells.toList=seg) (ht:(P.info? t).map (·.size)=some seg.length) (hz:off+seg.length≤zs.size) (h1: ∀q∈seg,q.oneCell'=true) (hnew:zs.toList.take off++seg++zs.toList.drop (off+seg.length)=new)
  (h: ∀w',w'.heap[gb]?=some (.cells new.toArray e (0,0))→W.grownBy w' (some gb)→wpList P ops Q rest a w'):wpList P ops Q (o::rest) a W:=by
 obtain ⟨w',cur,hrun,hc,hs,hl,hg⟩:=put_run (P:=P) hh t u off seg hu ht hz h1
 have e1:cur=new.toArray:=by
  apply Array.ext'
  rw [hl,hnew]
 subst e1
 refine wpList_plain hgd fun K hK=> ?_
 unfold Oper.wp execOp
 simp only [ho,hp,hx,Sem.run_bind,Sem.run_pure,Result.andThen_ok,hrun]
 show K (a.put o.dst undef) _
 rw [hN]
 exact hK a _ (h _ hc hg)
end
theorem R_put {α:Type} {d:Kd α} {e base:Nat} {w w1:World} {v:Value} {xs:List α} (h:d.R e w base (fun _=>True) v xs) {g t:Nat} {cells:Array Value} (hb:w.heap[g]?=some (.cells cells t (0,0))) (ht: ∀q,q∈e::d.E→q≠t) (hg:w.grownBy w1 (some g)):d.R e w1 base (fun _=>True) v xs:=
 Kd.R_mono (Kd.R_grown (Kd.R_types h hb ht) hg (fun _ hk e=>hk.2 (Option.some.inj e))) (fun _ _=>trivial)
theorem below_put {a w w1:World} {base g:Nat} (h:Below base a w) (hb:base≤w.heap.size) (hg:w.grownBy w1 (some g)) (hge:base≤g):Below base a w1:=pw_below_grown h (some g) hb hg (fun k e=>by cases e;exact hge)
theorem blk_put_other {w w1:World} {g k:Nat} {ob:Obj} (h:w.heap[k]?=some ob) (hg:w.grownBy w1 (some g)) (hne:k≠g):w1.heap[k]?=some ob:=by
  rw [hg.block k (by
    rcases Nat.lt_or_ge k w.heap.size with hl|hl
    · exact hl
    rw [Array.getElem?_eq_none hl] at h;cases h) (by intro e;cases e;exact hne rfl)]
  exact h
end Go.Proofs.Ytahidkjncljkaaa.Print

namespace Go.Proofs.Ytahidkjncljkaaa.Print
open Go.RowKit Go.Proofs.YtahidkjncljkaaaW.PrintWords Go.Proofs.YtahidkjncljkaaaW.PrintLast Go.Proofs.YtahidkjncljkaaaW.PrintMore
attribute [local go_sem] max2_int min2_int max_two min_two max_three min_three max_four min_four

def placeL (l:List S79) (n:ByteArray):Nat:=(l.takeWhile fun y=>Op.bytesLess y.f0.toList n.toList).length
theorem placeL_le (l:List S79) (n:ByteArray):placeL l n≤l.length:=(List.takeWhile_sublist _).length_le
theorem placeL_lt: ∀(l:List S79) (n:ByteArray) (i:Nat),i<placeL l n→Op.bytesLess (rd_T79 l (i:Int)).f0.toList n.toList=true
  |[],n,i,h=>by simp [placeL] at h
  | y :: l, n, i, h => by
    unfold placeL at h;rw [List.takeWhile_cons] at h
    split at h
    rotate_left
    · simp at h
    rename_i hy
    cases i with
    |zero=>exact hy
    | succ i =>
      have:=placeL_lt l n i (by unfold placeL;simpa using h)
      simpa [rd_T79] using this
theorem placeL_at: ∀(l:List S79) (n:ByteArray),placeL l n<l.length→Op.bytesLess (rd_T79 l (placeL l n:Int)).f0.toList n.toList=false
  |[],n,h=>by simp at h
  | y :: l, n, h => by
    by_cases hy:Op.bytesLess y.f0.toList n.toList=true
    · have e : placeL (y :: l) n = placeL l n + 1 := by unfold placeL; rw [List.takeWhile_cons, if_pos hy, List.length_cons]
      rw [e] at h ⊢
      have:=placeL_at l n (by simpa using h)
      simpa [rd_T79] using this
    have e:placeL (y::l) n=0:=by unfold placeL;rw [List.takeWhile_cons,if_neg hy,List.length_nil]
    rw [e]
    simpa [rd_T79] using hy
def shape_Create.f (l0:List (S79)) (a1:ByteArray) (a2:ByteArray) (a3_0:Int) (a3_1:Int) (a3_2:Int):Option ((List (S79))×Int):=
 (shape_made.f l0 a1).bind fun p=>if a1.toList=([]:List UInt8) then some ([],1) else if (a1.size:Int)>24 then some ([],1) else (vec_May.f a3_0 a3_1 a3_2).bind fun m=>if m=false then some ([],1) else
  if p.2≥0 then some ([],3) else (shape_change_parent.f p.1 p.2 a2).bind fun q=>if q=false then some ([],2) else if (l0.length:Int)≥120 then some ([],4) else
   some (p.1.take (placeL l0 a1)++⟨a1,a2,⟨a3_0,a3_1,a3_2⟩,⟨0,0,0⟩,⟨0,0,0⟩,1⟩::p.1.drop (placeL l0 a1),0)
set_option maxHeartbeats 8000000 in
set_option maxRecDepth 100000 in
theorem shape_Create.calls (A0:Option Addr) (c0:Nat) (l0:List (S79)) (a1:ByteArray) (a2:ByteArray) (a3_0:Int) (a3_1:Int) (a3_2:Int) (r1:List (S79)) (r2:Int) (w:World) (hr0:Kd.C k79 w A0 l0.length l0) (hc0:l0.length≤c0) (h:shape_Create.f l0 a1 a2 a3_0 a3_1 a3_2=some (r1,r2)):
    Calls Try.prog 138 #[.slice A0 l0.length c0, .string a1, .string a2, .agg #[.int .i64 a3_0, .int .i64 a3_1, .int .i64 a3_2]] w fun e w'=> ∃v0_:Value,e= .returned (.tuple #[v0_, .int .i64 r2])∧Kd.R k79 79 w' w.heap.size (fun _=>True) v0_ r1∧Below w.heap.size w w':=by
  have hu197:=Try.underlying197;have hu195:=Try.underlying195;have hu79:=Try.underlying79;have hu37:=Try.underlying37;unfold shape_Create.f at h;obtain ⟨⟨out,j⟩,hmd,h1⟩:=Option.bind_eq_some_iff.1 h;clear h
  have hout:out=l0∧l0.length<1256584717458:=by
    unfold shape_made.f slices_Clone_Item.f at hmd
    split at hmd
    rotate_left
    · cases hmd
    obtain ⟨_,h1,h2⟩:=Option.bind_eq_some_iff.1 hmd;obtain ⟨_,h3,h4⟩:=Option.bind_eq_some_iff.1 h2;cases h4;exact ⟨(Option.some.inj h1).symm,by assumption⟩
  obtain ⟨rfl,hlim⟩:=hout;have HR:=Aside0.mk hr0;have HC:=Aside0.mk hc0;have HM:=Aside0.mk hmd;have HB:=am_ (Below.refl w.heap.size w);have HH:=Aside0.mk h1;clear hr0 hc0 hmd h1 hlim;go_enter Try.func138,Try.ntmps138;go_wp2_with (first|((with_reducible refine gate_dst (N:=7) rfl ?_);refine bx_ (N:=7) (cs:=#[.int .i64 a3_0, .int .i64 a3_1, .int .i64 a3_2]) (t:=37) ?_;intro gb1 hg w1 hbox hb;have BK1:=am_ (hbox);have GE1:=am_ ((by rw [hg];exact below_size HB.out:w.heap.size≤gb1));replace HB:=am_ (below_step HB.out hb);have EQ1:=am_ (hg);clear hb hbox hg))
  refine (shape_made.calls _ _ _ _ _ _ _ (Kd.C_below HR.out HB.out) HC.out HM.out).mono ?_;rintro e w3 ⟨v0,rfl,ho,hb⟩;have HO:=am_ (Kd.R_lower ho (below_size HB.out));have HLT:=am_ (Kd.R_lt ho);have GT1:=am_ (Nat.lt_of_lt_of_le (blk_lt BK1.out) hb.size);replace BK1:=am_ (blk_below BK1.out hb);replace HB:=am_ (below_step HB.out hb);clear ho hb;obtain ⟨A5,c5,rfl⟩: ∃A5 c5,v0= .slice A5 out.length c5:=Kd.R_slice HO.out;have h1:=HH.out;clear HH;by_cases c1:a1.toList=([]:List UInt8);rw [if_pos c1] at h1;have c1b2:a1.toList.isEmpty=true:=by rw [c1];rfl
  cases h1;clear c1;rotate_left;rw [if_neg c1] at h1;have c1b2:a1.toList.isEmpty=false:=by simpa using c1
  clear c1;by_cases c2:(a1.size:Int)>24;rw [if_pos c2] at h1;cases h1;have q2:=eq_true c2;rotate_left;rw [if_neg c2] at h1;have q2:=eq_false c2;obtain ⟨m,hm,h2⟩:=Option.bind_eq_some_iff.1 h1;have HMAY:=Aside0.mk hm;have HH:=Aside0.mk h2;clear hm h1 h2 c2;rotate_left
  all_goals (
  go_wp2_with (first|((with_reducible refine gate_dst (N:=10) rfl ?_);refine bx_ (N:=10) (cs:=#[.slice none 0 0, .int .i64 0]) (t:=197) ?_;intro gb2 hg w4 hbox hb;replace HO:=am_ (Kd.R_below HO.out hb);replace BK1:=am_ (blk_below BK1.out hb);have BK2:=am_ (hbox);have GE2:=am_ ((by rw [hg];exact below_size HB.out:w.heap.size≤gb2));replace HB:=am_ (below_step HB.out hb);have EQ2:=am_ (hg);clear hb hbox hg)|((with_reducible refine gate_store (t:=197) (p:=10) (v:= .tmp 14) rfl ?_);refine store_all BK2.out 197 (.tmp 10) (.tmp 14) rfl rfl rfl (.agg #[.slice A5 out.length c5, .int .i64 j]) [.slice A5 out.length c5, .int .i64 j] rfl rfl rfl (by kernel_rfl) rfl (by intro q hq;simp only [List.mem_cons,List.not_mem_nil,or_false] at hq;rcases hq with rfl|rfl<;>rfl) ?_;intro w5 hbk hg;replace HO:=am_ (R_put HO.out BK2.out (by decide) hg);replace BK1:=am_ (blk_put_other BK1.out hg (by have:=EQ2.out;have:=GT1.out;omega));replace HB:=am_ (below_put HB.out (below_size HB.out) hg GE2.out);replace BK2:=am_ (hbk);clear hbk hg;obtain ⟨_,_,_⟩:=xz3_ BK1;obtain ⟨cgb2_0,cgb2_1⟩:=xz2_ BK2)))
  ·go_ret2
   exact ⟨_,rfl,Kd.R_nil _ _ _ _ _,HB.out⟩
  ·go_ret2
   exact ⟨_,rfl,Kd.R_nil _ _ _ _ _,HB.out⟩
  ·refine (vec_May.calls _ _ _ _ _ HMAY.out).mono ?_;rintro e w6 ⟨rfl,hb⟩;clear cgb2_0 cgb2_1;replace HO:=am_ (Kd.R_below HO.out hb);replace BK1:=am_ (blk_below BK1.out hb);replace BK2:=am_ (blk_below BK2.out hb);replace HB:=am_ (below_step HB.out hb);clear hb;obtain ⟨cgb2_0,cgb2_1⟩:=xz2_ BK2;have h1:=HH.out;clear HH
   cases m with
   | false =>
     rw [if_pos rfl] at h1;cases h1;go_wp2_with fail
     go_ret2
     exact ⟨_,rfl,Kd.R_nil _ _ _ _ _,HB.out⟩
   | true =>
     rw [if_neg (by simp)] at h1;by_cases c3:j≥0
     · rw [if_pos c3] at h1
       cases h1
       have q3:=eq_true c3
       clear c3
       go_wp2_with fail
       go_ret2
       exact ⟨_,rfl,Kd.R_nil _ _ _ _ _,HB.out⟩
     rw [if_neg c3] at h1;have q3:=eq_false c3;obtain ⟨q,hq,h2⟩:=Option.bind_eq_some_iff.1 h1;have HQ:=Aside0.mk hq;have HH:=Aside0.mk h2;clear hq h1 h2 c3;go_wp2_with fail
     refine (shape_change_parent.calls _ _ _ _ _ _ _ (Kd.R_reads' HO.out).2.2 (Kd.R_reads' HO.out).2.1 HQ.out).mono ?_;rintro e w7 ⟨rfl,hb⟩;clear cgb2_0 cgb2_1;replace HO:=am_ (Kd.R_below HO.out hb);replace BK1:=am_ (blk_below BK1.out hb);replace BK2:=am_ (blk_below BK2.out hb);replace HB:=am_ (below_step HB.out hb);clear hb;obtain ⟨cgb2_0,cgb2_1⟩:=xz2_ BK2;have h1:=HH.out;clear HH
     cases q with
     | false =>
       rw [if_pos rfl] at h1;cases h1;go_wp2_with fail
       go_ret2
       exact ⟨_,rfl,Kd.R_nil _ _ _ _ _,HB.out⟩
     | true =>
       rw [if_neg (by simp)] at h1;by_cases c4:(out.length:Int)≥120
       · rw [if_pos c4] at h1
         cases h1
         have q4:=eq_true c4
         go_wp2_with fail
         go_ret2
         exact ⟨_,rfl,Kd.R_nil _ _ _ _ _,HB.out⟩
       rw [if_neg c4] at h1;cases h1;have q4:=eq_false c4;have HL:=am_ (show out.length<1000000 by omega);have HPL:=am_ (placeL_le out a1);clear c4;obtain ⟨_,_,_⟩:=xz3_ BK1;go_wp2_with fail
       go_loopg [11] (placeL out a1) (fun kq s11 wr=>wr=w7∧ ∃i:Nat,i≤placeL out a1∧placeL out a1 - i≤kq∧s11= .int .i64 i)
       case atStart=>exact ⟨rfl,0,by omega,by omega,rfl⟩
       case round=>
         obtain ⟨rfl,i,hi,hg,rfl⟩:=hrel;have hlen:=HPL.out;by_cases hlt:i<out.length;rotate_left
         · have q5 : ((i : Int) < (out.length : Int)) = False := eq_false (by omega)
           obtain rfl:i=placeL out a1:=by omega
           go_wp2_with fail
           refine (sliInsert_calls _ w.heap.size _ out (placeL out a1) ⟨a1,a2,⟨a3_0,a3_1,a3_2⟩,⟨0,0,0⟩,⟨0,0,0⟩,1⟩ _ (Kd.R_below HO.out (below_alloc (Below.refl _ _) _)) HPL.out (blk_new _ _) (fun e=>absurd (Kd.R_lt HO.out _ e) (by omega)) (below_size (below_alloc HB.out _)) HL.out).mono ?_
           rintro e w9 ⟨v1,rfl,ho,hb⟩
           have HO9:=Aside0.mk ho
           have HB9:=am_ ((below_alloc HB.out _).trans hb)
           clear ho hb
           go_wp2_with fail
           go_ret2
           exact ⟨_,rfl,HO9.out,HB9.out⟩


         have q5:((i:Int)<(out.length:Int))=True:=eq_true (by omega);have q6:((0:Int)≤(i:Int))=True:=eq_true (by omega);obtain ⟨ad,e1,k0,_⟩:=at_T79 (Kd.C_below HR.out HB.out) (i:Int) (by omega) (by omega);cases e1;simp only [Int.toNat_natCast] at k0;by_cases hp:i<placeL out a1
         · have q7 := placeL_lt out a1 i hp
           go_wp2_with fail
           have hL:=HL.out
           go_roundg (placeL out a1 - (i+1))
           case measure=>omega
           case rel=>exact ⟨rfl,i+1,by omega,by omega,by rw [show wrap64 ((i:Int)+1)=((i+1:Nat):Int) from by unfold wrap64;omega]⟩
         obtain rfl:i=placeL out a1:=by omega
         have q7:=placeL_at out a1 hlt;go_wp2_with fail
         refine (sliInsert_calls _ w.heap.size _ out (placeL out a1) ⟨a1,a2,⟨a3_0,a3_1,a3_2⟩,⟨0,0,0⟩,⟨0,0,0⟩,1⟩ _ (Kd.R_below HO.out (below_alloc (Below.refl _ _) _)) HPL.out (blk_new _ _) (fun e=>absurd (Kd.R_lt HO.out _ e) (by omega)) (below_size (below_alloc HB.out _)) HL.out).mono ?_;rintro e w9 ⟨v1,rfl,ho,hb⟩;have HO9:=Aside0.mk ho;have HB9:=am_ ((below_alloc HB.out _).trans hb);clear ho hb;go_wp2_with fail
         go_ret2
         exact ⟨_,rfl,HO9.out,HB9.out⟩
end Go.Proofs.Ytahidkjncljkaaa.Print

namespace Go.Proofs.Ytahidkjncljkaaa.Print
open Go.RowKit Go.Proofs.YtahidkjncljkaaaW.PrintWords Go.Proofs.YtahidkjncljkaaaW.PrintLast Go.Proofs.YtahidkjncljkaaaW.PrintMore
theorem R_base_ {α:Type} {d:Kd α} {e base:Nat} {ok:Nat→Prop} {w:World} {v:Value} {xs:List α} (h:d.R e w base ok v xs) (k:Nat) (hk:v.ownBlock=some k):base≤k:=Kd.R_base h k hk
theorem older_zero {l r:List S79} {j:Int} (h:olderF l j=some (0,r)):0≤j∧j<(l.length:Int):=by
  unfold olderF at h
  split at h
  · assumption
  cases h
theorem older_len {l r:List S79} {j e:Int} (h:olderF l j=some (e,r)):r.length=l.length:=by
  unfold olderF at h
  split at h
  rotate_left
  · cases h
  split at h
  · cases h;rfl
  cases h;simp
theorem sh_cells' {base:Nat} {w:World} {g c n:Nat} {l:List S79} (h:Kd.R k79 79 w base (fun _=>True) (.slice (some ⟨g,0,none⟩) n c) l) (hn:l.length=n) (j:Int) (h0:0≤j) (h1:j<(n:Int)):
  ∀j' u,(shCells (rd_T79 l j))[j']?=some u→w.cell? ⟨g,j.toNat*12+j',none⟩=some u:=by
 subst hn;exact sh_cells h j h0 h1
theorem sh_block {α:Type} {d:Kd α} {e base:Nat} {ok:Nat→Prop} {w:World} {g n c:Nat} {xs:List α} (h:d.R e w base ok (.slice (some ⟨g,0,none⟩) n c) xs): ∃cur,w.heap[g]?=some (.cells cur e (0,0))∧n*d.sz≤cur.size:=by
  obtain ⟨_,inner,⟨_,h|⟨g',cap',cur,hv,hg,hh,hnc,hcm,hcs,_⟩⟩,_⟩:=h
  · cases h.1
  cases hv
  exact ⟨cur,hh,by rw [hcs];exact Nat.mul_le_mul_right _ (by omega)⟩
theorem sh_store {P:Program} {ops:Array Oper} {o:Oper} {a:Act} {Q:Exit→Act→World→Prop} {Kc:Act→World→Prop} {α:Type} (d:Kd α) {W:World} (base:Nat) (hw:Region.wanted o (yielded ops a.tmps)=true) (t:TypeId) (p x:Operand) (ho:o.op= .store t p x) (hN:o.dst=none) (e:TypeId) {g n cap:Nat} (i:Int) (j:Nat) (xs:List α) (x':α) (u:Value) (seg c:List Value) (ok okp:Nat→Prop)
  (haddr:a.eval p= .pointer (some ⟨g,i.toNat*d.sz+j,none⟩)) (hx:a.eval x=u) (hu:u.cells.toList=seg) (ht:(P.info? t).map (·.size)=some seg.length) (h1: ∀q∈seg,q.oneCell'=true)
  (HO:d.R e W base ok (.slice (some ⟨g,0,none⟩) n cap) xs) (h0:0≤i) (hi:i<n) (hcl:c.length=d.sz) (hcc: ∀j u,c[j]?=some u→W.cell? ⟨g,i.toNat*d.sz+j,none⟩=some u)
  (hj:j+seg.length≤d.sz) (hM:d.M W base okp x' (c.take j++seg++c.drop (j+seg.length))) (hokp: ∀k,okp k→ok k∧k≠g)
  (h: ∀w1,d.R e w1 base ok (.slice (some ⟨g,0,none⟩) n cap) (xs.set i.toNat x')→W.grownBy w1 (some g)→Kc a w1):if Region.wanted o (yielded ops a.tmps)=true then Oper.wp P o a W Kc Q else Kc (a.put none undef) W:=by
 obtain ⟨hrow,hg⟩:=Kd.R_seg HO i h0 hi hcl hcc hj hM hokp
 obtain ⟨cur,hh,hsz⟩:=sh_block HO
 have h2:i.toNat*d.sz+d.sz≤n*d.sz:=by rw [←Nat.succ_mul];exact Nat.mul_le_mul_right _ (by omega)
 have hrun:=run_store_run (P:=P) t u seg hh hu ht (o:=i.toNat*d.sz+j) (by omega) h1
 rw [if_pos hw]
 unfold Oper.wp execOp
 simp only [ho,haddr,hx,Sem.run_bind,Sem.run_pure,Result.andThen_ok,hrun]
 show Kc (a.put o.dst undef) _
 rw [hN]
 exact h _ hrow hg
theorem R_turned {α:Type} {d:Kd α} {e base base0:Nat} {w w1:World} {u v:Value} {xs:List α} {l:List S79} (h:d.R e w base0 (fun _=>True) u xs) (hv:Kd.R k79 79 w base (fun _=>True) v l) (ht: ∀q,q∈e::d.E→q≠79) (hT:Turned w w1 base v):d.R e w1 base0 (fun _=>True) u xs:=by
  have hcase:v.ownBlock=none∨ ∃g cells,v.ownBlock=some g∧w.heap[g]?=some (.cells cells 79 (0,0)):=by
    cases hb:v.ownBlock with
    |none=>exact .inl rfl
    | some g =>
      obtain ⟨inner,ho⟩:=Kd.R_own hv
      obtain ⟨cells,hc⟩:=own_typed ho g hb
      exact .inr ⟨g,cells,rfl,hc⟩
  rcases hcase with hn|⟨g,cells,hb,hc⟩
  · refine Kd.R_step h (fun k _ hk => ?_)
    rw [Array.getElem?_eq_getElem hk]
    exact hT.block k _ (Array.getElem?_eq_getElem hk) (by rw [hn];simp)
  refine Kd.R_mono (Kd.R_step (Kd.R_types h hc ht) (fun k hk hlt=> ?_)) (fun _ _=>trivial)
  rw [Array.getElem?_eq_getElem hlt]
  exact hT.block k _ (Array.getElem?_eq_getElem hlt) (by rw [hb];intro q;exact hk.2 (Option.some.inj q))
theorem Turned.trans_ {W w1 w2:World} {base:Nat} {v:Value} (h:Turned W w1 base v) (k:Turned w1 w2 base v):Turned W w2 base v:=⟨h.below.trans k.below,fun b o hk hn=>k.block b o (h.block b o hk hn) hn⟩
theorem Turned.below_ {W w1 w2:World} {base:Nat} {v:Value} (h:Turned W w1 base v) (hb:base≤w1.heap.size) (k:Below w1.heap.size w1 w2):Turned W w2 base v:=h.trans_ (Turned.of_below k hb)
theorem Turned.grown_ {W w1 w2:World} {base g n c:Nat} (h:Turned W w1 base (.slice (some ⟨g,0,none⟩) n c)) (hb:base≤w1.heap.size) (hg0:base≤g) (hg:w1.grownBy w2 (some g)):Turned W w2 base (.slice (some ⟨g,0,none⟩) n c):=
 h.trans_ (Turned.then_grown (Turned.of_below (Below.refl _ _) hb) hb hg0 hg)
def shSub (op:S37→S37) (y:S79):S79:=⟨y.f0,y.f1,y.f2,y.f3,op y.f4,y.f5⟩
def shiftF (op:S37→S37):List ByteArray→List S79→Option (List S79)
 |[],out=>some out
 |s::us,out=>(tree_Find.f out s).bind fun j=>if 0≤j∧j<(out.length:Int) then shiftF op us (out.set j.toNat (shSub op (rd_T79 out j))) else none
end Go.Proofs.Ytahidkjncljkaaa.Print

namespace Go.Proofs.Ytahidkjncljkaaa.Print
open Go.RowKit Go.Proofs.YtahidkjncljkaaaW.PrintWords Go.Proofs.YtahidkjncljkaaaW.PrintLast Go.Proofs.YtahidkjncljkaaaW.PrintMore
attribute [local go_sem] max2_int min2_int max_two min_two max_three min_three max_four min_four

def limF (v:S37) (y:S79):S79:=⟨y.f0,y.f1,v,y.f3,y.f4,y.f5⟩
def shape_Limit.f (l0:List (S79)) (a1:ByteArray) (a2_0:Int) (a2_1:Int) (a2_2:Int) (a3:Int):Option ((List (S79))×Int):=
 (vec_May.f a2_0 a2_1 a2_2).bind fun m=>if m=false then some ([],1) else (shape_made.f l0 a1).bind fun p=>(guardF p.1 p.2 a3).bind fun e=>if e≠0 then some ([],e) else (olderF p.1 p.2).bind fun q=>if q.1≠0 then some ([],q.1) else
  (vec_Le.f (rd_T79 q.2 p.2).f4.f0 (rd_T79 q.2 p.2).f4.f1 (rd_T79 q.2 p.2).f4.f2 a2_0 a2_1 a2_2).bind fun b=>if b=false then some ([],12) else some (q.2.set p.2.toNat (limF ⟨a2_0,a2_1,a2_2⟩ (rd_T79 q.2 p.2)),0)
set_option maxHeartbeats 8000000 in
set_option maxRecDepth 100000 in
theorem shape_Limit.calls (A0:Option Addr) (c0:Nat) (l0:List (S79)) (a1:ByteArray) (a2_0:Int) (a2_1:Int) (a2_2:Int) (a3:Int) (r1:List (S79)) (r2:Int) (w:World) (hr0:Kd.C k79 w A0 l0.length l0) (hc0:l0.length≤c0) (h:shape_Limit.f l0 a1 a2_0 a2_1 a2_2 a3=some (r1,r2)):
    Calls Try.prog 139 #[.slice A0 l0.length c0, .string a1, .agg #[.int .i64 a2_0, .int .i64 a2_1, .int .i64 a2_2], .int .i64 a3] w fun e w'=> ∃v0_:Value,e= .returned (.tuple #[v0_, .int .i64 r2])∧Kd.R k79 79 w' w.heap.size (fun _=>True) v0_ r1∧Below w.heap.size w w':=by
  have hu197:=Try.underlying197;have hu195:=Try.underlying195;have hu79:=Try.underlying79;have hu37:=Try.underlying37;unfold shape_Limit.f at h;obtain ⟨m,hm,h1⟩:=Option.bind_eq_some_iff.1 h;clear h;have HMAY:=Aside0.mk hm;have HR:=Aside0.mk hr0;have HC:=Aside0.mk hc0;have HB:=am_ (Below.refl w.heap.size w);have HH:=Aside0.mk h1;clear hr0 hc0 hm h1;go_enter Try.func139,Try.ntmps139;go_wp2_with (first|((with_reducible refine gate_dst (N:=6) rfl ?_);refine bx_ (N:=6) (cs:=#[.int .i64 a2_0, .int .i64 a2_1, .int .i64 a2_2]) (t:=37) ?_;intro gb1 hg w1 hbox hb;have BK1:=am_ (hbox);have GE1:=am_ ((by rw [hg];exact below_size HB.out:w.heap.size≤gb1));replace HB:=am_ (below_step HB.out hb);have EQ1:=am_ (hg);clear hb hbox hg;obtain ⟨cgb1_0,cgb1_1,cgb1_2⟩:=xz3_ BK1))
  refine (vec_May.calls _ _ _ _ _ HMAY.out).mono ?_;rintro e w2 ⟨rfl,hb⟩;clear cgb1_0 cgb1_1 cgb1_2;replace BK1:=am_ (blk_below BK1.out hb);replace HB:=am_ (below_step HB.out hb);clear hb;have h1:=HH.out;clear HH
  cases m with
  | false =>
    rw [if_pos rfl] at h1;cases h1;go_wp2_with fail
    go_ret2
    exact ⟨_,rfl,Kd.R_nil _ _ _ _ _,HB.out⟩
  | true =>
    rw [if_neg (by simp)] at h1;obtain ⟨⟨out,j⟩,hmd,h2⟩:=Option.bind_eq_some_iff.1 h1;clear h1;obtain ⟨e0,hgd,h3⟩:=Option.bind_eq_some_iff.1 h2;clear h2;dsimp only at hgd h3;have HM:=Aside0.mk hmd;have HG:=Aside0.mk hgd;have HH:=Aside0.mk h3;clear hmd hgd h3;go_wp2_with fail
    refine (shape_made.calls _ _ _ _ _ _ _ (Kd.C_below HR.out HB.out) HC.out HM.out).mono ?_;rintro e w3 ⟨v0,rfl,ho,hb⟩;have HO:=am_ (Kd.R_lower ho (below_size HB.out));have HRB:=am_ (R_base_ ho);have GT0:=am_ (blk_lt BK1.out);have GT1:=am_ (Nat.lt_of_lt_of_le (blk_lt BK1.out) hb.size);replace BK1:=am_ (blk_below BK1.out hb);replace HB:=am_ (below_step HB.out hb);clear ho hb;obtain ⟨A5,c5,rfl⟩: ∃A5 c5,v0= .slice A5 out.length c5:=Kd.R_slice HO.out;have HLT:=am_ (Kd.R_lt HO.out);have NE1:=am_ (show some gb1≠(Value.slice A5 out.length c5).ownBlock from fun e=>by have:=HRB.out _ e.symm;have:=GT0.out;omega)
    go_wp2_with (first|((with_reducible refine gate_dst (N:=10) rfl ?_);refine bx_ (N:=10) (cs:=#[.slice none 0 0, .int .i64 0]) (t:=197) ?_;intro gb2 hg w4 hbox hb;replace HO:=am_ (Kd.R_below HO.out hb);replace BK1:=am_ (blk_below BK1.out hb);have BK2:=am_ (hbox);have GE2:=am_ ((by rw [hg];exact below_size HB.out:w.heap.size≤gb2));replace HB:=am_ (below_step HB.out hb);have EQ2:=am_ (hg);clear hb hbox hg)|((with_reducible refine gate_store (t:=197) (p:=10) (v:= .tmp 18) rfl ?_);refine store_all BK2.out 197 (.tmp 10) (.tmp 18) rfl rfl rfl (.agg #[.slice A5 out.length c5, .int .i64 j]) [.slice A5 out.length c5, .int .i64 j] rfl rfl rfl (by kernel_rfl) rfl (by intro q hq;simp only [List.mem_cons,List.not_mem_nil,or_false] at hq;rcases hq with rfl|rfl<;>rfl) ?_;intro w5 hbk hg;replace HO:=am_ (R_put HO.out BK2.out (by decide) hg);replace BK1:=am_ (blk_put_other BK1.out hg (by have:=EQ2.out;have:=GT1.out;omega));replace HB:=am_ (below_put HB.out (below_size HB.out) hg GE2.out);replace BK2:=am_ (hbk);clear hbk hg;obtain ⟨cgb2_0,cgb2_1⟩:=xz2_ BK2))
    have NE2:=am_ (show some gb2≠(Value.slice A5 out.length c5).ownBlock from fun e=>by have:=HLT.out _ e.symm;have:=EQ2.out;omega);refine (shapeGuard_calls _ _ _ out j a3 e0 HO.out HG.out).mono ?_;rintro e w6 ⟨rfl,hb⟩;clear cgb2_0 cgb2_1;replace HO:=am_ (Kd.R_below HO.out hb);replace BK1:=am_ (blk_below BK1.out hb);replace BK2:=am_ (blk_below BK2.out hb);replace HB:=am_ (below_step HB.out hb);clear hb;obtain ⟨cgb2_0,cgb2_1⟩:=xz2_ BK2;have h3:=HH.out;clear HH;by_cases c1:e0=0;rotate_left
    · rw [if_pos c1] at h3
      cases h3
      have q1:(r2==0)=false:=by simpa using c1
      go_wp2_with fail
      go_ret2
      exact ⟨_,rfl,Kd.R_nil _ _ _ _ _,HB.out⟩


    cases c1;rw [if_neg (by simp)] at h3;obtain ⟨⟨e1,l2⟩,hol,h4⟩:=Option.bind_eq_some_iff.1 h3;clear h3;have HOL:=Aside0.mk hol;have HH:=Aside0.mk h4;clear hol h4;go_wp2_with fail
    refine (shapeOlder_calls _ _ _ out l2 j e1 HO.out (below_size HB.out) HOL.out).mono ?_;rintro e w7 ⟨rfl,ho,ht⟩;clear cgb2_0 cgb2_1;replace HO:=am_ (ho);replace BK1:=am_ (ht.block _ _ BK1.out NE1.out);replace BK2:=am_ (ht.block _ _ BK2.out NE2.out);replace HB:=am_ (HB.out.trans ht.below);clear ho ht;obtain ⟨cgb2_0,cgb2_1⟩:=xz2_ BK2;have h4:=HH.out;clear HH;by_cases c2:e1=0;rotate_left
    · rw [if_pos c2] at h4
      cases h4
      have q2:(r2==0)=false:=by simpa using c2
      go_wp2_with fail
      go_ret2
      exact ⟨_,rfl,Kd.R_nil _ _ _ _ _,HB.out⟩
    cases c2;rw [if_neg (by simp)] at h4;obtain ⟨b,hle,h5⟩:=Option.bind_eq_some_iff.1 h4;clear h4;obtain ⟨hj0,hj1⟩:=older_zero HOL.out;obtain ⟨gb,cap,hv0,hgb,hgl⟩:=sh_head HO.out (by have:=older_len HOL.out;omega);rw [older_len HOL.out] at hv0;cases hv0;have hcs:=sh_cells' HO.out (older_len HOL.out) j hj0 hj1;have HJ0:=Aside0.mk hj0;have HJ1:=Aside0.mk hj1;generalize hy:rd_T79 l2 j=y at hcs hle h5;have HY:=Aside0.mk hy;have HGB:=Aside0.mk hgb;have HGL:=Aside0.mk hgl;have HLE:=Aside0.mk hle;have HH:=Aside0.mk h5;have HCS:=Aside0.mk hcs;have k8:=hcs 8 _ rfl;have k9:=hcs 9 _ rfl;have k10:=hcs 10 _ rfl;obtain ⟨v0_,v1_,v2_⟩:=xz3_ BK1;have hB0:Below w7.heap.size w7 w7:=Below.refl _ _;have hBd:Below w7.heap.size w7 w7.drew:=below_drew hB0;clear hj0 hj1 hy hgb hgl hle h5 hcs;go_wp2_with fail
    go_region_held3 (fun w'=>w'.cell? ⟨gb2,0,none⟩=some (.slice (some ⟨gb,0,none⟩) out.length c5)∧w'.cell? ⟨gb2,1,none⟩=some (.int .i64 j)∧w'.cell? ⟨gb,j.toNat*12+8,none⟩=some (.int .i64 y.f4.f0)∧w'.cell? ⟨gb,j.toNat*12+9,none⟩=some (.int .i64 y.f4.f1)∧w'.cell? ⟨gb,j.toNat*12+10,none⟩=some (.int .i64 y.f4.f2)∧w'.cell? ⟨gb1,0,none⟩=some (.int .i64 a2_0)∧w'.cell? ⟨gb1,1,none⟩=some (.int .i64 a2_1)∧w'.cell? ⟨gb1,2,none⟩=some (.int .i64 a2_2)∧Below w7.heap.size w7 w')
      (first|(go_keep;done)|(go_split_ands;refine ⟨?_, ?_, ?_, ?_, ?_, ?_, ?_, ?_, ?_⟩<;>first|exact below_step (by assumption) hb|exact pw_cell_below hb (by first|assumption|(go_keep;done))))
      (first|(go_at_call 159;refine (shapeItem_calls _ ⟨gb,0,none⟩ out.length c5 j HJ0.out HJ1.out).mono ?_;rintro e w' ⟨rfl,hb⟩)|(go_at_call 114;refine (vec_Le.calls _ _ _ _ _ _ _ _ HLE.out).mono ?_;rintro e w' ⟨rfl,hb⟩))
    rename_i hHeld
    have hBz:Below w7.heap.size w7 w':=hHeld.2.2.2.2.2.2.2.2;clear hHeld cgb2_0 cgb2_1 k8 k9 k10 v0_ v1_ v2_ hB0 hBd;have HGL2:=am_ (Nat.lt_of_lt_of_le HGL.out hBz.size);have HCS2:=am_ (fun j' u hu=>(hBz.cell (p:=⟨gb,j.toNat*12+j',none⟩) HGL.out).trans (HCS.out j' u hu));replace HO:=am_ (Kd.R_below HO.out hBz);replace BK1:=am_ (blk_below BK1.out hBz);replace BK2:=am_ (blk_below BK2.out hBz);replace HB:=am_ (below_step HB.out hBz);(try clear hb);clear hBz HCS;obtain ⟨cgb2_0,cgb2_1⟩:=xz2_ BK2;obtain ⟨v0_,v1_,v2_⟩:=xz3_ BK1;have h5:=HH.out;clear HH
    cases b with
    | false =>
      rw [if_pos rfl] at h5;cases h5;go_wp2_with fail
      go_ret2
      exact ⟨_,rfl,Kd.R_nil _ _ _ _ _,HB.out⟩
    | true =>
      rw [if_neg (by simp)] at h5;cases h5;go_wp2_with fail
      have LB:=am_ (blk_lt BK2.out);have LB1:=am_ (blk_lt BK1.out);refine start_ (n:=6) (S:=fun w'=>w'.cell? ⟨gb2,0,none⟩=some (.slice (some ⟨gb,0,none⟩) out.length c5)∧w'.cell? ⟨gb2,1,none⟩=some (.int .i64 j)∧w'.cell? ⟨gb1,0,none⟩=some (.int .i64 a2_0)∧w'.cell? ⟨gb1,1,none⟩=some (.int .i64 a2_1)∧w'.cell? ⟨gb1,2,none⟩=some (.int .i64 a2_2)) (ds:=[5]) (bt_ 6 0) (by kernel_rfl) rfl rfl ⟨cgb2_0,cgb2_1,v0_,v1_,v2_⟩ (fun hHeld=> ?_);refine tv_ (i:=0) (N:=some 38) (bt_ 6 1) hHeld ?_;refine tv_ (i:=2) (N:=some 40) (bt_ 6 5) hHeld ?_;refine one_ (i:=1) (N:=some 39) (bt_ 6 7) rfl rfl (by kernel_rfl) (by decide) (fun K hK=> ?_);refine goes_ Try.func159 (by kernel_rfl) rfl #[.agg #[.slice (some ⟨gb,0,none⟩) out.length c5, .int .i64 j]] (by rfl) rfl rfl (by (try simp only [List.map_toArray,List.map_cons,List.map_nil]);rfl) ?_;refine (shapeItem_calls _ ⟨gb,0,none⟩ out.length c5 j HJ0.out HJ1.out).mono ?_;rintro e w9 ⟨rfl,hb⟩;refine ⟨_,rfl, ?_⟩;refine hK.out _ _ ⟨(hb.cell (p:=⟨gb2,0,none⟩) LB.out).trans hHeld.1,(hb.cell (p:=⟨gb2,1,none⟩) LB.out).trans hHeld.2.1,(hb.cell (p:=⟨gb1,0,none⟩) LB1.out).trans hHeld.2.2.1,(hb.cell (p:=⟨gb1,1,none⟩) LB1.out).trans hHeld.2.2.2.1,(hb.cell (p:=⟨gb1,2,none⟩) LB1.out).trans hHeld.2.2.2.2⟩ (fun hHeld=> ?_);clear hK K;refine norm_ (a':= ?_) ?_ ?_;rotate_left
      · show Act.put _ (some 39) _ = _
        simp only [Act.put,List.setIfInBounds_toArray,List.set_cons_zero,List.set_cons_succ,i64_w,i32_w]
        rfl
      refine pv_ (i:=3) (N:=some 41) (bt_ 6 15) ?_;refine pv_ (i:=4) (N:=some 42) (bt_ 6 31) ?_;refine last_ (i:=5) (N:=none) (bt_ 6 63) rfl rfl (by kernel_rfl) (by decide) (fun K hK=> ?_);refine sh_store k79 w.heap.size (by rfl) 37 (.tmp 42) (.tmp 40) rfl rfl 79 (g:=gb) (n:=out.length) (cap:=c5) j 2 l2 (limF ⟨a2_0,a2_1,a2_2⟩ y) (.agg #[.int .i64 a2_0, .int .i64 a2_1, .int .i64 a2_2]) [.int .i64 a2_0, .int .i64 a2_1, .int .i64 a2_2] (shCells y) (fun _=>True) (fun _=>False) rfl rfl rfl (by kernel_rfl) (by intro q hq;simp only [List.mem_cons,List.not_mem_nil,or_false] at hq;rcases hq with rfl|rfl|rfl<;>rfl) (Kd.R_below (Kd.R_below HO.out (below_drew (Below.refl _ _))) hb) HJ0.out HJ1.out rfl (fun j' u hu=>(hb.cell (p:=⟨gb,j.toNat*12+j',none⟩) HGL2.out).trans (HCS2.out j' u hu)) (by show 2+3≤12;omega) (k79_mkM _ _ _ (limF ⟨a2_0,a2_1,a2_2⟩ y)) (fun _ h=>h.elim) ?_;intro w10 ho hg;have HO10:=Aside0.mk ho;have BK10:=am_ (blk_put_other (blk_below (blk_drew BK2.out) hb) hg (fun e=>NE2.out (by rw [e];rfl)));have HB10:=am_ (below_put (below_step (below_drew HB.out) hb) (below_size (below_step (below_drew HB.out) hb)) hg HGB.out);clear ho hg hb;have c10_0:=zz_ BK10 0;refine hK.out _ _ ?_;clear hK K;refine done_ (by kernel_rfl) ?_;go_wp2_with fail
      go_ret2
      refine ⟨_,rfl, ?_,HB10.out⟩;exact HO10.out
def vecByF (op:Int→Int→Int):List S37→Int→Int→Int→Int×Int×Int
 |[],a,b,d=>(a,b,d)
 |v::l,a,b,d=>vecByF op l (op a v.f0) (op b v.f1) (op d v.f2)
theorem vecByF_snoc (op:Int→Int→Int) (v:S37): ∀(l:List S37) (a b d:Int),vecByF op (l++ [v]) a b d=(op (vecByF op l a b d).1 v.f0,op (vecByF op l a b d).2.1 v.f1,op (vecByF op l a b d).2.2 v.f2)
 |[],_,_,_=>rfl
 |_::l,_,_,_=>vecByF_snoc op v l _ _ _
theorem vecByF_take (op:Int→Int→Int) (l:List S37) (a b d:Int) (i:Nat) (h:i<l.length):vecByF op (l.take (i+1)) a b d=(op (vecByF op (l.take i) a b d).1 (rd_T37 l i).f0,op (vecByF op (l.take i) a b d).2.1 (rd_T37 l i).f1,op (vecByF op (l.take i) a b d).2.2 (rd_T37 l i).f2):=by
 have e:rd_T37 l i=l[i]:=by simp [rd_T37,h]
 rw [List.take_succ_eq_append_getElem h,vecByF_snoc,e]
set_option maxHeartbeats 1000000 in
set_option maxRecDepth 100000 in
theorem vecBy_calls (g:Nat) (op:Int→Int→Int) (eg: ∀args w,(callFunc g args).run Try.prog w= .ok (.enter g args) w) (hop: ∀x y W,Calls Try.prog g #[.int .i64 x, .int .i64 y] W fun e w'=>e= .returned (.int .i64 (op x y))∧w'=W)
    (A:Option Addr) (c:Nat) (l:List S37) (a b d:Int) (w:World) (hr0:Kd.C k37 w A l.length l) (hc0:l.length≤c) (hm:l.length≤maxLen):
    Calls Try.prog 145 #[.func (.func g) #[] #[], .agg #[.int .i64 a, .int .i64 b, .int .i64 d], .slice A l.length c] w fun e w'=>e= .returned (.agg #[.int .i64 (vecByF op l a b d).1, .int .i64 (vecByF op l a b d).2.1, .int .i64 (vecByF op l a b d).2.2])∧Below w.heap.size w w':=by
  have hu37:=Try.underlying37;have HR0:=Aside0.mk hr0;have HOP:=Aside0.mk hop;have HEG:=Aside0.mk eg;have HBT:=am_ (vecByF_take op l a b d);clear hr0 hop eg;unfold maxLen at hm;go_enter Try.func145,Try.ntmps145;go_wp2
  go_loopg [11] l.length (fun kq s11 wr=> ∃i:Nat,i≤l.length∧l.length - i≤kq∧s11= .int .i64 i∧Aside0 (Below w.heap.size w wr)∧Aside0 (wr.heap[w.heap.size]?=some (.cells #[.int .i64 (vecByF op (l.take i) a b d).1, .int .i64 (vecByF op (l.take i) a b d).2.1, .int .i64 (vecByF op (l.take i) a b d).2.2] 37 (0,0)))∧Aside0 (wr.heap[w.heap.size+1]?=some (.cells #[.int .i64 0, .int .i64 0, .int .i64 0] 37 (0,0))))
  case atStart=>
    exact ⟨0,by omega,by omega,rfl,⟨below_alloc (below_alloc (Below.refl _ _) _) _⟩,⟨blk_alloc (blk_new _ _) _⟩,⟨by have:=blk_new (w.alloc (.cells #[.int .i64 a, .int .i64 b, .int .i64 d] 37)) (.cells #[.int .i64 0, .int .i64 0, .int .i64 0] 37);simpa using this⟩⟩
  case round=>
    obtain ⟨i,hi,hg,rfl,HB,HF,HZ⟩:=hrel;generalize hq:vecByF op (l.take i) a b d=q at HF;have HQ:=Aside0.mk hq;clear hq;by_cases hlt:i<l.length;rotate_left
    · obtain rfl : i = l.length := by omega
      have hq:q=vecByF op l a b d:=HQ.out.symm.trans (by rw [List.take_length])
      subst hq
      have HQ':=HQ
      clear HQ HBT
      obtain ⟨f0,f1,f2⟩:=xz3_ HF
      obtain ⟨g0,g1,g2⟩:=xz3_ HZ
      obtain ⟨_,_,_⟩:=ff3_ HZ
      have hs1:w.heap.size+1<wr.heap.size:=blk_lt HZ.out
      go_wp2
      refine bodyPost_ret (results_cell_row rfl _ _ (w.heap.size+1) 37 #[.int .i64 (vecByF op l a b d).1, .int .i64 (vecByF op l a b d).2.1, .int .i64 (vecByF op l a b d).2.2] (0,0) _ rfl (blk_put (blk_put (blk_put HZ.out 0 _ rfl) 1 _ rfl) 2 _ rfl) Try.underlying37 rfl (by kernel_rfl)) rfl ?_
      exact ⟨rfl,below_set (below_set (below_set HB.out (Nat.le_succ _)) (Nat.le_succ _)) (Nat.le_succ _)⟩


    have hltz:(i:Int)<(l.length:Int):=by omega
    obtain ⟨ad,e1,h0,h1,h2⟩:=at_T37 HR0.out (i:Int) (by omega) (by omega);cases e1;simp only [Int.toNat_natCast] at h0 h1 h2;replace h0:=zx_ HB h0;replace h1:=zx_ HB h1;replace h2:=zx_ HB h2;have hsz:w.heap.size+1<wr.heap.size:=blk_lt HZ.out;go_wp2
    obtain ⟨W1,hW1⟩: ∃W1,W1=(wr.alloc (.cells #[.int .i64 (rd_T37 l i).f0, .int .i64 (rd_T37 l i).f1, .int .i64 (rd_T37 l i).f2] 37)).drew:=⟨_,rfl⟩;have hF1:W1.heap[w.heap.size]?=some (.cells #[.int .i64 q.1, .int .i64 q.2.1, .int .i64 q.2.2] 37 (0,0)):=by rw [hW1];exact blk_alloc HF.out _
    have hZ1:W1.heap[w.heap.size+1]?=some (.cells #[.int .i64 0, .int .i64 0, .int .i64 0] 37 (0,0)):=by rw [hW1];exact blk_alloc HZ.out _
    have hV1:W1.heap[wr.heap.size]?=some (.cells #[.int .i64 (rd_T37 l i).f0, .int .i64 (rd_T37 l i).f1, .int .i64 (rd_T37 l i).f2] 37 (0,0)):=by rw [hW1];exact blk_new _ _
    have hB1:Below w.heap.size w W1:=by rw [hW1];exact below_drew (below_alloc HB.out _)
    refine wp_region_still_tail 19 (by kernel_rfl) (by kernel_rfl) ?_
    change wpStill _ _ (World.drew _) _ _ _
    rw [←hW1];simp only [List.take_succ_cons,List.take_zero,List.drop_succ_cons,List.drop_zero];have HV1:=Aside0.mk hV1;have HF1:=Aside0.mk hF1;have HZ1:=Aside0.mk hZ1;have HB1:=Aside0.mk hB1;have f0:=(blk_cell hF1 0).trans rfl;have f1:=(blk_cell hF1 1).trans rfl;have f2:=(blk_cell hF1 2).trans rfl;have g0:=(blk_cell hV1 0).trans rfl;have g1:=(blk_cell hV1 1).trans rfl;have g2:=(blk_cell hV1 2).trans rfl;have HW1:=Aside0.mk hW1;clear hW1 hF1 hZ1 hV1 hB1;have eg:=HEG.out
    repeat still_step
    still_call (HOP.out _ _ _)
    repeat still_step
    still_call (HOP.out _ _ _)
    repeat still_step
    still_call (HOP.out _ _ _)
    repeat still_step
    refine wpStill_nil ?_
    change wpList _ _ _ _ _ (World.drew _)
    rw [←HW1.out];obtain ⟨_,_,_⟩:=ff3_ HF1;have hs1:w.heap.size<W1.heap.size:=blk_lt HF1.out;go_wp2
    have hb:=HBT.out i hlt;rw [HQ.out] at hb;have HH:=Aside0.mk hb;clear hb;go_roundg (l.length - (i+1))
    case measure=>omega
    case rel=>
      refine ⟨i+1,by omega,by omega,by go_num,⟨below_set (below_set (below_set HB1.out (Nat.le_refl _)) (Nat.le_refl _)) (Nat.le_refl _)⟩,⟨?_⟩,⟨blk_far (blk_far (blk_far HZ1.out (by simp) _) (by simp) _) (by simp) _⟩⟩;rw [HH.out];exact blk_put (blk_put (blk_put HF1.out 0 _ rfl) 1 _ rfl) 2 _ rfl
theorem vecAdd1_calls (x y:Int) (W:World):Calls Try.prog 146 #[.int .i64 x, .int .i64 y] W fun e w'=>e= .returned (.int .i64 (wrap64 (x+y)))∧w'=W:=by
 go_enter Try.func146,Try.ntmps146
 go_wp2
 go_ret
 exact ⟨rfl,rfl⟩
def vec_Add.f (l0:List (S37)):Option (Int×Int×Int):=some (vecByF (fun x y=>wrap64 (x+y)) l0 0 0 0)
set_option maxHeartbeats 1000000 in
set_option maxRecDepth 100000 in
theorem vec_Add.calls (A0:Option Addr) (c0:Nat) (l0:List (S37)) (r1:Int) (r2:Int) (r3:Int) (w:World) (hr0:Kd.C k37 w A0 l0.length l0) (hc0:l0.length≤c0) (h:vec_Add.f l0=some (r1,r2,r3)):
  Calls Try.prog 115 #[.slice A0 l0.length c0] w fun e w'=>e= .returned (.agg #[.int .i64 r1, .int .i64 r2, .int .i64 r3])∧Below w.heap.size w w':=by
 have hu37:=Try.underlying37;have hm:l0.length≤maxLen:=hr0.2.1;have HC:=am_ (vecBy_calls 146 (fun x y=>wrap64 (x+y)) (enters_of Try.func146 (by kernel_rfl) rfl) vecAdd1_calls A0 c0 l0 0 0 0 (w.alloc (.cells #[.int .i64 0, .int .i64 0, .int .i64 0] 37)) (Kd.C_below hr0 (below_alloc (Below.refl _ _) _)) hc0 hm);have HH:=Aside0.mk h;clear hr0 h;go_enter Try.func115,Try.ntmps115;go_wp2_with fail
 refine HC.out.mono ?_;rintro e w1 ⟨rfl,hb⟩;have h:=Option.some.inj (show some (vecByF (fun x y=>wrap64 (x+y)) l0 0 0 0)=some (r1,r2,r3) from HH.out);rw [h];have hZ:=blk_below (blk_new w (.cells #[.int .i64 0, .int .i64 0, .int .i64 0] 37)) hb;have HB:=Aside0.mk hb;have HZ:=Aside0.mk hZ;clear h hb hZ;obtain ⟨_,_,_⟩:=xz3_ HZ;obtain ⟨_,_,_⟩:=ff3_ HZ;have hs1:w.heap.size<w1.heap.size:=blk_lt HZ.out;go_wp2
 refine bodyPost_ret (results_cell_row rfl _ _ w.heap.size 37 #[.int .i64 r1, .int .i64 r2, .int .i64 r3] (0,0) _ rfl (blk_put (blk_put (blk_put HZ.out 0 _ rfl) 1 _ rfl) 2 _ rfl) Try.underlying37 rfl (by kernel_rfl)) rfl ?_;exact ⟨rfl,below_set (below_set (below_set (below_step (below_alloc (Below.refl _ _) _) HB.out) (Nat.le_refl _)) (Nat.le_refl _)) (Nat.le_refl _)⟩


def tree_Up.l0:Nat→List (S79)→List ByteArray→Int→Option (List ByteArray)
 |0,_,_,_=>none
 |k+1,x0,x5,x6=>if x6≥0 then (if (x5.length:Int)≤(x0.length:Int) then (if 0≤x6 then (if x6<(x0.length:Int) then (if x5.length<8796093022208 then ((tree_Find.f x0 ((rd_T79 x0 x6).f1)).bind fun t7=>(tree_Up.l0 k x0 (x5++ [(rd_T79 x0 x6).f0]) t7)) else (none)) else (none)) else (none)) else (some x5)) else (some x5)
def tree_Up.f (k:Nat) (l0:List (S79)) (a1:ByteArray):Option (List ByteArray):=(tree_Find.f l0 a1).bind fun t1=>(tree_Up.l0 k l0 ([]:List ByteArray) t1)
theorem tree_Up.mono_l: ∀k,(∀y0 y1 y2,LeO (tree_Up.l0 k y0 y1 y2) (tree_Up.l0 (k+1) y0 y1 y2))
 |0=>fun _ _ _ r h=>by simp [tree_Up.l0] at h
 |k+1=>by
  have ih0:=tree_Up.mono_l k;intro y0 y1 y2;unfold tree_Up.l0
  repeat' with_reducible first|apply ih0|apply LeO.refl|apply LeO.none|apply LeO.ite|refine LeO.bind ?_ fun _=> ?_
theorem tree_Up.mono: ∀a0 a1 k,LeO (tree_Up.f k a0 a1) (tree_Up.f (k+1) a0 a1):=by
 intro a0 a1 k;have ih0:=tree_Up.mono_l k;unfold tree_Up.f
 repeat' with_reducible first|apply ih0|apply LeO.refl|apply LeO.none|apply LeO.ite|refine LeO.bind ?_ fun _=> ?_
set_option maxHeartbeats 8000000 in
set_option maxRecDepth 100000 in
theorem tree_Up.calls (k:Nat) (A0:Option Addr) (c0:Nat) (l0:List (S79)) (a1:ByteArray) (r:List ByteArray) (w:World) (hr0:Kd.C k79 w A0 l0.length l0) (hc0:l0.length≤c0) (h:tree_Up.f k l0 a1=some r):
  Calls Try.prog 153 #[.slice A0 l0.length c0, .string a1] w fun e w'=> ∃v0_:Value,e= .returned (v0_)∧Kd.R Kd.string 9 w' w.heap.size (fun _=>True) v0_ r∧Below w.heap.size w w':=by
 have HR0:=Aside0.mk hr0;have HC0:=Aside0.mk hc0;clear hr0 hc0;have HB:=am_ (Below.refl w.heap.size w);have H:((tree_Find.f l0 a1).bind fun t1=>(tree_Up.l0 k l0 ([]:List ByteArray) t1))=some r:=h;clear h;replace H:=zbd_ H;obtain ⟨t1,A3,H⟩:=H;try dsimp only at H
 have H':=Aside0.mk H;clear H;go_enter Try.func153,Try.ntmps153;go_wp2_with (first|((with_reducible refine gate_callee (f:=91) rfl ?_);refine gl_ (some 9) Try.func91 #[.slice A0 l0.length c0, .string a1] ?_;(with_reducible refine (tree_Find.calls _ _ l0 a1 t1 _ ?side1 ?side2 A3.out).mono ?_);(case side1=>repeat (first|exact HR0.out|(with_reducible refine Kd.C_alloc ?_ _)|(with_reducible refine Kd.C_drewN ?_ _)|(with_reducible refine Kd.C_drew ?_)));(case side2=>exact HC0.out);rintro e w4 ⟨rfl,hb⟩;refine ⟨_,rfl, ?_⟩;replace HB:=am_ (below_step (zl0_ HB) hb);(try clear hb)))
 go_loopg [5,6] k (fun kq v5 v6 w'=> ∃(x5_1:List ByteArray) (x6_1:Int),v6= .int .i64 x6_1∧Aside0 (tree_Up.l0 kq l0 x5_1 x6_1=some r)∧Aside0 (kq≤k)∧Aside0 (Kd.R Kd.string 9 w' w.heap.size (fun _=>True) v5 x5_1)∧Aside0 (Below w.heap.size w w'))
 case atStart=>exact ⟨(([]:List ByteArray)),(t1),rf_,H',⟨Nat.le_refl _⟩,⟨by first|exact Kd.R_nil _ _ _ _ _|exact Kd.N_nil _ _ _ _ _|exact Kd.V_nil _ _ _ _ _|exact Kd.Q_nil _ _ _ _ _|exact Kd.S_nil _ _ _ _ _⟩,⟨zl0_ HB⟩⟩
 case round=>
  clear H';obtain ⟨x5_1,x6_1,rfl,HA,HK1,HO_5,HB⟩:=hrel
  cases gk with
  |zero=>exact absurd HA.out (by simp [tree_Up.l0])
  |succ k1=>
   have H:=HA.out;clear HA;simp only [tree_Up.l0] at H;by_cases c5:x6_1≥0;rotate_left
   ·rw [if_neg c5] at H;have c5b0:decide (0≤x6_1)=false:=decide_eq_false c5;clear c5;obtain rfl:=Option.some.inj H;go_wp2
    go_ret
    exact ⟨_,er_,zr_ HO_5,zl0_ HB⟩

   rw [if_pos c5] at H;have c5b0:decide (0≤x6_1)=true:=decide_eq_true c5;clear c5;by_cases c6:(x5_1.length:Int)≤(l0.length:Int);rotate_left
   ·rw [if_neg c6] at H;have c6b0:=decide_eq_false c6;have c6b1:decide (x5_1.length≤l0.length)=false:=decide_eq_false (fun h=>c6 (Int.ofNat_le.mpr h));clear c6;obtain rfl:=Option.some.inj H;obtain ⟨Ao14,co14,eo14⟩:=Kd.R_slice HO_5.out;subst eo14;go_wp2
    go_ret
    exact ⟨_,er_,zr_ HO_5,zl0_ HB⟩
   rw [if_pos c6] at H;have c6b0:=decide_eq_true c6;have c6b1:decide (x5_1.length≤l0.length)=true:=decide_eq_true (Int.ofNat_le.mp c6);clear c6;replace H:=zif_ H;obtain ⟨c7,H⟩:=H;replace c7:=decide_eq_true c7;replace H:=zif_ H;obtain ⟨c8,H⟩:=H;replace c8:=decide_eq_true c8;replace H:=zif_ H;obtain ⟨c9,H⟩:=H;have LMc9:=Aside0.mk c9;clear c9;obtain ⟨y3,hy3⟩: ∃y_:List ByteArray,y_=(x5_1++ [(rd_T79 l0 x6_1).f0]):=⟨_,rfl⟩;(first|replace H:=zsb_ hy3 H|rw [←hy3] at H);have Ny3:=Aside0.mk hy3;clear hy3;replace H:=zbd_ H;obtain ⟨t7,A10,H⟩:=H;try dsimp only at H
   have H':=Aside0.mk H;clear H;obtain ⟨Ao11,co11,eo11⟩:=Kd.R_slice HO_5.out;subst eo11;obtain ⟨p2,q2,ad2,e2,hx2_0,hx2_1,hx2_2,hx2_3,hx2_4,hx2_5,hx2_6,hx2_7,hx2_8,hx2_9,hx2_10,hx2_11⟩:=zat_ (at_T79 HR0.out x6_1);cases e2;replace hx2_0:=zx12_ HB hx2_0 hx2_1 hx2_2 hx2_3 hx2_4 hx2_5 hx2_6 hx2_7 hx2_8 hx2_9 hx2_10 hx2_11;clear hx2_1 hx2_2 hx2_3 hx2_4 hx2_5 hx2_6 hx2_7 hx2_8 hx2_9 hx2_10 hx2_11;obtain ⟨hx2_0,hx2_1,hx2_2,hx2_3,hx2_4,hx2_5,hx2_6,hx2_7,hx2_8,hx2_9,hx2_10,hx2_11⟩:=hx2_0
   go_wp2_with (first|((with_reducible refine gate_builtin (b:= .append) (xs:=#[.tmp 26, .tmp 32]) rfl ?_);(try (refine gate_guard (by rfl) ?_;dsimp only));at_builtin;refine Kd.R_append Kd.string (w0:=w) w.heap.size rfl (.tmp 26) (.tmp 32) 85 9 (.string ⟨#[]⟩) 16 rfl Try.underlying85 info9 rfl (by decide) (by omega) (.slice Ao11 x5_1.length co11) x5_1 ((rd_T79 l0 x6_1).f0) [.string ((rd_T79 l0 x6_1).f0)] (fun _=>True) (fun _=>False) rfl rfl ?aP (fun _ hk=>hk.elim) ?aF ?aO ?aB ?aS ?aL ?_;(case aP=>exact rfl);(case aB=>exact (zl0_ HB));(case aF=>exact (fun _ _=>trivial));(case aO=>exact (zr_ HO_5));(case aS=>exact (below_size (zl0_ HB)));(case aL=>have:=LMc9.out;omega);intro v4 w12 ho hb hg hat;rw [←Ny3.out] at ho;have n0_:=am_ (hb);have n1_:=am_ (ho);clear HB;clear HO_5;have HB:=n0_;have HO5:=n1_;clear n0_ n1_;clear ho hb hg hat;have p6:0≤(x6_1:Int):=of_decide_eq_true zq_;have q6:x6_1<(l0.length:Int):=of_decide_eq_true zq_;obtain ⟨ad6,e6,hx6_0,hx6_1,hx6_2,hx6_3,hx6_4,hx6_5,hx6_6,hx6_7,hx6_8,hx6_9,hx6_10,hx6_11⟩:=at_T79 HR0.out x6_1 p6 q6;obtain rfl:ad2=ad6:=(by injection e6);replace hx6_0:=zx12_ HB hx6_0 hx6_1 hx6_2 hx6_3 hx6_4 hx6_5 hx6_6 hx6_7 hx6_8 hx6_9 hx6_10 hx6_11;clear hx6_1 hx6_2 hx6_3 hx6_4 hx6_5 hx6_6 hx6_7 hx6_8 hx6_9 hx6_10 hx6_11;obtain ⟨hx6_0,hx6_1,hx6_2,hx6_3,hx6_4,hx6_5,hx6_6,hx6_7,hx6_8,hx6_9,hx6_10,hx6_11⟩:=hx6_0;replace p6:=eq_true p6;replace q6:=eq_true q6)|((with_reducible refine gate_callee (f:=91) rfl ?_);refine gl_ (some 25) Try.func91 #[.slice (some ad2) l0.length c0, .string ((rd_T79 l0 x6_1).f1)] ?_;(with_reducible refine (tree_Find.calls _ _ l0 ((rd_T79 l0 x6_1).f1) t7 _ ?side1 ?side2 A10.out).mono ?_);(case side1=>exact zc_ (Kd.C_below HR0.out HB.out));(case side2=>exact HC0.out);rintro e w13 ⟨rfl,hb⟩;refine ⟨_,rfl, ?_⟩;replace HO5:=ob_ HO5 hb;replace HB:=am_ (below_step (zl0_ HB) hb);(try clear hb)))
   go_roundg k1
   case measure=>have:=HK1.out;omega
   case rel=>exact ⟨(y3),(t7),rf_,H',⟨by have:=HK1.out;omega⟩,am_ (zr_ HO5),⟨zl0_ HB⟩⟩
def slices_Index_string_string.l0:Nat→List ByteArray→ByteArray→Int→Int→Option (Int)
 |0,_,_,_,_=>none
 |k+1,x0,x1,x7,x8=>if x8<x7 then (if 0≤x8 then (if x8<(x0.length:Int) then (if x1.toList=(rdOf ByteArray.empty x0 x8).toList then (some x8) else (slices_Index_string_string.l0 k x0 x1 x7 (wrap64 (x8+1)))) else (none)) else (none)) else (some (-1))
def slices_Index_string_string.f (k:Nat) (l0:List ByteArray) (a1:ByteArray):Option (Int):=slices_Index_string_string.l0 k l0 a1 (l0.length:Int) 0
theorem slices_Index_string_string.mono_l: ∀k,(∀y0 y1 y2 y3,LeO (slices_Index_string_string.l0 k y0 y1 y2 y3) (slices_Index_string_string.l0 (k+1) y0 y1 y2 y3))
 |0=>fun _ _ _ _ r h=>by simp [slices_Index_string_string.l0] at h
 |k+1=>by
  have ih0:=slices_Index_string_string.mono_l k;intro y0 y1 y2 y3;unfold slices_Index_string_string.l0
  repeat' with_reducible first|apply ih0|apply LeO.refl|apply LeO.none|apply LeO.ite|refine LeO.bind ?_ fun _=> ?_
theorem slices_Index_string_string.mono: ∀a0 a1 k,LeO (slices_Index_string_string.f k a0 a1) (slices_Index_string_string.f (k+1) a0 a1):=by
 intro a0 a1 k;have ih0:=slices_Index_string_string.mono_l k;unfold slices_Index_string_string.f
 repeat' with_reducible first|apply ih0|apply LeO.refl|apply LeO.none|apply LeO.ite|refine LeO.bind ?_ fun _=> ?_
set_option maxHeartbeats 8000000 in
set_option maxRecDepth 100000 in
theorem slices_Index_string_string.calls (k:Nat) (A0:Option Addr) (c0:Nat) (l0:List ByteArray) (a1:ByteArray) (r:Int) (w:World) (hr0:Kd.C Kd.string w A0 l0.length l0) (hc0:l0.length≤c0) (h:slices_Index_string_string.f k l0 a1=some r):
  Calls Try.prog 174 #[.slice A0 l0.length c0, .string a1] w fun e w'=>e= .returned (.int .i64 r)∧Drawn0 w w':=by
 have HR0:=Aside0.mk hr0;have HC0:=Aside0.mk hc0;clear hr0 hc0;have H:(slices_Index_string_string.l0 k l0 a1 (l0.length:Int) 0)=some r:=h;clear h;have H':=Aside0.mk H;clear H;go_enter Try.func174,Try.ntmps174;go_wp2
 go_loopg [8] k (fun kq v8 w'=> ∃(x8_1:Int),v8= .int .i64 x8_1∧Aside0 (slices_Index_string_string.l0 kq l0 a1 (l0.length:Int) x8_1=some r)∧Aside0 (kq≤k)∧Drawn0 w w')
 case atStart=>exact ⟨(0),rf_,H',⟨Nat.le_refl _⟩,by repeat (first|exact Drawn0.refl _|apply Drawn0.step)⟩
 case round=>
  clear H';obtain ⟨x8_1,rfl,HA,HK1,⟨m1,rfl⟩⟩:=hrel
  cases gk with
  |zero=>exact absurd HA.out (by simp [slices_Index_string_string.l0])
  |succ k1=>
   have H:=HA.out;clear HA;simp only [slices_Index_string_string.l0] at H;by_cases c3:x8_1<(l0.length:Int);rotate_left
   ·rw [if_neg c3] at H;have c3b0:=decide_eq_false c3;clear c3;obtain rfl:=Option.some.inj H;go_wp2
    go_ret
    exact ⟨by first|rfl|(simp;done)|(simp [*];done),by repeat (first|exact Drawn0.refl _|apply Drawn0.step)⟩

   rw [if_pos c3] at H;have c3b0:=decide_eq_true c3;clear c3;replace H:=zif_ H;obtain ⟨c4,H⟩:=H;replace c4:=decide_eq_true c4;replace H:=zif_ H;obtain ⟨c5,H⟩:=H;replace c5:=decide_eq_true c5;by_cases c6:a1.toList=(rdOf ByteArray.empty l0 x8_1).toList
   ·rw [if_pos c6] at H;have c6b0:=beq_iff_eq.mpr c6;have c6b1:=bne_eq_false_iff_eq.mpr c6;clear c6;obtain rfl:=Option.some.inj H;obtain ⟨p1,q1,ad1,e1,hx1_0⟩:=zat_ (Kd.at_string HR0.out x8_1);cases e1;go_wp2
    go_ret
    exact ⟨by first|rfl|(simp;done)|(simp [*];done),by repeat (first|exact Drawn0.refl _|apply Drawn0.step)⟩
   rw [if_neg c6] at H;have c6b0:=beq_eq_false_iff_ne.mpr c6;have c6b1:=bne_iff_ne.mpr c6;have H':=Aside0.mk H;clear H;obtain ⟨p1,q1,ad1,e1,hx1_0⟩:=zat_ (Kd.at_string HR0.out x8_1);cases e1;go_wp2
   go_roundg k1
   case measure=>have:=HK1.out;omega
   case rel=>exact ⟨(wrap64 (x8_1+1)),rf_,H',⟨by have:=HK1.out;omega⟩,by repeat (first|exact Drawn0.refl _|apply Drawn0.step)⟩
def slices_Contains_string_string.f (k:Nat) (l0:List ByteArray) (a1:ByteArray):Option (Bool):=(slices_Index_string_string.f k l0 a1).bind fun t1=>(some (decide (t1≥0)))
theorem slices_Contains_string_string.mono: ∀a0 a1 k,LeO (slices_Contains_string_string.f k a0 a1) (slices_Contains_string_string.f (k+1) a0 a1):=by
 intro a0 a1 k;unfold slices_Contains_string_string.f
 repeat' with_reducible first|apply slices_Index_string_string.mono|apply LeO.refl|apply LeO.none|apply LeO.ite|refine LeO.bind ?_ fun _=> ?_
set_option maxHeartbeats 8000000 in
set_option maxRecDepth 100000 in
theorem slices_Contains_string_string.calls (k:Nat) (A0:Option Addr) (c0:Nat) (l0:List ByteArray) (a1:ByteArray) (r:Bool) (w:World) (hr0:Kd.C Kd.string w A0 l0.length l0) (hc0:l0.length≤c0) (h:slices_Contains_string_string.f k l0 a1=some r):
  Calls Try.prog 160 #[.slice A0 l0.length c0, .string a1] w fun e w'=>e= .returned (.bool r)∧Drawn0 w w':=by
 have HR0:=Aside0.mk hr0;have HC0:=Aside0.mk hc0;clear hr0 hc0;have H:((slices_Index_string_string.f k l0 a1).bind fun t1=>(some (decide (t1≥0))))=some r:=h;clear h;replace H:=zbd_ H;obtain ⟨t1,A3,H⟩:=H;try dsimp only at H
 obtain rfl:=Option.some.inj H;go_enter Try.func160,Try.ntmps160;go_wp2_with (first|((with_reducible refine gate_callee (f:=174) rfl ?_);refine gl_ (some 7) Try.func174 #[.slice A0 l0.length c0, .string a1] ?_;(with_reducible refine (slices_Index_string_string.calls k _ _ l0 a1 t1 _ ?side1 ?side2 A3.out).mono ?_);(case side1=>repeat (first|exact HR0.out|(with_reducible refine Kd.C_alloc ?_ _)|(with_reducible refine Kd.C_drewN ?_ _)|(with_reducible refine Kd.C_drew ?_)));(case side2=>exact HC0.out);rintro e w' ⟨rfl,⟨nd,rfl⟩⟩;refine ⟨_,rfl, ?_⟩))
 go_ret
 exact ⟨by first|rfl|(simp;done)|(simp [*];done),by repeat (first|exact Drawn0.refl _|apply Drawn0.step)⟩

end Go.Proofs.Ytahidkjncljkaaa.Print

namespace Go.Proofs.Ytahidkjncljkaaa.Print
open Go.RowKit Go.Proofs.YtahidkjncljkaaaW.PrintWords Go.Proofs.YtahidkjncljkaaaW.PrintLast Go.Proofs.YtahidkjncljkaaaW.PrintMore
theorem at_str {w:World} {A:Option Addr} {n:Nat} {xs:List ByteArray} (h:Kd.C Kd.string w A n xs) (i:Int) (h0:0≤i) (h1:i<n): ∃ad,A=some ad∧w.cell? (ad.add i.toNat)=some (.string (rdOf ByteArray.empty xs i)):=by
 obtain ⟨ad,c,e,_,hK,hc⟩:=Kd.C_get h ByteArray.empty i h0 h1;have hc0: ∀j u,c[j]?=some u→w.cell? (ad.add (i.toNat*1+j))=some u:=hc;obtain rfl:c=[.string (xs.getD i.toNat ByteArray.empty)]:=hK;have:=hc0 0 _ rfl
 rw [Nat.mul_one,Nat.add_zero] at this;exact ⟨ad,e,this⟩
end Go.Proofs.Ytahidkjncljkaaa.Print

namespace Go.Proofs.Ytahidkjncljkaaa.Print
open Go.RowKit Go.Proofs.YtahidkjncljkaaaW.PrintWords Go.Proofs.YtahidkjncljkaaaW.PrintLast Go.Proofs.YtahidkjncljkaaaW.PrintMore
attribute [local go_sem] max2_int min2_int max_two min_two max_three min_three max_four min_four

set_option maxHeartbeats 8000000 in
set_option maxRecDepth 100000 in
theorem shapeShift_calls (g:Nat) (lb:Array Value) (op:S37→S37) (gS:Nat) (ob:Obj) (base bu:Nat) (v:Value) (out r:List S79) (j0:Int) (Au:Option Addr) (cu:Nat) (us:List ByteArray) (w:World)
    (eg: ∀args w,(callFunc g args).run Try.prog w= .ok (.enter g args) w) (hr:Kd.R k79 79 w base (fun _=>True) v out) (hbase:base≤w.heap.size) (hs:w.heap[gS]?=some ob) (hne:some gS≠v.ownBlock)
    (hu:Kd.R Kd.string 9 w bu (fun _=>True) (.slice Au us.length cu) us)
    (hp: ∀W' u,W'.heap[gS]?=some ob→Calls Try.prog g (#[.agg #[.int .i64 u.f0, .int .i64 u.f1, .int .i64 u.f2]]++lb) W' fun e w'=>e= .returned (.agg #[.int .i64 (op u).f0, .int .i64 (op u).f1, .int .i64 (op u).f2])∧Below W'.heap.size W' w')
    (h:shiftF op us out=some r):
    Calls Try.prog 161 #[.agg #[v, .int .i64 j0], .slice Au us.length cu, .func (.func g) #[] lb] w fun e w'=>e= .returned (.tuple #[])∧Kd.R k79 79 w' base (fun _=>True) v r∧Turned w w' base v:=by
  have hu197:=Try.underlying197
  have hu195:=Try.underlying195
  have hu79:=Try.underlying79
  have hu37:=Try.underlying37
  have hm:us.length≤9223372036854775807:=(Kd.R_reads' hu).2.2.2.1
  have hm2:out.length≤9223372036854775807:=by obtain ⟨A,c,rfl,_,hh⟩:=Kd.R_reads hr;exact hh.2.1
  have HO:=Aside0.mk hr
  have HU:=Aside0.mk hu
  have HP:=Aside0.mk hp
  have HS:=Aside0.mk hs
  have HF:=Aside0.mk h
  have HNE:=Aside0.mk hne
  have HB:=am_ (Below.refl w.heap.size w)
  have HBS:=Aside0.mk hbase
  have HLT:=am_ (Kd.R_lt hr)
  obtain ⟨A5,c5,rfl⟩: ∃A5 c5,v= .slice A5 out.length c5:=Kd.R_slice hr
  clear hr hu hp hs hne h hbase
  obtain ⟨n,hn⟩: ∃n,n=out.length:=⟨_,rfl⟩
  rw [←hn] at HO HNE HLT hm2 ⊢
  have HN:=Aside0.mk hn.symm
  clear hn
  go_enter Try.func161,Try.ntmps161
  go_wp2_with (first|((with_reducible refine gate_dst (N:=3) rfl ?_);refine bx_ (N:=3) (cs:=#[.slice A5 n c5, .int .i64 j0]) (t:=197) ?_;intro gb3 hg w1 hbox hb;replace HO:=am_ (Kd.R_below HO.out hb);replace HU:=am_ (Kd.R_below HU.out hb);replace HS:=am_ (blk_below HS.out hb);have BK3:=am_ (hbox);have GE3:=am_ ((by rw [hg];exact below_size HB.out:w.heap.size≤gb3));replace HB:=am_ (below_step HB.out hb);have EQ3:=am_ (hg);clear hb hbox hg;have cgb3_0:=(blk_cell BK3.out 0).trans rfl;have cgb3_1:=(blk_cell BK3.out 1).trans rfl))
  have NE3:=am_ (show some gb3≠(Value.slice A5 n c5).ownBlock from fun e=>by have:=HLT.out _ e.symm;have:=EQ3.out;omega)
  have HT:=am_ (Turned.of_below (base:=base) (v:= .slice A5 n c5) HB.out HBS.out)
  clear HB GE3 EQ3
  go_loopg [7,8,11] us.length (fun kq s7 s8 s11 wr=> ∃(i:Nat) (cur:List S79),i≤us.length∧us.length - i≤kq∧s11= .int .i64 i∧Aside0 (cur.length=n)∧Aside0 (shiftF op (us.drop i) cur=some r)∧Aside0 (Turned w wr base (.slice A5 n c5))∧Aside0 (wr.heap[gb3]?=some (.cells #[.slice A5 n c5, .int .i64 j0] 197 (0,0)))∧Aside0 (wr.heap[gS]?=some ob)∧Aside0 (Kd.R k79 79 wr base (fun _=>True) (.slice A5 n c5) cur)∧Aside0 (Kd.R Kd.string 9 wr bu (fun _=>True) (.slice Au us.length cu) us))
  case atStart=>exact ⟨0,out,by omega,by omega,rfl,HN,HF,HT,BK3,HS,HO,HU⟩
  case round=>
    clear HO BK3 HT HF HS HU HN cgb3_0 cgb3_1
    obtain ⟨i,cur,hi,hg,rfl,HN,HF,HT,BK3,HS,HO,HU⟩:=hrel
    have cgb3_0:=(blk_cell BK3.out 0).trans rfl
    have cgb3_1:=(blk_cell BK3.out 1).trans rfl
    by_cases hlt:i<us.length
    rotate_left
    · obtain rfl : i = us.length := by omega
      have hf:=HF.out
      rw [List.drop_length] at hf
      cases hf
      go_wp2_with fail
      first|go_end0|refine bodyPost_end (results_none rfl _ _ _) rfl ?_
      exact ⟨rfl,HO.out,HT.out⟩


    have hltz:(i:Int)<(us.length:Int):=by omega
    have hdr:us.drop i=us[i]::us.drop (i+1):=List.drop_eq_getElem_cons hlt
    have hf:=HF.out
    rw [hdr] at hf
    unfold shiftF at hf
    obtain ⟨j,hj,hf2⟩:=Option.bind_eq_some_iff.1 hf
    split at hf2
    case isFalse=>cases hf2
    case isTrue hjb=>
    obtain ⟨hj0,hj1⟩:=hjb
    have hst:rdOf ByteArray.empty us (i:Int)=us[i]:=by simp [rdOf,hlt]
    rw [←hst] at hj
    obtain ⟨ad,e1,h0⟩:=at_str (Kd.R_reads' HU.out).2.2 (i:Int) (by omega) (by omega)
    cases e1
    simp only [Int.toNat_natCast] at h0
    obtain ⟨gb,cap,hv5,hgb,hgl⟩:=sh_head HO.out (by omega)
    rw [HN.out] at hv5
    cases hv5
    have hcs:=sh_cells' HO.out HN.out j hj0 (by rw [HN.out] at hj1;exact hj1)
    have HJ:=Aside0.mk hj
    have HF2:=Aside0.mk hf2
    have HJ0:=Aside0.mk hj0
    have HJ1:=am_ (show j<(n:Int) from by rw [HN.out] at hj1;exact hj1)
    generalize hy:rd_T79 cur j=y at hcs
    have HY:=Aside0.mk hy
    have HCS:=Aside0.mk hcs
    have HGB:=Aside0.mk hgb
    have HGL:=Aside0.mk hgl
    have HB0:=am_ (Below.refl wr.heap.size wr)
    have q0:(0≤j)=True:=eq_true hj0
    have q1:(j<(n:Int))=True:=eq_true HJ1.out
    have hB0:Below wr.heap.size wr wr:=Below.refl _ _
    have hBd:Below wr.heap.size wr wr.drew:=below_drew hB0
    clear hf hf2 hdr hst hcs hy hgb hgl hj hj0 hj1 HF
    go_wp2_with fail
    go_region_held3 (fun w'=>w'.cell? ⟨gb3,0,none⟩=some (.slice (some ⟨gb,0,none⟩) n c5)∧Below wr.heap.size wr w')
      (first|(go_keep;done)|(go_split_ands;refine ⟨?_, ?_⟩<;>first|exact below_step (by assumption) hb|exact pw_cell_below hb (by first|assumption|(go_keep;done))))
      (first|(go_at_call 91;refine calls_of_args (args':=#[.slice (some ⟨gb,0,none⟩) cur.length c5, .string (rdOf ByteArray.empty us i)]) (by rw [HN.out]) ((tree_Find.calls _ _ cur _ j _ (Kd.R_reads' (HN.out▸Kd.R_below HO.out (by first|assumption|(go_split_ands;assumption)))).2.2 (by have:=(Kd.R_reads' HO.out).2.1;rw [HN.out];exact this) HJ.out).mono ?_);rintro e w' ⟨rfl,hb⟩))
    rename_i hHeld
    have hBz:Below wr.heap.size wr w':=hHeld.2
    clear hHeld hB0 hBd cgb3_0 cgb3_1 h0
    (try clear hb)
    have HT4:=am_ (HT.out.below_ (Nat.le_trans HBS.out HT.out.below.size) hBz)
    have BK4:=am_ (blk_below BK3.out hBz)
    have HS4:=am_ (blk_below HS.out hBz)
    have HO4:=am_ (Kd.R_below HO.out hBz)
    have HU4:=am_ (Kd.R_below HU.out hBz)
    have HGL4:=am_ (Nat.lt_of_lt_of_le HGL.out hBz.size)
    have HCS4:=am_ (fun j' u hu=>(hBz.cell (p:=⟨gb,j.toNat*12+j',none⟩) HGL.out).trans (HCS.out j' u hu))
    clear hBz HT BK3 HS HO HU HGL HCS
    have k8:w'.cell? ⟨gb,j.toNat*12+8,none⟩=some (.int .i64 y.f4.f0):=HCS4.out 8 _ rfl
    have k9:w'.cell? ⟨gb,j.toNat*12+8+1,none⟩=some (.int .i64 y.f4.f1):=HCS4.out 9 _ rfl
    have k10:w'.cell? ⟨gb,j.toNat*12+8+2,none⟩=some (.int .i64 y.f4.f2):=HCS4.out 10 _ rfl
    go_wp2_with fail
    refine (HP.out w' y.f4 HS4.out).mono ?_
    rintro e w4 ⟨rfl,hb⟩
    have HT5:=am_ (HT4.out.below_ (Nat.le_trans HBS.out HT4.out.below.size) hb)
    have BK5:=am_ (blk_below BK4.out hb)
    have HS5:=am_ (blk_below HS4.out hb)
    have HO5:=am_ (Kd.R_below HO4.out hb)
    have HU5:=am_ (Kd.R_below HU4.out hb)
    have HCS5:=am_ (fun j' u hu=>(hb.cell (p:=⟨gb,j.toNat*12+j',none⟩) HGL4.out).trans (HCS4.out j' u hu))
    clear hb HT4 BK4 HS4 HO4 HU4 HCS4 k8 k9 k10
    clear eg
    go_wp2_with ((with_reducible refine gate_store (t:=37) (p:=32) (v:= .tmp 30) rfl ?_);refine Kd.R_store k79 (w0:=w4) base rfl rfl 37 (.tmp 32) (.tmp 30) rfl 79 (g:=gb) (n:=n) (cap:=c5) (o':=j.toNat*12+8) j 8 cur (shSub op y) (.agg #[.int .i64 (op y.f4).f0, .int .i64 (op y.f4).f1, .int .i64 (op y.f4).f2]) [.int .i64 (op y.f4).f0, .int .i64 (op y.f4).f1, .int .i64 (op y.f4).f2] (shCells y) (fun _=>True) (fun _=>False) rfl rfl rfl rfl ?ct ?c1 HO5.out ?c2 ?c3 rfl HCS5.out (by show 8+3≤12;omega) ?cM (fun _ h=>h.elim) (Below.refl _ _) ?_;(case ct=>kernel_rfl);(case c1=>intro q hq;simp only [List.mem_cons,List.not_mem_nil,or_false] at hq;rcases hq with rfl|rfl|rfl<;>rfl);(case c2=>exact HJ0.out);(case c3=>exact HJ1.out);(case cM=>exact k79_mkM _ _ _ (shSub op y));intro w5 ho hb hg;have HO6:=Aside0.mk ho;have HG6:=Aside0.mk hg;clear ho hb hg)
    have HT6:=am_ (HT5.out.grown_ (Nat.le_trans HBS.out HT5.out.below.size) HGB.out HG6.out)
    have BK6:=am_ (blk_put_other BK5.out HG6.out (fun e=>NE3.out (by rw [e];rfl)))
    have HS6:=am_ (blk_put_other HS5.out HG6.out (fun e=>HNE.out (by rw [e];rfl)))
    have HU6:=am_ (R_turned HU5.out HO5.out (by decide) ((Turned.of_below (Below.refl _ _) (Nat.le_trans HBS.out HT5.out.below.size)).then_grown (Nat.le_trans HBS.out HT5.out.below.size) HGB.out HG6.out))
    go_roundg (us.length - (i+1))
    case measure=>omega
    case rel=>
      refine ⟨i+1,cur.set j.toNat (shSub op y),by omega,by omega,by go_num,⟨by rw [List.length_set];exact HN.out⟩,⟨?_⟩,HT6,BK6,HS6,HO6,HU6⟩
      have:=HF2.out
      rw [HY.out] at this
      exact this
theorem vecSub1_calls (x y:Int) (W:World):Calls Try.prog 175 #[.int .i64 x, .int .i64 y] W fun e w'=>e= .returned (.int .i64 (wrap64 (x - y)))∧w'=W:=by
 go_enter Try.func175,Try.ntmps175
 go_wp2
 go_ret
 exact ⟨rfl,rfl⟩
theorem vec_one_row {W:World} {g:Nat} (x:S37) (h:W.heap[g]?=some (.cells #[.int .i64 x.f0, .int .i64 x.f1, .int .i64 x.f2] 37 (0,0))):Kd.C k37 W (some ⟨g,0,none⟩) [x].length [x]:=by
 refine ⟨rfl,by simp,fun _=>⟨_,rfl,fun j p hj=> ?_⟩⟩
 obtain ⟨rfl,rfl⟩:j=0∧x=p:=by
  cases j with
  |zero=>exact ⟨rfl,by simpa using hj⟩
  |succ j=>simp at hj
 refine ⟨_,rfl,k37_mk W x,fun i u hi=> ?_⟩
 rw [Addr.add_lit,blk_cell h,←hi]
 simp
theorem vec_two_row {W:World} {g:Nat} (x y:S37) (h:W.heap[g]?=some (.cells #[.int .i64 x.f0, .int .i64 x.f1, .int .i64 x.f2, .int .i64 y.f0, .int .i64 y.f1, .int .i64 y.f2] 37 (0,0))):Kd.C k37 W (some ⟨g,0,none⟩) [x,y].length [x,y]:=by
  refine ⟨rfl,by simp,fun _=>⟨_,rfl,fun j p hj=> ?_⟩⟩
  match j,hj with
  | 0, hj =>
    obtain rfl:x=p:=by simpa using hj
    refine ⟨_,rfl,k37_mk W x,fun i u hi=> ?_⟩
    rw [Addr.add_lit,blk_cell h]
    match i,hi with
    |0,hi=>exact hi
    |1,hi=>exact hi
    |2,hi=>exact hi
    |i+3,hi=>simp at hi
  | 1, hj =>
    obtain rfl:y=p:=by simpa using hj
    refine ⟨_,rfl,k37_mk W y,fun i u hi=> ?_⟩
    rw [Addr.add_lit,blk_cell h]
    match i,hi with
    |0,hi=>exact hi
    |1,hi=>exact hi
    |2,hi=>exact hi
    |i+3,hi=>simp at hi
  |j+2,hj=>simp at hj
def vec_Sub.f (a0_0:Int) (a0_1:Int) (a0_2:Int) (a1_0:Int) (a1_1:Int) (a1_2:Int):Option (Int×Int×Int):=some (wrap64 (a0_0 - a1_0),wrap64 (a0_1 - a1_1),wrap64 (a0_2 - a1_2))
set_option maxHeartbeats 1000000 in
set_option maxRecDepth 100000 in
theorem vec_Sub.calls (a0_0:Int) (a0_1:Int) (a0_2:Int) (a1_0:Int) (a1_1:Int) (a1_2:Int) (r1:Int) (r2:Int) (r3:Int) (w:World) (h:vec_Sub.f a0_0 a0_1 a0_2 a1_0 a1_1 a1_2=some (r1,r2,r3)):
  Calls Try.prog 163 #[.agg #[.int .i64 a0_0, .int .i64 a0_1, .int .i64 a0_2], .agg #[.int .i64 a1_0, .int .i64 a1_1, .int .i64 a1_2]] w fun e w'=>e= .returned (.agg #[.int .i64 r1, .int .i64 r2, .int .i64 r3])∧Below w.heap.size w w':=by
 have hu37:=Try.underlying37;have HC:=am_ (fun (W:World) (g:Nat) (hb:W.heap[g]?=some (.cells #[.int .i64 a1_0, .int .i64 a1_1, .int .i64 a1_2] 37 (0,0)))=>vecBy_calls 175 (fun x y=>wrap64 (x - y)) (enters_of Try.func175 (by kernel_rfl) rfl) vecSub1_calls (some ⟨g,0,none⟩) 1 [⟨a1_0,a1_1,a1_2⟩] a0_0 a0_1 a0_2 W (vec_one_row ⟨a1_0,a1_1,a1_2⟩ hb) (Nat.le_refl _) (by simp [maxLen]));have HH:=Aside0.mk h;clear h;go_enter Try.func163,Try.ntmps163;go_wp2_with fail
 obtain ⟨w3,hw3⟩: ∃w3,w3=((w.alloc (.cells #[.int .i64 a0_0, .int .i64 a0_1, .int .i64 a0_2] 37)).alloc (.cells #[.int .i64 a1_0, .int .i64 a1_1, .int .i64 a1_2] 37)).alloc (.cells #[.int .i64 0, .int .i64 0, .int .i64 0] 37):=⟨_,rfl⟩;have hs3:w3.heap.size=w.heap.size+1+1+1:=by rw [hw3];simp
 have hz3:w3.heap[w.heap.size+1+1]?=some (.cells #[.int .i64 0, .int .i64 0, .int .i64 0] 37 (0,0)):=by rw [hw3];have:=blk_new ((w.alloc (.cells #[.int .i64 a0_0, .int .i64 a0_1, .int .i64 a0_2] 37)).alloc (.cells #[.int .i64 a1_0, .int .i64 a1_1, .int .i64 a1_2] 37)) (.cells #[.int .i64 0, .int .i64 0, .int .i64 0] 37);simpa using this
 have hb3:Below w.heap.size w w3:=by rw [hw3];exact below_alloc (below_alloc (below_alloc (Below.refl _ _) _) _) _
 rw [←hw3,←hs3];clear hw3;have hn:=blk_new w3 (.cells #[.int .i64 a1_0, .int .i64 a1_1, .int .i64 a1_2] 37);refine (HC.out _ _ hn).mono ?_;rintro e w1 ⟨rfl,hb⟩;have h:=Option.some.inj (show some (vecByF (fun x y=>wrap64 (x - y)) [⟨a1_0,a1_1,a1_2⟩] a0_0 a0_1 a0_2)=some (r1,r2,r3) from HH.out);rw [h];have HB:=am_ (below_step (below_step hb3 (below_alloc (Below.refl _ _) _)) hb);have HZ:=am_ (blk_below (blk_alloc hz3 (.cells #[.int .i64 a1_0, .int .i64 a1_1, .int .i64 a1_2] 37)) hb);clear h hb hn hb3 hz3 HC;have HS3:=Aside0.mk hs3;clear hs3;obtain ⟨_,_,_⟩:=xz3_ HZ;obtain ⟨_,_,_⟩:=ff3_ HZ;have hs1:w.heap.size+1+1<w1.heap.size:=blk_lt HZ.out;go_wp2
 refine bodyPost_ret (results_cell_row rfl _ _ (w.heap.size+1+1) 37 #[.int .i64 r1, .int .i64 r2, .int .i64 r3] (0,0) _ rfl (blk_put (blk_put (blk_put HZ.out 0 _ rfl) 1 _ rfl) 2 _ rfl) Try.underlying37 rfl (by kernel_rfl)) rfl ?_;have hle:w.heap.size≤w.heap.size+1+1:=by omega
 exact ⟨rfl,below_set (below_set (below_set HB.out hle) hle) hle⟩


def mvAdd (v u:S37):S37:=⟨((vec_Add.f [u,v]).getD (0,0,0)).1,((vec_Add.f [u,v]).getD (0,0,0)).2.1,((vec_Add.f [u,v]).getD (0,0,0)).2.2⟩
def mvSub (v u:S37):S37:=⟨wrap64 (u.f0 - v.f0),wrap64 (u.f1 - v.f1),wrap64 (u.f2 - v.f2)⟩
set_option maxHeartbeats 1000000 in
set_option maxRecDepth 100000 in
theorem shMove2_calls (W:World) (b:Nat) (v u:S37) (hb:W.heap[b]?=some (.cells #[.int .i64 v.f0, .int .i64 v.f1, .int .i64 v.f2] 37 (0,0))):
  Calls Try.prog 164 #[.agg #[.int .i64 u.f0, .int .i64 u.f1, .int .i64 u.f2], .pointer (some ⟨b,0,none⟩)] W fun e w'=>e= .returned (.agg #[.int .i64 (mvAdd v u).f0, .int .i64 (mvAdd v u).f1, .int .i64 (mvAdd v u).f2])∧Below W.heap.size W w':=by
 have hu37:=Try.underlying37;obtain ⟨⟨q1,q2,q3⟩,hq⟩: ∃q:Int×Int×Int,vec_Add.f [u,v]=some q:=⟨_,rfl⟩;rw [show mvAdd v u=⟨q1,q2,q3⟩ from by unfold mvAdd;rw [hq];rfl];have HQ:=Aside0.mk hq;clear hq;have h0:=(blk_cell hb 0).trans rfl;have h01:=(blk_cell hb 1).trans rfl;have h02:=(blk_cell hb 2).trans rfl;have hl:b<W.heap.size:=blk_lt hb;clear hb;go_enter Try.func164,Try.ntmps164;go_wp2_with fail
 obtain ⟨w3,hw3⟩: ∃w3,w3=(W.alloc (.cells #[.int .i64 u.f0, .int .i64 u.f1, .int .i64 u.f2] 37)).alloc (.cells #[.int .i64 0, .int .i64 0, .int .i64 0] 37):=⟨_,rfl⟩;have hs3:w3.heap.size=W.heap.size+1+1:=by rw [hw3];simp
 have hz3:w3.heap[W.heap.size+1]?=some (.cells #[.int .i64 0, .int .i64 0, .int .i64 0] 37 (0,0)):=by rw [hw3];have:=blk_new (W.alloc (.cells #[.int .i64 u.f0, .int .i64 u.f1, .int .i64 u.f2] 37)) (.cells #[.int .i64 0, .int .i64 0, .int .i64 0] 37);simpa using this
 have hb3:Below W.heap.size W w3:=by rw [hw3];exact below_alloc (below_alloc (Below.refl _ _) _) _
 rw [←hw3,←hs3];clear hw3;have hn:=blk_new w3 (.cells #[.int .i64 u.f0, .int .i64 u.f1, .int .i64 u.f2, .int .i64 v.f0, .int .i64 v.f1, .int .i64 v.f2] 37);refine (vec_Add.calls (some ⟨_,0,none⟩) 2 [u,v] q1 q2 q3 _ (vec_two_row u v hn) (Nat.le_refl _) HQ.out).mono ?_;rintro e w1 ⟨rfl,hb⟩;have HB:=am_ (below_step (below_step hb3 (below_alloc (Below.refl _ _) _)) hb);have HZ:=am_ (blk_below (blk_alloc hz3 (.cells #[.int .i64 u.f0, .int .i64 u.f1, .int .i64 u.f2, .int .i64 v.f0, .int .i64 v.f1, .int .i64 v.f2] 37)) hb);have HS3:=Aside0.mk hs3;clear hb hn hb3 hz3 hs3 h0 h01 h02;obtain ⟨_,_,_⟩:=xz3_ HZ;obtain ⟨_,_,_⟩:=ff3_ HZ;have hs1:W.heap.size+1<w1.heap.size:=blk_lt HZ.out;go_wp2
 refine bodyPost_ret (results_cell_row rfl _ _ (W.heap.size+1) 37 #[.int .i64 q1, .int .i64 q2, .int .i64 q3] (0,0) _ rfl (blk_put (blk_put (blk_put HZ.out 0 _ rfl) 1 _ rfl) 2 _ rfl) Try.underlying37 rfl (by kernel_rfl)) rfl ?_;have hle:W.heap.size≤W.heap.size+1:=by omega
 exact ⟨rfl,below_set (below_set (below_set HB.out hle) hle) hle⟩
set_option maxHeartbeats 1000000 in
set_option maxRecDepth 100000 in
theorem shMove1_calls (W:World) (b:Nat) (v u:S37) (hb:W.heap[b]?=some (.cells #[.int .i64 v.f0, .int .i64 v.f1, .int .i64 v.f2] 37 (0,0))):
  Calls Try.prog 162 #[.agg #[.int .i64 u.f0, .int .i64 u.f1, .int .i64 u.f2], .pointer (some ⟨b,0,none⟩)] W fun e w'=>e= .returned (.agg #[.int .i64 (mvSub v u).f0, .int .i64 (mvSub v u).f1, .int .i64 (mvSub v u).f2])∧Below W.heap.size W w':=by
 have hu37:=Try.underlying37;obtain ⟨⟨q1,q2,q3⟩,hq⟩: ∃q:Int×Int×Int,vec_Sub.f u.f0 u.f1 u.f2 v.f0 v.f1 v.f2=some q:=⟨_,rfl⟩;rw [show mvSub v u=⟨q1,q2,q3⟩ from by have:=Option.some.inj hq;cases this;rfl];have HQ:=Aside0.mk hq;clear hq;have h0:=(blk_cell hb 0).trans rfl;have h01:=(blk_cell hb 1).trans rfl;have h02:=(blk_cell hb 2).trans rfl;have hl:b<W.heap.size:=blk_lt hb;clear hb;go_enter Try.func162,Try.ntmps162;go_wp2_with fail
 obtain ⟨w3,hw3⟩: ∃w3,w3=(W.alloc (.cells #[.int .i64 u.f0, .int .i64 u.f1, .int .i64 u.f2] 37)).alloc (.cells #[.int .i64 0, .int .i64 0, .int .i64 0] 37):=⟨_,rfl⟩;have hs3:w3.heap.size=W.heap.size+1+1:=by rw [hw3];simp
 have hz3:w3.heap[W.heap.size+1]?=some (.cells #[.int .i64 0, .int .i64 0, .int .i64 0] 37 (0,0)):=by rw [hw3];have:=blk_new (W.alloc (.cells #[.int .i64 u.f0, .int .i64 u.f1, .int .i64 u.f2] 37)) (.cells #[.int .i64 0, .int .i64 0, .int .i64 0] 37);simpa using this
 have hb3:Below W.heap.size W w3:=by rw [hw3];exact below_alloc (below_alloc (Below.refl _ _) _) _
 rw [←hw3];clear hw3;refine (vec_Sub.calls u.f0 u.f1 u.f2 v.f0 v.f1 v.f2 q1 q2 q3 _ HQ.out).mono ?_;rintro e w1 ⟨rfl,hb⟩;have HB:=am_ (below_step hb3 hb);have HZ:=am_ (blk_below hz3 hb);have HS3:=Aside0.mk hs3;clear hb hb3 hz3 hs3 h0 h01 h02;obtain ⟨_,_,_⟩:=xz3_ HZ;obtain ⟨_,_,_⟩:=ff3_ HZ;have hs1:W.heap.size+1<w1.heap.size:=blk_lt HZ.out;go_wp2
 refine bodyPost_ret (results_cell_row rfl _ _ (W.heap.size+1) 37 #[.int .i64 q1, .int .i64 q2, .int .i64 q3] (0,0) _ rfl (blk_put (blk_put (blk_put HZ.out 0 _ rfl) 1 _ rfl) 2 _ rfl) Try.underlying37 rfl (by kernel_rfl)) rfl ?_;have hle:W.heap.size≤W.heap.size+1:=by omega
 exact ⟨rfl,below_set (below_set (below_set HB.out hle) hle) hle⟩
def fitsF (k:Nat) (l:List S79) (from_:List ByteArray) (sub:S37):List ByteArray→Option Bool
  |[]=>some true
  | s :: us => (tree_Find.f l s).bind fun j => if 0 ≤ j ∧ j < (l.length : Int) then (slices_Contains_string_string.f k from_ s).bind fun c => if c = true then fitsF k l from_ sub us else
      (vec_Le.f (mvAdd sub (rd_T79 l j).f4).f0 (mvAdd sub (rd_T79 l j).f4).f1 (mvAdd sub (rd_T79 l j).f4).f2 (rd_T79 l j).f2.f0 (rd_T79 l j).f2.f1 (rd_T79 l j).f2.f2).bind fun b=>if b=true then fitsF k l from_ sub us else some false else none
theorem fitsF_mono (l:List S79) (from_:List ByteArray) (sub:S37) (k:Nat): ∀us,LeO (fitsF k l from_ sub us) (fitsF (k+1) l from_ sub us)
  |[]=>LeO.refl _
  | s :: us => by
    unfold fitsF;refine LeO.bind (LeO.refl _) (fun j=>LeO.ite (LeO.bind (slices_Contains_string_string.mono _ _ _) (fun c=>LeO.ite (fitsF_mono l from_ sub k us) (LeO.bind (LeO.refl _) (fun b=>LeO.ite (fitsF_mono l from_ sub k us) (LeO.refl _))))) (LeO.refl _))
def parF (p:ByteArray) (y:S79):S79:=⟨y.f0,p,y.f2,y.f3,y.f4,y.f5⟩
theorem shiftF_len (op:S37→S37): ∀(us:List ByteArray) (l r:List S79),shiftF op us l=some r→r.length=l.length
  |[],l,r,h=>by cases h;rfl
  | s :: us, l, r, h => by
    unfold shiftF at h;obtain ⟨j,_,h1⟩:=Option.bind_eq_some_iff.1 h
    split at h1
    · have := shiftF_len op us _ r h1
      rwa [List.length_set] at this
    cases h1
def shape_Move.f (k:Nat) (l0:List (S79)) (a1:ByteArray) (a2:ByteArray) (a3:Int):Option ((List (S79))×Int):=
 (shape_made.f l0 a1).bind fun p=>(guardF p.1 p.2 a3).bind fun e=>if e≠0 then some ([],e) else (tree_Up.f k l0 a2).bind fun ts=>(shape_change_parent.f p.1 p.2 a2).bind fun q=>if q=false then some ([],2) else
  (slices_Contains_string_string.f k ts a1).bind fun c=>if c=true then some ([],10) else (olderF p.1 p.2).bind fun o=>if o.1≠0 then some ([],o.1) else
   (tree_Up.f k l0 (rd_T79 o.2 p.2).f1).bind fun fs=>(fitsF k l0 fs (rd_T79 o.2 p.2).f4 ts).bind fun b=>if b=false then some ([],12) else
    (shiftF (mvSub (rd_T79 o.2 p.2).f4) fs o.2).bind fun l3=>(shiftF (mvAdd (rd_T79 o.2 p.2).f4) ts l3).bind fun l4=>some (l4.set p.2.toNat (parF a2 (rd_T79 l4 p.2)),0)
theorem shape_Move.mono: ∀a0 a1 a2 a3 k,LeO (shape_Move.f k a0 a1 a2 a3) (shape_Move.f (k+1) a0 a1 a2 a3):=by
 intro a0 a1 a2 a3 k;unfold shape_Move.f
 repeat' first
  |(with_reducible exact tree_Up.mono _ _ _)
  |(with_reducible exact slices_Contains_string_string.mono _ _ _)
  |(with_reducible exact fitsF_mono _ _ _ _ _)
  |(with_reducible exact LeO.refl _)
  |(with_reducible exact LeO.none _)
  |(with_reducible refine LeO.ite ?_ ?_)
  |(with_reducible refine LeO.bind ?_ (fun _=> ?_))
set_option maxHeartbeats 8000000 in
set_option maxRecDepth 100000 in
theorem shape_Move.calls (k:Nat) (A0:Option Addr) (c0:Nat) (l0:List (S79)) (a1:ByteArray) (a2:ByteArray) (a3:Int) (r1:List (S79)) (r2:Int) (w:World) (hr0:Kd.C k79 w A0 l0.length l0) (hc0:l0.length≤c0) (h:shape_Move.f k l0 a1 a2 a3=some (r1,r2)):
    Calls Try.prog 140 #[.slice A0 l0.length c0, .string a1, .string a2, .int .i64 a3] w fun e w'=> ∃v0_:Value,e= .returned (.tuple #[v0_, .int .i64 r2])∧Kd.R k79 79 w' w.heap.size (fun _=>True) v0_ r1∧Below w.heap.size w w':=by
  have hu197:=Try.underlying197;have hu195:=Try.underlying195;have hu79:=Try.underlying79;have hu37:=Try.underlying37;unfold shape_Move.f at h;obtain ⟨⟨out,j⟩,hmd,h1⟩:=Option.bind_eq_some_iff.1 h;clear h;obtain ⟨e0,hgd,h2⟩:=Option.bind_eq_some_iff.1 h1;clear h1;dsimp only at hgd h2;have HR:=Aside0.mk hr0;have HC:=Aside0.mk hc0;have HM:=Aside0.mk hmd;have HG:=Aside0.mk hgd;have HB:=am_ (Below.refl w.heap.size w);have HH:=Aside0.mk h2;clear hr0 hc0 hmd hgd h2;go_enter Try.func140,Try.ntmps140;go_wp2_with fail
  refine (shape_made.calls _ _ _ _ _ _ _ (Kd.C_below HR.out HB.out) HC.out HM.out).mono ?_;rintro e w3 ⟨v0,rfl,ho,hb⟩;have HO:=am_ (Kd.R_lower ho (below_size HB.out));replace HB:=am_ (below_step HB.out hb);clear ho hb;obtain ⟨A5,c5,rfl⟩: ∃A5 c5,v0= .slice A5 out.length c5:=Kd.R_slice HO.out;have HLT:=am_ (Kd.R_lt HO.out);go_wp2_with (first|((with_reducible refine gate_dst (N:=10) rfl ?_);refine bx_ (N:=10) (cs:=#[.slice none 0 0, .int .i64 0]) (t:=197) ?_;intro gb2 hg w4 hbox hb;replace HO:=am_ (Kd.R_below HO.out hb);have BK2:=am_ (hbox);have GE2:=am_ ((by rw [hg];exact below_size HB.out:w.heap.size≤gb2));replace HB:=am_ (below_step HB.out hb);have EQ2:=am_ (hg);clear hb hbox hg)|((with_reducible refine gate_store (t:=197) (p:=10) (v:= .tmp 21) rfl ?_);refine store_all BK2.out 197 (.tmp 10) (.tmp 21) rfl rfl rfl (.agg #[.slice A5 out.length c5, .int .i64 j]) [.slice A5 out.length c5, .int .i64 j] rfl rfl rfl (by kernel_rfl) rfl (by intro q hq;simp only [List.mem_cons,List.not_mem_nil,or_false] at hq;rcases hq with rfl|rfl<;>rfl) ?_;intro w5 hbk hg;replace HO:=am_ (R_put HO.out BK2.out (by decide) hg);replace HB:=am_ (below_put HB.out (below_size HB.out) hg GE2.out);replace BK2:=am_ (hbk);clear hbk hg;obtain ⟨cgb2_0,cgb2_1⟩:=xz2_ BK2))
  have NE2:=am_ (show some gb2≠(Value.slice A5 out.length c5).ownBlock from fun e=>by have:=HLT.out _ e.symm;have:=EQ2.out;omega);refine (shapeGuard_calls _ _ _ out j a3 e0 HO.out HG.out).mono ?_;rintro e w6 ⟨rfl,hb⟩;clear cgb2_0 cgb2_1;replace HO:=am_ (Kd.R_below HO.out hb);replace BK2:=am_ (blk_below BK2.out hb);replace HB:=am_ (below_step HB.out hb);clear hb;obtain ⟨cgb2_0,cgb2_1⟩:=xz2_ BK2;have h2:=HH.out;clear HH;by_cases c1:e0=0;rotate_left
  · rw [if_pos c1] at h2
    cases h2
    have q1:(r2==0)=false:=by simpa using c1
    go_wp2_with fail
    go_ret2
    exact ⟨_,rfl,Kd.R_nil _ _ _ _ _,HB.out⟩


  cases c1;rw [if_neg (by simp)] at h2;obtain ⟨ts,hts,h3⟩:=Option.bind_eq_some_iff.1 h2;obtain ⟨q,hq,h4⟩:=Option.bind_eq_some_iff.1 h3;clear h2 h3;have HTS:=Aside0.mk hts;have HQ:=Aside0.mk hq;have HH:=Aside0.mk h4;clear hts hq h4;go_wp2_with fail
  refine (tree_Up.calls k _ _ _ _ _ _ (Kd.C_below HR.out HB.out) HC.out HTS.out).mono ?_;rintro e w7 ⟨vt,rfl,hot,hb⟩;clear cgb2_0 cgb2_1;have HTO:=am_ (Kd.R_lower hot (below_size HB.out));replace HO:=am_ (Kd.R_below HO.out hb);replace BK2:=am_ (blk_below BK2.out hb);replace HB:=am_ (below_step HB.out hb);clear hb hot;obtain ⟨cgb2_0,cgb2_1⟩:=xz2_ BK2;obtain ⟨At,ct,rfl⟩: ∃At ct,vt= .slice At ts.length ct:=Kd.R_slice HTO.out;go_wp2_with fail
  refine (shape_change_parent.calls _ _ _ _ _ _ _ (Kd.R_reads' HO.out).2.2 (Kd.R_reads' HO.out).2.1 HQ.out).mono ?_;rintro e w8 ⟨rfl,hb⟩;clear cgb2_0 cgb2_1;replace HO:=am_ (Kd.R_below HO.out hb);replace HTO:=am_ (Kd.R_below HTO.out hb);replace BK2:=am_ (blk_below BK2.out hb);replace HB:=am_ (below_step HB.out hb);clear hb;obtain ⟨cgb2_0,cgb2_1⟩:=xz2_ BK2;have h4:=HH.out;clear HH
  cases q with
  | false =>
    rw [if_pos rfl] at h4;cases h4;go_wp2_with fail
    go_ret2
    exact ⟨_,rfl,Kd.R_nil _ _ _ _ _,HB.out⟩
  | true =>
    rw [if_neg (by simp)] at h4;obtain ⟨c,hc,h5⟩:=Option.bind_eq_some_iff.1 h4;have HCO:=Aside0.mk hc;have HH:=Aside0.mk h5;clear hc h4 h5;go_wp2_with fail
    refine (slices_Contains_string_string.calls k _ _ ts _ _ _ (Kd.R_reads' HTO.out).2.2 (Kd.R_reads' HTO.out).2.1 HCO.out).mono ?_;rintro e w9 ⟨rfl,hd⟩;have hb:=hd.below;clear cgb2_0 cgb2_1 hd;replace HO:=am_ (Kd.R_below HO.out hb);replace HTO:=am_ (Kd.R_below HTO.out hb);replace BK2:=am_ (blk_below BK2.out hb);replace HB:=am_ (below_step HB.out hb);clear hb;obtain ⟨cgb2_0,cgb2_1⟩:=xz2_ BK2;have h5:=HH.out;clear HH
    cases c with
    | true =>
      rw [if_pos rfl] at h5;cases h5;go_wp2_with fail
      go_ret2
      exact ⟨_,rfl,Kd.R_nil _ _ _ _ _,HB.out⟩
    | false =>
      rw [if_neg (by simp)] at h5;obtain ⟨⟨e1,l2⟩,hol,h6⟩:=Option.bind_eq_some_iff.1 h5;clear h5;have HOL:=Aside0.mk hol;have HH:=Aside0.mk h6;clear hol h6;go_wp2_with fail
      refine (shapeOlder_calls _ _ _ out l2 j e1 HO.out (below_size HB.out) HOL.out).mono ?_;rintro e w10 ⟨rfl,ho,ht⟩;clear cgb2_0 cgb2_1;replace HTO:=am_ (R_turned HTO.out HO.out (by decide) ht);replace BK2:=am_ (ht.block _ _ BK2.out NE2.out);replace HB:=am_ (HB.out.trans ht.below);replace HO:=am_ (ho);clear ho ht;obtain ⟨cgb2_0,cgb2_1⟩:=xz2_ BK2;have h6:=HH.out;clear HH;by_cases c2:e1=0;rotate_left
      · rw [if_pos c2] at h6
        cases h6
        have q2:(r2==0)=false:=by simpa using c2
        go_wp2_with fail
        go_ret2
        exact ⟨_,rfl,Kd.R_nil _ _ _ _ _,HB.out⟩
      cases c2;rw [if_neg (by simp)] at h6;obtain ⟨hj0,hj1⟩:=older_zero HOL.out;obtain ⟨gb,cap,hv0,hgb,hgl⟩:=sh_head HO.out (by have:=older_len HOL.out;omega);rw [older_len HOL.out] at hv0;cases hv0;have hcs:=sh_cells' HO.out (older_len HOL.out) j hj0 hj1;have HJ0:=Aside0.mk hj0;have HJ1:=Aside0.mk hj1;have HGB:=Aside0.mk hgb;have HGL:=Aside0.mk hgl;have HLEN:=am_ (older_len HOL.out);generalize hy:rd_T79 l2 j=y at hcs h6;have HY:=Aside0.mk hy;obtain ⟨fs,hfs,h7⟩:=Option.bind_eq_some_iff.1 h6;clear h6;have HFS:=Aside0.mk hfs;have HH:=Aside0.mk h7;have HCS:=Aside0.mk hcs;clear hj0 hj1 hgb hgl hy hfs h7 hcs;go_wp2_with fail
      refine (shapeItem_calls _ ⟨gb,0,none⟩ out.length c5 j HJ0.out HJ1.out).mono ?_;rintro e w11 ⟨rfl,hb⟩;clear cgb2_0 cgb2_1;have HCS1:=am_ (fun j' u hu=>(hb.cell (p:=⟨gb,j.toNat*12+j',none⟩) HGL.out).trans (HCS.out j' u hu));have HGL1:=am_ (Nat.lt_of_lt_of_le HGL.out hb.size);replace HO:=am_ (Kd.R_below HO.out hb);replace HTO:=am_ (Kd.R_below HTO.out hb);replace BK2:=am_ (blk_below BK2.out hb);replace HB:=am_ (below_step HB.out hb);clear hb HCS HGL;obtain ⟨cgb2_0,cgb2_1⟩:=xz2_ BK2;have k1:w11.cell? ⟨gb,j.toNat*12+1,none⟩=some (.string y.f1):=HCS1.out 1 _ rfl;go_wp2_with fail
      clear k1;refine (tree_Up.calls k _ _ _ _ _ _ (Kd.C_below HR.out HB.out) HC.out HFS.out).mono ?_;rintro e w12 ⟨vf,rfl,hof,hb⟩;clear cgb2_0 cgb2_1;have HFR:=am_ (Kd.R_lower hof (below_size HB.out));have HCS2:=am_ (fun j' u hu=>(hb.cell (p:=⟨gb,j.toNat*12+j',none⟩) HGL1.out).trans (HCS1.out j' u hu));have HGL2:=am_ (Nat.lt_of_lt_of_le HGL1.out hb.size);replace HO:=am_ (Kd.R_below HO.out hb);replace HTO:=am_ (Kd.R_below HTO.out hb);replace BK2:=am_ (blk_below BK2.out hb);replace HB:=am_ (below_step HB.out hb);clear hb hof HCS1 HGL1;obtain ⟨cgb2_0,cgb2_1⟩:=xz2_ BK2;obtain ⟨Af,cf,rfl⟩: ∃Af cf,vf= .slice Af fs.length cf:=Kd.R_slice HFR.out;go_wp2_with fail
      refine (shapeItem_calls _ ⟨gb,0,none⟩ out.length c5 j HJ0.out HJ1.out).mono ?_;rintro e w13 ⟨rfl,hb⟩;clear cgb2_0 cgb2_1;have HCS3:=am_ (fun j' u hu=>(hb.cell (p:=⟨gb,j.toNat*12+j',none⟩) HGL2.out).trans (HCS2.out j' u hu));have HGL3:=am_ (Nat.lt_of_lt_of_le HGL2.out hb.size);replace HO:=am_ (Kd.R_below HO.out hb);replace HTO:=am_ (Kd.R_below HTO.out hb);replace HFR:=am_ (Kd.R_below HFR.out hb);replace BK2:=am_ (blk_below BK2.out hb);replace HB:=am_ (below_step HB.out hb);clear hb HCS2 HGL2;obtain ⟨cgb2_0,cgb2_1⟩:=xz2_ BK2;have k8:w13.cell? ⟨gb,j.toNat*12+8,none⟩=some (.int .i64 y.f4.f0):=HCS3.out 8 _ rfl;have k9:w13.cell? ⟨gb,j.toNat*12+8+1,none⟩=some (.int .i64 y.f4.f1):=HCS3.out 9 _ rfl;have k10:w13.cell? ⟨gb,j.toNat*12+8+2,none⟩=some (.int .i64 y.f4.f2):=HCS3.out 10 _ rfl;generalize hsb:y.f4=sb at k8 k9 k10;have HSB:=Aside0.mk hsb;have GB2:=am_ (blk_lt BK2.out);have hm:ts.length≤9223372036854775807:=(Kd.R_reads' HTO.out).2.2.2.1;clear hsb;have GLT15:=am_ (show gb<w13.heap.size from HGL3.out)
      go_wp2_with (first|((with_reducible refine gate_dst (N:=15) rfl ?_);refine bx_ (N:=15) (cs:=#[.int .i64 0, .int .i64 0, .int .i64 0]) (t:=37) ?_;intro gb15 hg wa hbox hb;replace HO:=am_ (Kd.R_below HO.out hb);replace HTO:=am_ (Kd.R_below HTO.out hb);replace HFR:=am_ (Kd.R_below HFR.out hb);replace BK2:=am_ (blk_below BK2.out hb);have BK15:=am_ (hbox);have GE15:=am_ ((by rw [hg];exact below_size HB.out:w.heap.size≤gb15));replace HB:=am_ (below_step HB.out hb);have EQ15:=am_ (hg);clear hb hbox hg)|((with_reducible refine gate_store (t:=37) (p:=15) (v:= .tmp 56) rfl ?_);refine store_all BK15.out 37 (.tmp 15) (.tmp 56) rfl rfl rfl (.agg #[.int .i64 sb.f0, .int .i64 sb.f1, .int .i64 sb.f2]) [.int .i64 sb.f0, .int .i64 sb.f1, .int .i64 sb.f2] rfl rfl rfl (by kernel_rfl) rfl (by intro q hq;simp only [List.mem_cons,List.not_mem_nil,or_false] at hq;rcases hq with rfl|rfl|rfl<;>rfl) ?_;intro wb hbk hg;replace HO:=am_ (R_put HO.out BK15.out (by decide) hg);replace HTO:=am_ (R_put HTO.out BK15.out (by decide) hg);replace HFR:=am_ (R_put HFR.out BK15.out (by decide) hg);replace BK2:=am_ (blk_put_other BK2.out hg (by have:=blk_lt BK2.out;have:=EQ15.out;have:=GB2.out;omega));replace HB:=am_ (below_put HB.out (below_size HB.out) hg GE15.out);replace BK15:=am_ (hbk);clear hbk hg;obtain ⟨cgb15_0,cgb15_1,cgb15_2⟩:=xz3_ BK15))
      have h7:=HH.out;clear HH;rw [HSB.out] at h7;obtain ⟨bb,hfit,h8⟩:=Option.bind_eq_some_iff.1 h7;clear h7;have HFIT:=Aside0.mk hfit;have HH:=Aside0.mk h8;clear hfit h8 HCS3 HGL3 k8 k9 k10 GB2;have NE2:=am_ (show gb2≠gb from fun e=>NE2.out (by rw [e];rfl));have NE15:=am_ (show gb15≠gb from fun e=>by have:=GLT15.out;have:=EQ15.out;omega);go_loopg [17,18,59] ts.length (fun kq s17 s18 s59 wr=> ∃i:Nat,i≤ts.length∧ts.length - i≤kq∧s59= .int .i64 i∧Aside0 (fitsF k l0 fs sb (ts.drop i)=some bb)∧Aside0 (Below w.heap.size w wr)∧Aside0 (wr.heap[gb2]?=some (.cells #[.slice (some ⟨gb,0,none⟩) out.length c5, .int .i64 j] 197 (0,0)))∧Aside0 (wr.heap[gb15]?=some (.cells #[.int .i64 sb.f0, .int .i64 sb.f1, .int .i64 sb.f2] 37 (0,0)))∧Aside0 (Kd.R k79 79 wr w.heap.size (fun _=>True) (.slice (some ⟨gb,0,none⟩) out.length c5) l2)∧Aside0 (Kd.R Kd.string 9 wr w.heap.size (fun _=>True) (.slice At ts.length ct) ts)∧Aside0 (Kd.R Kd.string 9 wr w.heap.size (fun _=>True) (.slice Af fs.length cf) fs))
      case atStart=>exact ⟨0,by omega,by omega,rfl,HFIT,HB,BK2,BK15,HO,HTO,HFR⟩
      case round=>
        clear HFIT HB BK2 BK15 HO HTO HFR cgb2_0 cgb2_1 cgb15_0 cgb15_1 cgb15_2;obtain ⟨i,hi,hg,rfl,HFIT,HB,BK2,BK15,HO,HTO,HFR⟩:=hrel;by_cases hlt:i<ts.length;rotate_left
        · obtain rfl : i = ts.length := by omega
          have hf:=HFIT.out
          rw [List.drop_length] at hf
          cases hf
          have h8:=HH.out
          clear HH HFIT
          rw [if_neg (by simp)] at h8
          obtain ⟨l3,hs3,h9⟩:=Option.bind_eq_some_iff.1 h8
          obtain ⟨l4,hs4,h10⟩:=Option.bind_eq_some_iff.1 h9
          cases h10
          have HS3:=Aside0.mk hs3
          have HS4:=Aside0.mk hs4
          obtain ⟨cgb2_0,cgb2_1⟩:=xz2_ BK2
          clear h8 h9 hs3 hs4
          go_wp2_with fail
          refine (shapeShift_calls 162 #[.pointer (some ⟨gb15,0,none⟩)] (mvSub sb) gb15 _ w.heap.size w.heap.size _ l2 l3 j Af cf fs _ (enters_of Try.func162 (by kernel_rfl) rfl) HO.out (below_size HB.out) BK15.out (fun e=>NE15.out (Option.some.inj e)) HFR.out (fun W' u hb=>shMove1_calls W' gb15 sb u hb) HS3.out).mono ?_
          rintro e ws1 ⟨rfl,ho,ht⟩
          clear cgb2_0 cgb2_1
          replace HTO:=am_ (R_turned HTO.out HO.out (by decide) ht);replace BK2:=am_ (ht.block _ _ BK2.out (fun e=>NE2.out (Option.some.inj e)));replace BK15:=am_ (ht.block _ _ BK15.out (fun e=>NE15.out (Option.some.inj e)));replace HB:=am_ (HB.out.trans ht.below);replace HO:=am_ (ho)
          clear ho ht HFR
          obtain ⟨cgb2_0,cgb2_1⟩:=xz2_ BK2
          go_wp2_with fail
          refine (shapeShift_calls 164 #[.pointer (some ⟨gb15,0,none⟩)] (mvAdd sb) gb15 _ w.heap.size w.heap.size _ l3 l4 j At ct ts _ (enters_of Try.func164 (by kernel_rfl) rfl) HO.out (below_size HB.out) BK15.out (fun e=>NE15.out (Option.some.inj e)) HTO.out (fun W' u hb=>shMove2_calls W' gb15 sb u hb) HS4.out).mono ?_
          rintro e ws2 ⟨rfl,ho,ht⟩
          clear cgb2_0 cgb2_1
          replace BK2:=am_ (ht.block _ _ BK2.out (fun e=>NE2.out (Option.some.inj e)));replace HB:=am_ (HB.out.trans ht.below);replace HO:=am_ (ho)
          clear ho ht HTO BK15
          obtain ⟨cgb2_0,cgb2_1⟩:=xz2_ BK2
          have hl4:l4.length=out.length:=by rw [shiftF_len _ _ _ _ HS4.out,shiftF_len _ _ _ _ HS3.out,HLEN.out]
          have hcs:=sh_cells' HO.out hl4 j HJ0.out HJ1.out
          generalize hyy:rd_T79 l4 j=yy at hcs
          have HYY:=Aside0.mk hyy
          have HCS:=Aside0.mk hcs
          have HGL:=am_ (show gb<ws2.heap.size from Kd.R_lt HO.out gb rfl)
          have HL4:=Aside0.mk hl4
          clear hcs hl4 hyy
          go_wp2_with fail
          refine (shapeItem_calls _ ⟨gb,0,none⟩ out.length c5 j HJ0.out HJ1.out).mono ?_
          rintro e ws3 ⟨rfl,hb⟩
          clear cgb2_0 cgb2_1
          have HCS1:=am_ (fun j' u hu=>(hb.cell (p:=⟨gb,j.toNat*12+j',none⟩) HGL.out).trans (HCS.out j' u hu))
          replace HO:=am_ (Kd.R_below HO.out hb);replace BK2:=am_ (blk_below BK2.out hb);replace HB:=am_ (below_step HB.out hb)
          clear hb HCS HGL
          obtain ⟨cgb2_0,cgb2_1⟩:=xz2_ BK2
          go_wp2_with ((with_reducible refine gate_store (t:=9) (p:=97) (v:= .tmp 95) rfl ?_);refine Kd.R_store k79 (w0:=ws3) w.heap.size rfl rfl 9 (.tmp 97) (.tmp 95) rfl 79 (g:=gb) (n:=out.length) (cap:=c5) (o':=j.toNat*12+1) j 1 l4 (parF a2 yy) (.string a2) [.string a2] (shCells yy) (fun _=>True) (fun _=>False) rfl rfl rfl rfl ?ct ?c1 HO.out ?c2 ?c3 rfl HCS1.out (by show 1+1≤12;omega) ?cM (fun _ h=>h.elim) (Below.refl _ _) ?_;(case ct=>kernel_rfl);(case c1=>intro q hq;simp only [List.mem_cons,List.not_mem_nil,or_false] at hq;rcases hq with rfl;rfl);(case c2=>exact HJ0.out);(case c3=>exact HJ1.out);(case cM=>exact k79_mkM _ _ _ (parF a2 yy));intro ws4 ho hb hg;have HO9:=Aside0.mk ho;have HB9:=am_ (below_put HB.out (below_size HB.out) hg HGB.out);have BK9:=am_ (blk_put_other BK2.out hg NE2.out);clear cgb2_0 cgb2_1;obtain ⟨cgb2_0,cgb2_1⟩:=xz2_ BK9;clear ho hb hg)
          go_ret2
          refine ⟨_,rfl, ?_,HB9.out⟩
          show Kd.R k79 79 _ _ _ _ (l4.set j.toNat (parF a2 (rd_T79 l4 j)))
          rw [HYY.out]
          exact HO9.out
        have hltz:(i:Int)<(ts.length:Int):=by omega
        have hdr:ts.drop i=ts[i]::ts.drop (i+1):=List.drop_eq_getElem_cons hlt;have hst:rdOf ByteArray.empty ts (i:Int)=ts[i]:=by simp [rdOf,hlt]
        have hf:=HFIT.out;rw [hdr,←hst] at hf;unfold fitsF at hf;obtain ⟨jx,hjx,hf2⟩:=Option.bind_eq_some_iff.1 hf
        split at hf2
        case isFalse=>cases hf2
        case isTrue hjb=>
        obtain ⟨c,hcn,hf3⟩:=Option.bind_eq_some_iff.1 hf2;obtain ⟨ad,e1,h0⟩:=at_str (Kd.R_reads' HTO.out).2.2 (i:Int) (by omega) (by omega);cases e1;simp only [Int.toNat_natCast] at h0;have HJX:=Aside0.mk hjx;have HCN:=Aside0.mk hcn;have HF3:=Aside0.mk hf3;have HX0:=Aside0.mk hjb.1;have HX1:=Aside0.mk hjb.2;clear hdr hst hf hf2 hf3 hjx hcn HFIT hjb;go_wp2_with fail
        refine (tree_Find.calls _ _ l0 _ jx _ (Kd.C_below HR.out HB.out) HC.out HJX.out).mono ?_;rintro e wa1 ⟨rfl,hb⟩;clear h0;replace HO:=am_ (Kd.R_below HO.out hb);replace HTO:=am_ (Kd.R_below HTO.out hb);replace HFR:=am_ (Kd.R_below HFR.out hb);replace BK2:=am_ (blk_below BK2.out hb);replace BK15:=am_ (blk_below BK15.out hb);replace HB:=am_ (below_step HB.out hb);clear hb;obtain ⟨adx,e1,k0,k1,k2,k3,k4,k5,k6,k7,k8,k9,k10,k11⟩:=at_T79 (Kd.C_below HR.out HB.out) jx HX0.out HX1.out;cases e1;have q0:(0≤jx)=True:=eq_true HX0.out;have q1:(jx<(l0.length:Int))=True:=eq_true HX1.out;have hf3:=HF3.out;clear HF3;generalize hx:rd_T79 l0 jx=x at k0 k1 k2 k3 k4 k5 k6 k7 k8 k9 k10 k11 hf3;have HF3:=Aside0.mk hf3;have LT2:=am_ (blk_lt BK2.out);have LT15:=am_ (blk_lt BK15.out);clear hx hf3;have HO1:=am_ (Kd.R_mono (ok':=fun k_=>k_<wa1.heap.size) (Kd.R_bound HO.out) (fun _ hk=>hk.2.2.1));clear HO;have HO:=HO1;clear HO1
        go_wp2_with (first|((with_reducible refine gate_dst (N:=18) rfl ?_);refine bx_ (N:=18) (cs:=#[.string ⟨#[]⟩, .string ⟨#[]⟩, .int .i64 0, .int .i64 0, .int .i64 0, .int .i64 0, .int .i64 0, .int .i64 0, .int .i64 0, .int .i64 0, .int .i64 0, .int .i64 0]) (t:=79) ?_;intro gb18 hg we hbox hb;replace HO:=am_ (Kd.R_below HO.out hb);replace HTO:=am_ (Kd.R_below HTO.out hb);replace HFR:=am_ (Kd.R_below HFR.out hb);replace BK2:=am_ (blk_below BK2.out hb);replace BK15:=am_ (blk_below BK15.out hb);have BK18:=am_ (hbox);have GE18:=am_ ((by rw [hg];exact below_size HB.out:w.heap.size≤gb18));replace HB:=am_ (below_step HB.out hb);have EQ18:=am_ (hg);clear hb hbox hg)|((with_reducible refine gate_store (t:=79) (p:=18) (v:= .tmp 68) rfl ?_);refine store_all BK18.out 79 (.tmp 18) (.tmp 68) rfl rfl rfl (.agg #[.string x.f0, .string x.f1, .int .i64 x.f2.f0, .int .i64 x.f2.f1, .int .i64 x.f2.f2, .int .i64 x.f3.f0, .int .i64 x.f3.f1, .int .i64 x.f3.f2, .int .i64 x.f4.f0, .int .i64 x.f4.f1, .int .i64 x.f4.f2, .int .i64 x.f5]) [.string x.f0, .string x.f1, .int .i64 x.f2.f0, .int .i64 x.f2.f1, .int .i64 x.f2.f2, .int .i64 x.f3.f0, .int .i64 x.f3.f1, .int .i64 x.f3.f2, .int .i64 x.f4.f0, .int .i64 x.f4.f1, .int .i64 x.f4.f2, .int .i64 x.f5] rfl rfl rfl (by kernel_rfl) rfl (by intro q hq;simp only [List.mem_cons,List.not_mem_nil,or_false] at hq;rcases hq with rfl|rfl|rfl|rfl|rfl|rfl|rfl|rfl|rfl|rfl|rfl|rfl<;>rfl) ?_;intro wf hbk hg;replace HTO:=am_ (R_put HTO.out BK18.out (by decide) hg);replace HFR:=am_ (R_put HFR.out BK18.out (by decide) hg);replace BK2:=am_ (blk_put_other BK2.out hg (by have:=EQ18.out;have:=LT2.out;omega));replace BK15:=am_ (blk_put_other BK15.out hg (by have:=EQ18.out;have:=LT15.out;omega));replace HB:=am_ (below_put HB.out (below_size HB.out) hg GE18.out);replace HO:=am_ (Kd.R_mono (Kd.R_grown HO.out hg (fun k_ hk e=>by have:=EQ18.out;have:=Option.some.inj e;have:k_<wa1.heap.size:=hk;omega)) (fun _ _=>trivial));replace BK18:=am_ (hbk);clear hbk hg;obtain ⟨_,_,cgb18_2,cgb18_3,cgb18_4,_,_,_,cgb18_8,cgb18_9,cgb18_10,_⟩:=xz12_ BK18))
        clear k0 k1 k2 k3 k4 k5 k6 k7 k8 k9 k10 k11;obtain ⟨cgb15_0,cgb15_1,cgb15_2⟩:=xz3_ BK15;have hf3:=HF3.out;clear HF3
        cases c with
        | true =>
          rw [if_pos rfl] at hf3;have HF4:=Aside0.mk hf3;clear hf3;refine start_ (n:=15) (S:=fun w'=>w'.cell? ⟨gb18,2,none⟩=some (.int .i64 x.f2.f0)∧w'.cell? ⟨gb18,3,none⟩=some (.int .i64 x.f2.f1)∧w'.cell? ⟨gb18,4,none⟩=some (.int .i64 x.f2.f2)∧w'.cell? ⟨gb18,8,none⟩=some (.int .i64 x.f4.f0)∧w'.cell? ⟨gb18,9,none⟩=some (.int .i64 x.f4.f1)∧w'.cell? ⟨gb18,10,none⟩=some (.int .i64 x.f4.f2)∧w'.cell? ⟨gb15,0,none⟩=some (.int .i64 sb.f0)∧w'.cell? ⟨gb15,1,none⟩=some (.int .i64 sb.f1)∧w'.cell? ⟨gb15,2,none⟩=some (.int .i64 sb.f2)∧Below wf.heap.size wf w') (ds:=[]) (bt_ 15 0) (by kernel_rfl) rfl rfl ⟨cgb18_2,cgb18_3,cgb18_4,cgb18_8,cgb18_9,cgb18_10,cgb15_0,cgb15_1,cgb15_2,below_drew (Below.refl _ _)⟩ (fun hHeld=> ?_);refine pv_ (i:=0) (N:=some 69) (bt_ 15 1) ?_;refine pv_ (i:=1) (N:=some 70) (bt_ 15 3) ?_;refine one_ (i:=2) (N:=some 71) (bt_ 15 7) rfl rfl (by kernel_rfl) (by decide) (fun K hK=> ?_);refine goes_ Try.func160 (by kernel_rfl) rfl #[.slice Af fs.length cf, .string (rdOf ByteArray.empty ts i)] (by rfl) rfl rfl (by (try simp only [List.map_toArray,List.map_cons,List.map_nil]);rfl) ?_;refine (slices_Contains_string_string.calls k _ _ fs _ _ _ (Kd.R_reads' (Kd.R_below HFR.out (hHeld.2.2.2.2.2.2.2.2.2))).2.2 (Kd.R_reads' HFR.out).2.1 HCN.out).mono ?_;rintro e wd ⟨rfl,hd⟩;have hb:=hd.below;refine ⟨_,rfl, ?_⟩
          refine hK.out _ _ ⟨zh_ hb hHeld.1,zh_ hb hHeld.2.1,zh_ hb hHeld.2.2.1,zh_ hb hHeld.2.2.2.1,zh_ hb hHeld.2.2.2.2.1,zh_ hb hHeld.2.2.2.2.2.1,zh_ hb hHeld.2.2.2.2.2.2.1,zh_ hb hHeld.2.2.2.2.2.2.2.1,zh_ hb hHeld.2.2.2.2.2.2.2.2.1,below_step hHeld.2.2.2.2.2.2.2.2.2 hb⟩ (fun hHeld=> ?_);clear hK K hb hd;refine norm_ (a':= ?_) ?_ ?_;rotate_left
          · show Act.put _ (some 71) _ = _
            simp only [Act.put,List.setIfInBounds_toArray,List.set_cons_zero,List.set_cons_succ,i64_w,i32_w]
            rfl
          refine pv_ (i:=3) (N:=some 72) (bt_ 15 15) ?_;refine pv_ (i:=4) (N:=some 73) (bt_ 15 31) ?_;refine take_ (i:=5) (N:=some 74) (v:=undef) (a':= ?_) (bt_ 15 63) rfl rfl (by kernel_rfl) (fun _ _ _ h=>h) (Or.inr ⟨by rfl,rfl⟩) hHeld ?_ ?_;rotate_left;(simp only [Act.put,List.setIfInBounds_toArray,List.set_cons_zero,List.set_cons_succ,i64_w,i32_w];rfl);refine take_ (i:=6) (N:=some 75) (v:=undef) (a':= ?_) (bt_ 15 127) rfl rfl (by kernel_rfl) (fun _ _ _ h=>h) (Or.inr ⟨by rfl,rfl⟩) hHeld ?_ ?_;rotate_left;(simp only [Act.put,List.setIfInBounds_toArray,List.set_cons_zero,List.set_cons_succ,i64_w,i32_w];rfl);refine take_ (i:=7) (N:=some 76) (v:=undef) (a':= ?_) (bt_ 15 255) rfl rfl (by kernel_rfl) (fun _ _ _ h=>h) (Or.inr ⟨by rfl,rfl⟩) hHeld ?_ ?_;rotate_left;(simp only [Act.put,List.setIfInBounds_toArray,List.set_cons_zero,List.set_cons_succ,i64_w,i32_w];rfl);refine take_ (i:=8) (N:=some 77) (v:=undef) (a':= ?_) (bt_ 15 511) rfl rfl (by kernel_rfl) (fun _ _ _ h=>h) (Or.inr ⟨by rfl,rfl⟩) hHeld ?_ ?_;rotate_left;(simp only [Act.put,List.setIfInBounds_toArray,List.set_cons_zero,List.set_cons_succ,i64_w,i32_w];rfl);refine take_ (i:=9) (N:=some 78) (v:=undef) (a':= ?_) (bt_ 15 1023) rfl rfl (by kernel_rfl) (fun _ _ _ h=>h) (Or.inr ⟨by rfl,rfl⟩) hHeld ?_ ?_;rotate_left;(simp only [Act.put,List.setIfInBounds_toArray,List.set_cons_zero,List.set_cons_succ,i64_w,i32_w];rfl)
          refine take_ (i:=10) (N:=some 79) (v:=undef) (a':= ?_) (bt_ 15 2047) rfl rfl (by kernel_rfl) (fun _ _ _ h=>h) (Or.inr ⟨by rfl,rfl⟩) hHeld ?_ ?_;rotate_left;(simp only [Act.put,List.setIfInBounds_toArray,List.set_cons_zero,List.set_cons_succ,i64_w,i32_w];rfl);refine take_ (i:=11) (N:=some 80) (v:=undef) (a':= ?_) (bt_ 15 4095) rfl rfl (by kernel_rfl) (fun _ _ _ h=>h) (Or.inr ⟨by rfl,rfl⟩) hHeld ?_ ?_;rotate_left;(simp only [Act.put,List.setIfInBounds_toArray,List.set_cons_zero,List.set_cons_succ,i64_w,i32_w];rfl);refine take_ (i:=12) (N:=some 81) (v:=undef) (a':= ?_) (bt_ 15 8191) rfl rfl (by kernel_rfl) (fun _ _ _ h=>h) (Or.inr ⟨by rfl,rfl⟩) hHeld ?_ ?_;rotate_left;(simp only [Act.put,List.setIfInBounds_toArray,List.set_cons_zero,List.set_cons_succ,i64_w,i32_w];rfl);refine take_ (i:=13) (N:=some 82) (v:=undef) (a':= ?_) (bt_ 15 16383) rfl rfl (by kernel_rfl) (fun _ _ _ h=>h) (Or.inr ⟨by rfl,rfl⟩) hHeld ?_ ?_;rotate_left;(simp only [Act.put,List.setIfInBounds_toArray,List.set_cons_zero,List.set_cons_succ,i64_w,i32_w];rfl);refine pv_ (i:=14) (N:=some 83) (bt_ 15 32767) ?_;refine done_ (by kernel_rfl) ?_;have hBz:Below wf.heap.size wf wd:=hHeld.2.2.2.2.2.2.2.2.2;clear hHeld;replace HO:=am_ (Kd.R_below HO.out hBz);replace HTO:=am_ (Kd.R_below HTO.out hBz);replace HFR:=am_ (Kd.R_below HFR.out hBz);replace BK2:=am_ (blk_below BK2.out hBz);replace BK15:=am_ (blk_below BK15.out hBz);replace HB:=am_ (below_step HB.out hBz);clear hBz;go_wp2_with fail
          go_roundg (ts.length - (i+1))
          case measure=>omega
          case rel=>exact ⟨i+1,by omega,by omega,by go_num,HF4,HB,BK2,BK15,HO,HTO,HFR⟩
        | false =>
          rw [if_neg (by simp)] at hf3;obtain ⟨b,hle,hf4⟩:=Option.bind_eq_some_iff.1 hf3;obtain ⟨⟨q1,q2,q3⟩,hqv⟩: ∃q:Int×Int×Int,vec_Add.f [x.f4,sb]=some q:=⟨_,rfl⟩;rw [show mvAdd sb x.f4=⟨q1,q2,q3⟩ from by unfold mvAdd;rw [hqv];rfl] at hle;have HQV:=Aside0.mk hqv;have HLE:=Aside0.mk hle;have HF4:=Aside0.mk hf4;clear hf3 hle hf4 hqv;refine start_ (n:=15) (S:=fun w'=>w'.cell? ⟨gb18,2,none⟩=some (.int .i64 x.f2.f0)∧w'.cell? ⟨gb18,3,none⟩=some (.int .i64 x.f2.f1)∧w'.cell? ⟨gb18,4,none⟩=some (.int .i64 x.f2.f2)∧w'.cell? ⟨gb18,8,none⟩=some (.int .i64 x.f4.f0)∧w'.cell? ⟨gb18,9,none⟩=some (.int .i64 x.f4.f1)∧w'.cell? ⟨gb18,10,none⟩=some (.int .i64 x.f4.f2)∧w'.cell? ⟨gb15,0,none⟩=some (.int .i64 sb.f0)∧w'.cell? ⟨gb15,1,none⟩=some (.int .i64 sb.f1)∧w'.cell? ⟨gb15,2,none⟩=some (.int .i64 sb.f2)∧Below wf.heap.size wf w') (ds:=[]) (bt_ 15 0) (by kernel_rfl) rfl rfl ⟨cgb18_2,cgb18_3,cgb18_4,cgb18_8,cgb18_9,cgb18_10,cgb15_0,cgb15_1,cgb15_2,below_drew (Below.refl _ _)⟩ (fun hHeld=> ?_);refine pv_ (i:=0) (N:=some 69) (bt_ 15 1) ?_;refine pv_ (i:=1) (N:=some 70) (bt_ 15 3) ?_;refine one_ (i:=2) (N:=some 71) (bt_ 15 7) rfl rfl (by kernel_rfl) (by decide) (fun K hK=> ?_);refine goes_ Try.func160 (by kernel_rfl) rfl #[.slice Af fs.length cf, .string (rdOf ByteArray.empty ts i)] (by rfl) rfl rfl (by (try simp only [List.map_toArray,List.map_cons,List.map_nil]);rfl) ?_
          refine (slices_Contains_string_string.calls k _ _ fs _ _ _ (Kd.R_reads' (Kd.R_below HFR.out (hHeld.2.2.2.2.2.2.2.2.2))).2.2 (Kd.R_reads' HFR.out).2.1 HCN.out).mono ?_;rintro e wd ⟨rfl,hd⟩;have hb:=hd.below;refine ⟨_,rfl, ?_⟩;refine hK.out _ _ ⟨zh_ hb hHeld.1,zh_ hb hHeld.2.1,zh_ hb hHeld.2.2.1,zh_ hb hHeld.2.2.2.1,zh_ hb hHeld.2.2.2.2.1,zh_ hb hHeld.2.2.2.2.2.1,zh_ hb hHeld.2.2.2.2.2.2.1,zh_ hb hHeld.2.2.2.2.2.2.2.1,zh_ hb hHeld.2.2.2.2.2.2.2.2.1,below_step hHeld.2.2.2.2.2.2.2.2.2 hb⟩ (fun hHeld=> ?_);clear hK K hb hd;refine norm_ (a':= ?_) ?_ ?_;rotate_left
          · show Act.put _ (some 71) _ = _
            simp only [Act.put,List.setIfInBounds_toArray,List.set_cons_zero,List.set_cons_succ,i64_w,i32_w]
            rfl
          refine pv_ (i:=3) (N:=some 72) (bt_ 15 15) ?_;refine pv_ (i:=4) (N:=some 73) (bt_ 15 31) ?_;refine pv_ (i:=5) (N:=some 74) (bt_ 15 63) ?_;refine tv_ (i:=6) (N:=some 75) (bt_ 15 127) hHeld ?_;refine tv_ (i:=7) (N:=some 76) (bt_ 15 255) hHeld ?_;refine pv_ (i:=10) (N:=some 79) (bt_ 15 1279) ?_;refine tv_ (i:=11) (N:=some 80) (bt_ 15 3327) hHeld ?_;refine one_ (i:=8) (N:=some 77) (bt_ 15 3583) rfl rfl (by kernel_rfl) (by decide) (fun K hK=> ?_);obtain ⟨wz,hwz⟩: ∃wz,wz=wd.alloc (.cells #[.int .i64 x.f4.f0, .int .i64 x.f4.f1, .int .i64 x.f4.f2, .int .i64 sb.f0, .int .i64 sb.f1, .int .i64 sb.f2] 37):=⟨_,rfl⟩;refine value_ (v:= .slice (some ⟨wd.heap.size,0,none⟩) 2 2) (w1:=wz) (by rfl) rfl (by rw [hwz];first|(go_simp;done)|(go_simp;rfl)) ?_;have hb:Below wd.heap.size wd wz:=by rw [hwz];exact below_alloc (Below.refl _ _) _
          have BKV:=am_ (show wz.heap[wd.heap.size]?=some (.cells #[.int .i64 x.f4.f0, .int .i64 x.f4.f1, .int .i64 x.f4.f2, .int .i64 sb.f0, .int .i64 sb.f1, .int .i64 sb.f2] 37 (0,0)) from by rw [hwz];exact blk_new _ _);clear hwz;refine hK.out _ _ ⟨zh_ hb hHeld.1,zh_ hb hHeld.2.1,zh_ hb hHeld.2.2.1,zh_ hb hHeld.2.2.2.1,zh_ hb hHeld.2.2.2.2.1,zh_ hb hHeld.2.2.2.2.2.1,zh_ hb hHeld.2.2.2.2.2.2.1,zh_ hb hHeld.2.2.2.2.2.2.2.1,zh_ hb hHeld.2.2.2.2.2.2.2.2.1,below_step hHeld.2.2.2.2.2.2.2.2.2 hb⟩ (fun hHeld=> ?_);clear hK K hb;refine norm_ (a':= ?_) ?_ ?_;rotate_left
          · show Act.put _ (some 77) _ = _
            simp only [Act.put,List.setIfInBounds_toArray,List.set_cons_zero,List.set_cons_succ,i64_w,i32_w]
            rfl
          refine one_ (i:=9) (N:=some 78) (bt_ 15 4095) rfl rfl (by kernel_rfl) (by decide) (fun K hK=> ?_);refine goes_ Try.func115 (by kernel_rfl) rfl #[.slice (some ⟨wd.heap.size,0,none⟩) 2 2] (by rfl) rfl rfl (by (try simp only [List.map_toArray,List.map_cons,List.map_nil]);rfl) ?_;refine (vec_Add.calls (some ⟨_,0,none⟩) 2 [x.f4,sb] q1 q2 q3 _ (vec_two_row x.f4 sb BKV.out) (Nat.le_refl _) HQV.out).mono ?_;rintro e wy ⟨rfl,hb⟩;refine ⟨_,rfl, ?_⟩;refine hK.out _ _ ⟨zh_ hb hHeld.1,zh_ hb hHeld.2.1,zh_ hb hHeld.2.2.1,zh_ hb hHeld.2.2.2.1,zh_ hb hHeld.2.2.2.2.1,zh_ hb hHeld.2.2.2.2.2.1,zh_ hb hHeld.2.2.2.2.2.2.1,zh_ hb hHeld.2.2.2.2.2.2.2.1,zh_ hb hHeld.2.2.2.2.2.2.2.2.1,below_step hHeld.2.2.2.2.2.2.2.2.2 hb⟩ (fun hHeld=> ?_);clear hK K hb BKV;refine norm_ (a':= ?_) ?_ ?_;rotate_left
          · show Act.put _ (some 78) _ = _
            simp only [Act.put,List.setIfInBounds_toArray,List.set_cons_zero,List.set_cons_succ,i64_w,i32_w]
            rfl
          refine one_ (i:=12) (N:=some 81) (bt_ 15 8191) rfl rfl (by kernel_rfl) (by decide) (fun K hK=> ?_);refine goes_ Try.func114 (by kernel_rfl) rfl #[.agg #[.int .i64 q1, .int .i64 q2, .int .i64 q3], .agg #[.int .i64 x.f2.f0, .int .i64 x.f2.f1, .int .i64 x.f2.f2]] (by rfl) rfl rfl (by (try simp only [List.map_toArray,List.map_cons,List.map_nil]);rfl) ?_;refine (vec_Le.calls _ _ _ _ _ _ _ _ HLE.out).mono ?_;rintro e wx ⟨rfl,hb⟩;refine ⟨_,rfl, ?_⟩;refine hK.out _ _ ⟨zh_ hb hHeld.1,zh_ hb hHeld.2.1,zh_ hb hHeld.2.2.1,zh_ hb hHeld.2.2.2.1,zh_ hb hHeld.2.2.2.2.1,zh_ hb hHeld.2.2.2.2.2.1,zh_ hb hHeld.2.2.2.2.2.2.1,zh_ hb hHeld.2.2.2.2.2.2.2.1,zh_ hb hHeld.2.2.2.2.2.2.2.2.1,below_step hHeld.2.2.2.2.2.2.2.2.2 hb⟩ (fun hHeld=> ?_);clear hK K hb;refine norm_ (a':= ?_) ?_ ?_;rotate_left
          · show Act.put _ (some 81) _ = _
            simp only [Act.put,List.setIfInBounds_toArray,List.set_cons_zero,List.set_cons_succ,i64_w,i32_w]
            rfl
          refine pv_ (i:=13) (N:=some 82) (bt_ 15 16383) ?_;refine pv_ (i:=14) (N:=some 83) (bt_ 15 32767) ?_;refine done_ (by kernel_rfl) ?_;have hBz:Below wf.heap.size wf wx:=hHeld.2.2.2.2.2.2.2.2.2;clear hHeld;replace HO:=am_ (Kd.R_below HO.out hBz);replace HTO:=am_ (Kd.R_below HTO.out hBz);replace HFR:=am_ (Kd.R_below HFR.out hBz);replace BK2:=am_ (blk_below BK2.out hBz);replace BK15:=am_ (blk_below BK15.out hBz);replace HB:=am_ (below_step HB.out hBz);clear hBz;have hf4:=HF4.out;clear HF4
          cases b with
          | true =>
            rw [if_pos rfl] at hf4;have HF4:=Aside0.mk hf4;clear hf4;go_wp2_with fail
            go_roundg (ts.length - (i+1))
            case measure=>omega
            case rel=>exact ⟨i+1,by omega,by omega,by go_num,HF4,HB,BK2,BK15,HO,HTO,HFR⟩
          | false =>
            rw [if_neg (by simp)] at hf4;cases hf4;have h8:=HH.out;rw [if_pos rfl] at h8;cases h8;go_wp2_with fail
            go_ret2
            exact ⟨_,rfl,Kd.R_nil _ _ _ _ _,HB.out⟩
def tree_Below.l0:Nat→ByteArray→List ByteArray→List (S79)→Int→Int→Option (List ByteArray)
 |0,_,_,_,_,_=>none
 |k+1,x1,x5,x8,x9,x10=>if x10<x9 then (if 0≤x10 then (if x10<(x8.length:Int) then (if ((rd_T79 x8 x10).f1).toList=x1.toList then (if x5.length<8796093022208 then (tree_Below.l0 k x1 (x5++ [(rd_T79 x8 x10).f0]) x8 x9 (wrap64 (x10+1))) else (none)) else (tree_Below.l0 k x1 x5 x8 x9 (wrap64 (x10+1)))) else (none)) else (none)) else (some x5)
def tree_Below.f (k:Nat) (l0:List (S79)) (a1:ByteArray):Option (List ByteArray):=tree_Below.l0 k a1 ([]:List ByteArray) l0 (l0.length:Int) 0
theorem tree_Below.mono_l: ∀k,(∀y0 y1 y2 y3 y4,LeO (tree_Below.l0 k y0 y1 y2 y3 y4) (tree_Below.l0 (k+1) y0 y1 y2 y3 y4))
 |0=>fun _ _ _ _ _ r h=>by simp [tree_Below.l0] at h
 |k+1=>by
  have ih0:=tree_Below.mono_l k;intro y0 y1 y2 y3 y4;unfold tree_Below.l0
  repeat' with_reducible first|apply ih0|apply LeO.refl|apply LeO.none|apply LeO.ite|refine LeO.bind ?_ fun _=> ?_
theorem tree_Below.mono: ∀a0 a1 k,LeO (tree_Below.f k a0 a1) (tree_Below.f (k+1) a0 a1):=by
 intro a0 a1 k;have ih0:=tree_Below.mono_l k;unfold tree_Below.f
 repeat' with_reducible first|apply ih0|apply LeO.refl|apply LeO.none|apply LeO.ite|refine LeO.bind ?_ fun _=> ?_
set_option maxHeartbeats 8000000 in
set_option maxRecDepth 100000 in
theorem tree_Below.calls (k:Nat) (A0:Option Addr) (c0:Nat) (l0:List (S79)) (a1:ByteArray) (r:List ByteArray) (w:World) (hr0:Kd.C k79 w A0 l0.length l0) (hc0:l0.length≤c0) (h:tree_Below.f k l0 a1=some r):
  Calls Try.prog 165 #[.slice A0 l0.length c0, .string a1] w fun e w'=> ∃v0_:Value,e= .returned (v0_)∧Kd.R Kd.string 9 w' w.heap.size (fun _=>True) v0_ r∧Below w.heap.size w w':=by
 have hu79:=Try.underlying79;have HR0:=Aside0.mk hr0;have HC0:=Aside0.mk hc0;clear hr0 hc0;have HB:=am_ (Below.refl w.heap.size w);have H:(tree_Below.l0 k a1 ([]:List ByteArray) l0 (l0.length:Int) 0)=some r:=h;clear h;have H':=Aside0.mk H;clear H;go_enter Try.func165,Try.ntmps165;go_wp2
 go_loopg [5,10] k (fun kq v5 v10 w'=> ∃(x5_1:List ByteArray) (x10_1:Int),v10= .int .i64 x10_1∧Aside0 (tree_Below.l0 kq a1 x5_1 l0 (l0.length:Int) x10_1=some r)∧Aside0 (kq≤k)∧Aside0 (Kd.R Kd.string 9 w' w.heap.size (fun _=>True) v5 x5_1)∧Aside0 (Below w.heap.size w w'))
 case atStart=>exact ⟨(([]:List ByteArray)),(0),rf_,H',⟨Nat.le_refl _⟩,⟨by first|exact Kd.R_nil _ _ _ _ _|exact Kd.N_nil _ _ _ _ _|exact Kd.V_nil _ _ _ _ _|exact Kd.Q_nil _ _ _ _ _|exact Kd.S_nil _ _ _ _ _⟩,⟨zl0_ HB⟩⟩
 case round=>
  clear H';obtain ⟨x5_1,x10_1,rfl,HA,HK1,HO_5,HB⟩:=hrel
  cases gk with
  |zero=>exact absurd HA.out (by simp [tree_Below.l0])
  |succ k1=>
   have H:=HA.out;clear HA;simp only [tree_Below.l0] at H;by_cases c3:x10_1<(l0.length:Int);rotate_left
   ·rw [if_neg c3] at H;have c3b0:=decide_eq_false c3;clear c3;obtain rfl:=Option.some.inj H;go_wp2
    go_ret
    exact ⟨_,er_,zr_ HO_5,zl0_ HB⟩

   rw [if_pos c3] at H;have c3b0:=decide_eq_true c3;clear c3;replace H:=zif_ H;obtain ⟨c4,H⟩:=H;replace c4:=decide_eq_true c4;replace H:=zif_ H;obtain ⟨c5,H⟩:=H;replace c5:=decide_eq_true c5;by_cases c6:((rd_T79 l0 x10_1).f1).toList=a1.toList;rw [if_pos c6] at H;have c6b0:=beq_iff_eq.mpr c6;have c6b1:=bne_eq_false_iff_eq.mpr c6;clear c6;replace H:=zif_ H;obtain ⟨c7,H⟩:=H;have LMc7:=Aside0.mk c7;clear c7;obtain ⟨y3,hy3⟩: ∃y_:List ByteArray,y_=(x5_1++ [(rd_T79 l0 x10_1).f0]):=⟨_,rfl⟩;(first|replace H:=zsb_ hy3 H|rw [←hy3] at H);have Ny3:=Aside0.mk hy3;clear hy3;have H':=Aside0.mk H;clear H;obtain ⟨p1,q1,ad1,e1,hx1_0,hx1_1,hx1_2,hx1_3,hx1_4,hx1_5,hx1_6,hx1_7,hx1_8,hx1_9,hx1_10,hx1_11⟩:=zat_ (at_T79 HR0.out x10_1);cases e1;replace hx1_0:=zx12_ HB hx1_0 hx1_1 hx1_2 hx1_3 hx1_4 hx1_5 hx1_6 hx1_7 hx1_8 hx1_9 hx1_10 hx1_11;clear hx1_1 hx1_2 hx1_3 hx1_4 hx1_5 hx1_6 hx1_7 hx1_8 hx1_9 hx1_10 hx1_11;obtain ⟨hx1_0,hx1_1,hx1_2,hx1_3,hx1_4,hx1_5,hx1_6,hx1_7,hx1_8,hx1_9,hx1_10,hx1_11⟩:=hx1_0;rotate_left;rw [if_neg c6] at H;have c6b0:=beq_eq_false_iff_ne.mpr c6;have c6b1:=bne_iff_ne.mpr c6;have H':=Aside0.mk H;clear H;obtain ⟨p1,q1,ad1,e1,hx1_0,hx1_1,hx1_2,hx1_3,hx1_4,hx1_5,hx1_6,hx1_7,hx1_8,hx1_9,hx1_10,hx1_11⟩:=zat_ (at_T79 HR0.out x10_1);cases e1
   replace hx1_0:=zx12_ HB hx1_0 hx1_1 hx1_2 hx1_3 hx1_4 hx1_5 hx1_6 hx1_7 hx1_8 hx1_9 hx1_10 hx1_11;clear hx1_1 hx1_2 hx1_3 hx1_4 hx1_5 hx1_6 hx1_7 hx1_8 hx1_9 hx1_10 hx1_11;obtain ⟨hx1_0,hx1_1,hx1_2,hx1_3,hx1_4,hx1_5,hx1_6,hx1_7,hx1_8,hx1_9,hx1_10,hx1_11⟩:=hx1_0;rotate_left
   all_goals (
   go_wp2_with (first|((with_reducible refine gate_dst (N:=7) rfl ?_);refine bx_ (N:=7) (cs:=#[.string (⟨#[]⟩:ByteArray), .string (⟨#[]⟩:ByteArray), .int .i64 0, .int .i64 0, .int .i64 0, .int .i64 0, .int .i64 0, .int .i64 0, .int .i64 0, .int .i64 0, .int .i64 0, .int .i64 0]) (t:=79) ?_;intro gb2 hg w8 hbox hb;replace HO_5:=ob_ HO_5 hb;have BK2:=am_ (hbox);have GE2:=am_ ((zg0_ HB hg:w.heap.size≤gb2));replace HB:=am_ (below_step (zl0_ HB) hb);clear hb hbox hg;obtain ⟨_,_,_,_,_,_,_,_,_,_,_,_⟩:=x12_ BK2;obtain ⟨_,_,_,_,_,_,_,_,_,_,_,_⟩:=ff12_ BK2)|((with_reducible refine gate_builtin (b:= .append) (xs:=#[.tmp 18, .tmp 21]) rfl ?_);at_builtin;refine Kd.R_append Kd.string (w0:=w) w.heap.size rfl (.tmp 18) (.tmp 21) 85 9 (.string ⟨#[]⟩) 16 rfl Try.underlying85 info9 rfl (by decide) (by omega) u5 x5_1 ((rd_T79 l0 x10_1).f0) [.string ((rd_T79 l0 x10_1).f0)] (fun _=>True) (fun _=>False) rfl (by first|(go_simp;done)|(go_simp;rfl)) ?aP (fun _ hk=>hk.elim) ?aF ?aO ?aB ?aS ?aL ?_;(case aP=>exact rfl);(case aB=>exact (zl1_ HB GE2));(case aF=>exact (fun _ _=>trivial));(case aO=>exact (by refine zt_ ?_;exact zy_ HO_5 BK2));(case aS=>exact (below_size (zl1_ HB GE2)));(case aL=>have:=LMc7.out;omega);intro v4 w10 ho hb hg hat;rw [←Ny3.out] at ho;have n0_:=am_ (blk_grown (g:=gb2) (o:= .cells #[.string ((rd_T79 l0 x10_1).f0), .string ((rd_T79 l0 x10_1).f1), .int .i64 ((rd_T79 l0 x10_1).f2.f0), .int .i64 ((rd_T79 l0 x10_1).f2.f1), .int .i64 ((rd_T79 l0 x10_1).f2.f2), .int .i64 ((rd_T79 l0 x10_1).f3.f0), .int .i64 ((rd_T79 l0 x10_1).f3.f1), .int .i64 ((rd_T79 l0 x10_1).f3.f2), .int .i64 ((rd_T79 l0 x10_1).f4.f0), .int .i64 ((rd_T79 l0 x10_1).f4.f1), .int .i64 ((rd_T79 l0 x10_1).f4.f2), .int .i64 ((rd_T79 l0 x10_1).f5)] 79 (0,0)) (zw_ BK2) hg (Kd.R_ne HO_5.out BK2.out (by decide)));have n1_:=am_ (hb);have n2_:=am_ (ho);clear BK2;clear HB;clear HO_5;have BK2:=n0_;have HB:=n1_;have HO5:=n2_;clear n0_ n1_ n2_;clear ho hb hg hat))
   go_roundg k1
   case measure=>have:=HK1.out;omega)
   ·case rel=>exact ⟨(y3),(wrap64 (x10_1+1)),rf_,H',⟨by have:=HK1.out;omega⟩,am_ (zr_ HO5),⟨zl1_ HB GE2⟩⟩
   ·case rel=>exact ⟨(x5_1),(wrap64 (x10_1+1)),rf_,H',⟨by have:=HK1.out;omega⟩,⟨zy_ HO_5 BK2⟩,⟨zl1_ HB GE2⟩⟩
set_option maxHeartbeats 4000000 in
set_option maxRecDepth 100000 in
theorem sliDelete_cells (w:World) (g n c i:Nat) (cur:Array Value) (h:w.heap[g]?=some (.cells cur 79 (0,0))) (hcs:cur.size=c*12) (hn:n≤c) (hm:c≤9223372036854775807) (hi:i<n) (h1: ∀u∈cur.toList.take (n*12),u.oneCell'=true):
    Calls Try.prog 166 #[.slice (some ⟨g,0,none⟩) n c, .int .i64 i, .int .i64 (i+1)] w fun e w'=>e= .returned (.slice (some ⟨g,0,none⟩) (n - 1) c)∧
      w'=(w.drew.setCells g (i*12) ((cur.toList.take (n*12)).drop ((i+1)*12))).setCells g ((n - 1)*12) zCells:=by
  have hz1: ¬((i:Int)=(i:Int)+1):=by omega
  obtain ⟨news,hnews⟩: ∃news,news=(cur.toList.take (n*12)).drop ((i+1)*12):=⟨_,rfl⟩;have hsz:n*12≤cur.size:=by rw [hcs];exact Nat.mul_le_mul_right _ hn
  have hlen:news.length=(n - (i+1))*12:=by
    rw [hnews,List.length_drop,List.length_take,Array.length_toList]
    omega
  have hget: ∀t u,news[t]?=some u→w.cell? ⟨g,(i+1)*12+t,none⟩=some u:=by
    intro t u hu;rw [hnews,List.getElem?_drop,List.getElem?_take] at hu
    split at hu
    · exact plain_cell h hu
    cases hu
  obtain ⟨A,hA,hsrc⟩: ∃A:Addr,(if c=i+1 then some (⟨g,0,none⟩:Addr) else some ⟨g,(i+1)*12,none⟩)=some A∧Aside0 (∀t u,news[t]?=some u→w.drew.cell? (A.add t)=some u):=by
    by_cases hc:c=i+1
    · refine ⟨⟨g, 0, none⟩, by simp [hc], ⟨fun t u hu => ?_⟩⟩
      have h0:news.length=0:=by rw [hlen,show n - (i+1)=0 by omega]
      rw [List.length_eq_zero_iff.1 h0] at hu
      simp at hu
    refine ⟨⟨g,(i+1)*12,none⟩,by simp [hc],⟨fun t u hu=> ?_⟩⟩;rw [Addr.add_lit];exact hget t u hu
  have s1:=Aside0.mk hlen;have HN:=Aside0.mk hnews
  have s2:Aside0 (∀u∈news,u.oneCell'=true):=⟨by
    intro u hu;rw [hnews] at hu;exact h1 u (List.mem_of_mem_drop hu)⟩
  have s3:Aside0 (∀t,t<news.length→(w.drew.cell? ⟨g,0+i*12+t,none⟩).isSome=true∧w.drew.frozen? ⟨g,0+i*12+t,none⟩=false):=⟨by
    intro t ht;rw [hlen] at ht;rw [Nat.zero_add];exact ⟨plain_there (w:=w.drew) (blk_drew h) (by omega),blk_frozen (w:=w.drew) (blk_drew h) _⟩⟩
  obtain ⟨W1,hW1⟩: ∃W1,W1=w.drew.setCells g (0+i*12) news:=⟨_,rfl⟩;have hW:=Aside0.mk hW1;obtain ⟨i0,hi0,hz0,hzs,hzb⟩:=info_parts info79;have HI:=Aside0.mk hi0;have HS:=Aside0.mk hzs
  have hW1b: ∃cur',W1.heap[g]?=some (.cells cur' 79 (0,0))∧cur'.size=cur.size:=by
    obtain ⟨cur',x,y,_⟩:=setCells_row news (0+i*12) w.drew cur (blk_drew h) (by rw [hlen];omega);exact ⟨cur',by rw [hW1];exact x,y⟩
  obtain ⟨cur',hc1,hc2⟩:=hW1b
  have hcl: ∀ty o' n' c',o'=(n - 1)*12→n'=1→(Builtin.clear_ #[46] ty #[.slice (some ⟨g,o',none⟩) n' c']).run Try.prog W1= .ok (.tuple #[]) (W1.setCells g ((n - 1)*12) zCells):=by
    rintro ty o' n' c' rfl rfl;exact run_clear_one W1 _ 79 ty _ zCells Try.underlying46 Try.zeroValue79 (by kernel_rfl) (by intro u hu;simp only [zCells,List.mem_cons,List.not_mem_nil,or_false] at hu;rcases hu with rfl|rfl|rfl|rfl|rfl|rfl|rfl|rfl|rfl|rfl|rfl|rfl<;>rfl) g _ c' (fun j hj=>plain_there hc1 (by rw [hc2];have:zCells.length=12:=rfl;omega)) (fun j hj=>blk_frozen hc1 _)
  have HCL:=Aside0.mk hcl;have hic:i≤c:=by omega
  have hjc:i+1≤n:=by omega
  have mixed:Try.prog.follows .mixedOrders=true:=by kernel_rfl
  have hz2:(0:Int)≤(i:Int)+1:=by omega
  have hz3:(i:Int)+1≤(n:Int):=by omega
  clear hW1 hnews hget hlen h1 hi0 hzs hz0 hzb hcl hc1 hc2 h hcs hsz;go_enter Try.func166,Try.ntmps166;go_wp2_with fail
  go_region_law_o (refine step_append_room rfl (.tmp 22) (.tmp 25) 46 rfl 79 i0 12 Try.underlying46 HI.out HS.out g 0 i c (by simp [Act.eval,Act.put]) A (n - (i+1)) (c - (i+1)) news (by simp [Act.eval,Act.put]) s1.out hsrc.out s2.out (by omega) s3.out ?_;rw [←hW.out])
  go_wp2_with fail
  rw [HCL.out _ _ _ _ (by omega) (by omega)];go_wp2
  go_ret
  refine ⟨by rw [show i+(n - (i+1))=n - 1 by omega];rfl, ?_⟩;rw [hW.out,Nat.zero_add,HN.out]
theorem sliDelete_calls (w:World) (base:Nat) (v:Value) (l:List S79) (i:Nat) (hr:Kd.R k79 79 w base (fun _=>True) v l) (hi:i<l.length):
  Calls Try.prog 166 #[v, .int .i64 i, .int .i64 (i+1)] w fun e w'=> ∃v',e= .returned v'∧Kd.R k79 79 w' base (fun _=>True) v' (l.take i++l.drop (i+1))∧Below base w w':=by
 obtain ⟨g,c,rfl,hg,hgl⟩:=sh_head hr (by omega)
 obtain ⟨_,_,hnc,hcm,cur,hh,hcs,ht⟩:=R_cells hr
 refine (sliDelete_cells w g l.length c i cur hh hcs hnc hcm hi (by rw [ht];exact flat_one l)).mono ?_
 rintro e w' ⟨rfl,rfl⟩
 have hlc:l.length*12≤cur.size:=by rw [hcs];exact Nat.mul_le_mul_right _ hnc
 rw [ht,flat_drop l (i+1) (by omega)]
 have hl1:(flat (l.drop (i+1))).length=(l.length - (i+1))*12:=by rw [flat_lenI,List.length_drop]
 obtain ⟨cur1,h1,s1,t1⟩:=setCells_row (flat (l.drop (i+1))) (i*12) w.drew cur (blk_drew hh) (by rw [hl1];omega)
 obtain ⟨cur2,h2,s2,t2⟩:=setCells_row zCells ((l.length - 1)*12) _ cur1 h1 (by rw [s1];show _+12≤_;omega)
 have hll:(l.take i++l.drop (i+1)).length=l.length - 1:=by simp;omega
 refine ⟨_,rfl, ?_,Below.setCells_ (Below.setCells_ (below_drew (Below.refl _ _)) hg _ _) hg _ _⟩
 have:=R_of_cells (l:=l.take i++l.drop (i+1)) hg (by rw [hll];omega) hcm h2 (by rw [s2,s1,hcs]) (by
  rw [hll,t2,t1,List.append_assoc,List.take_append_of_le_length (by simp [hl1,Array.length_toList];omega),List.take_take,Nat.min_self,
   List.take_append_of_le_length (by simp [hl1,Array.length_toList];omega),flat_append,←flat_take l i (by omega),←ht,List.take_take,Nat.min_eq_left (by omega)]
  exact List.take_of_length_le (by simp [hl1,Array.length_toList];omega))
 rw [hll] at this
 exact this
def shape_Delete.f (k:Nat) (l0:List (S79)) (a1:ByteArray) (a2:Int):Option ((List (S79))×Int):=
 (shape_made.f l0 a1).bind fun p=>(guardF p.1 p.2 a2).bind fun e=>if e≠0 then some ([],e) else (tree_Below.f k l0 a1).bind fun b=>if (b.length:Int)>0 then some ([],13) else
  if (rd_T79 p.1 p.2).f3.f0=0∧(rd_T79 p.1 p.2).f3.f1=0∧(rd_T79 p.1 p.2).f3.f2=0 then some (p.1.take p.2.toNat++p.1.drop (p.2.toNat+1),0) else some ([],13)
theorem shape_Delete.mono: ∀a0 a1 a2 k,LeO (shape_Delete.f k a0 a1 a2) (shape_Delete.f (k+1) a0 a1 a2):=by
 intro a0 a1 a2 k;unfold shape_Delete.f
 repeat' with_reducible first|apply tree_Below.mono|apply LeO.refl|apply LeO.none|apply LeO.ite|refine LeO.bind ?_ fun _=> ?_
theorem guard_zero {l:List S79} {j ver:Int} (h:guardF l j ver=some 0):0≤j∧j<(l.length:Int):=by
  unfold guardF at h
  split at h
  · cases h
  split at h
  · omega
  cases h
set_option maxHeartbeats 8000000 in
set_option maxRecDepth 100000 in
theorem shape_Delete.calls (k:Nat) (A0:Option Addr) (c0:Nat) (l0:List (S79)) (a1:ByteArray) (a2:Int) (r1:List (S79)) (r2:Int) (w:World) (hr0:Kd.C k79 w A0 l0.length l0) (hc0:l0.length≤c0) (h:shape_Delete.f k l0 a1 a2=some (r1,r2)):
    Calls Try.prog 141 #[.slice A0 l0.length c0, .string a1, .int .i64 a2] w fun e w'=> ∃v0_:Value,e= .returned (.tuple #[v0_, .int .i64 r2])∧Kd.R k79 79 w' w.heap.size (fun _=>True) v0_ r1∧Below w.heap.size w w':=by
  have hu197:=Try.underlying197;have hu195:=Try.underlying195;have hu79:=Try.underlying79;have hu37:=Try.underlying37;unfold shape_Delete.f at h;obtain ⟨⟨out,j⟩,hmd,h1⟩:=Option.bind_eq_some_iff.1 h;clear h;obtain ⟨e0,hgd,h2⟩:=Option.bind_eq_some_iff.1 h1;clear h1;dsimp only at hgd h2
  have hlim:out.length<1256584717458:=by
    unfold shape_made.f slices_Clone_Item.f at hmd
    split at hmd
    rotate_left
    · cases hmd
    obtain ⟨_,h1,h2⟩:=Option.bind_eq_some_iff.1 hmd;obtain ⟨_,h3,h4⟩:=Option.bind_eq_some_iff.1 h2;cases h4;cases h1
    assumption
  have HR:=Aside0.mk hr0;have HC:=Aside0.mk hc0;have HM:=Aside0.mk hmd;have HG:=Aside0.mk hgd;have HL:=Aside0.mk hlim;have HB:=am_ (Below.refl w.heap.size w);have HH:=Aside0.mk h2;clear hr0 hc0 hmd hgd h2 hlim;go_enter Try.func141,Try.ntmps141;go_wp2_with fail
  refine (shape_made.calls _ _ _ _ _ _ _ (Kd.C_below HR.out HB.out) HC.out HM.out).mono ?_;rintro e w3 ⟨v0,rfl,ho,hb⟩;have HO:=am_ (Kd.R_lower ho (below_size HB.out));have HLT:=am_ (Kd.R_lt ho);replace HB:=am_ (below_step HB.out hb);clear ho hb;obtain ⟨A5,c5,rfl⟩: ∃A5 c5,v0= .slice A5 out.length c5:=Kd.R_slice HO.out;go_wp2_with (first|((with_reducible refine gate_dst (N:=8) rfl ?_);refine bx_ (N:=8) (cs:=#[.slice none 0 0, .int .i64 0]) (t:=197) ?_;intro gb2 hg w4 hbox hb;replace HO:=am_ (Kd.R_below HO.out hb);have BK2:=am_ (hbox);have GE2:=am_ ((by rw [hg];exact below_size HB.out:w.heap.size≤gb2));replace HB:=am_ (below_step HB.out hb);have EQ2:=am_ (hg);clear hb hbox hg)|((with_reducible refine gate_store (t:=197) (p:=8) (v:= .tmp 12) rfl ?_);refine store_all BK2.out 197 (.tmp 8) (.tmp 12) rfl rfl rfl (.agg #[.slice A5 out.length c5, .int .i64 j]) [.slice A5 out.length c5, .int .i64 j] rfl rfl rfl (by kernel_rfl) rfl (by intro q hq;simp only [List.mem_cons,List.not_mem_nil,or_false] at hq;rcases hq with rfl|rfl<;>rfl) ?_;intro w5 hbk hg;replace HO:=am_ (R_put HO.out BK2.out (by decide) hg);replace HB:=am_ (below_put HB.out (below_size HB.out) hg GE2.out);replace BK2:=am_ (hbk);clear hbk hg;obtain ⟨cgb2_0,cgb2_1⟩:=xz2_ BK2))
  refine (shapeGuard_calls _ _ _ out j a2 e0 HO.out HG.out).mono ?_;rintro e w6 ⟨rfl,hb⟩;clear cgb2_0 cgb2_1;replace HO:=am_ (Kd.R_below HO.out hb);replace BK2:=am_ (blk_below BK2.out hb);replace HB:=am_ (below_step HB.out hb);clear hb;obtain ⟨cgb2_0,cgb2_1⟩:=xz2_ BK2;have h2:=HH.out;clear HH;by_cases c1:e0=0;rotate_left
  · rw [if_pos c1] at h2
    cases h2
    have q1:(r2==0)=false:=by simpa using c1
    go_wp2_with fail
    go_ret2
    exact ⟨_,rfl,Kd.R_nil _ _ _ _ _,HB.out⟩


  cases c1;rw [if_neg (by simp)] at h2;obtain ⟨hj0,hj1⟩:=guard_zero HG.out;obtain ⟨bl,hbl,h3⟩:=Option.bind_eq_some_iff.1 h2;have HBL:=Aside0.mk hbl;have HH:=Aside0.mk h3;clear h2 h3 hbl;go_wp2_with fail
  refine (tree_Below.calls k _ _ _ _ _ _ (Kd.C_below HR.out HB.out) HC.out HBL.out).mono ?_;rintro e w7 ⟨vb,rfl,hob,hb⟩;clear cgb2_0 cgb2_1;replace HO:=am_ (Kd.R_below HO.out hb);replace BK2:=am_ (blk_below BK2.out hb);replace HB:=am_ (below_step HB.out hb);obtain ⟨cgb2_0,cgb2_1⟩:=xz2_ BK2;obtain ⟨Ab,cb,rfl⟩:=Kd.R_slice hob;clear hb hob;have h3:=HH.out;clear HH;by_cases c2:(bl.length:Int)>0
  · rw [if_pos c2] at h3
    cases h3
    have q2:(0<bl.length)=True:=eq_true (by omega)
    clear c2
    go_wp2_with fail
    go_ret2
    exact ⟨_,rfl,Kd.R_nil _ _ _ _ _,HB.out⟩
  rw [if_neg c2] at h3;obtain rfl:bl=[]:=List.length_eq_zero_iff.1 (by omega);clear c2;obtain ⟨gb,cap,hv0,hgb,hgl⟩:=sh_head HO.out (by omega);cases hv0;have hcs:=sh_cells HO.out j hj0 hj1;have HCS:=Aside0.mk hcs;have HGL:=Aside0.mk hgl;have HJ0:=Aside0.mk hj0;have HJ1:=Aside0.mk hj1;have HH:=Aside0.mk h3;clear hcs hgl h3 hgb hj0 hj1;go_wp2_with fail
  refine (shapeItem_calls _ ⟨gb,0,none⟩ out.length c5 j HJ0.out HJ1.out).mono ?_;rintro e w8 ⟨rfl,hb⟩;clear cgb2_0 cgb2_1;have k5:=(hb.cell (p:=⟨gb,j.toNat*12+5,none⟩) HGL.out).trans (HCS.out 5 _ rfl);have k6:=(hb.cell (p:=⟨gb,j.toNat*12+6,none⟩) HGL.out).trans (HCS.out 6 _ rfl);have k7:=(hb.cell (p:=⟨gb,j.toNat*12+7,none⟩) HGL.out).trans (HCS.out 7 _ rfl);replace HO:=am_ (Kd.R_below HO.out hb);replace BK2:=am_ (blk_below BK2.out hb);replace HB:=am_ (below_step HB.out hb);obtain ⟨cgb2_0,cgb2_1⟩:=xz2_ BK2;have h3:=HH.out;clear HH hb HCS;generalize rd_T79 out j=y at k5 k6 k7 h3;by_cases c3:y.f3.f0=0∧y.f3.f1=0∧y.f3.f2=0
  · rw [if_pos c3] at h3
    cases h3
    obtain ⟨q3,q4,q5⟩:=c3
    rw [q3] at k5
    rw [q4] at k6
    rw [q5] at k7
    go_wp2_with fail
    have ej:((j.toNat:Nat):Int)=j:=Int.toNat_of_nonneg HJ0.out
    have hl:=HL.out
    have hj1:=HJ1.out
    refine calls_of_args (args':=#[.slice (some ⟨gb,0,none⟩) out.length c5, .int .i64 (j.toNat:Int), .int .i64 ((j.toNat:Int)+1)]) (by rw [ej,show wrap64 (j+1)=j+1 from by unfold wrap64;omega]) ((sliDelete_calls _ w.heap.size _ out j.toNat HO.out (by omega)).mono ?_)
    rintro e w9 ⟨v1,rfl,ho,hb⟩
    have HO9:=Aside0.mk ho
    have HB9:=am_ (HB.out.trans hb)
    clear ho hb
    go_wp2_with fail
    go_ret2
    exact ⟨_,rfl,HO9.out,HB9.out⟩
  rw [if_neg c3] at h3;cases h3;by_cases q3:y.f3.f0=0;rotate_left
  · have q3b : (y.f3.f0 == 0) = false := by simpa using q3
    clear c3
    go_wp2_with fail
    go_ret2
    exact ⟨_,rfl,Kd.R_nil _ _ _ _ _,HB.out⟩
  rw [q3] at k5;by_cases q4:y.f3.f1=0;rotate_left
  · have q4b : (y.f3.f1 == 0) = false := by simpa using q4
    clear c3
    go_wp2_with fail
    go_ret2
    exact ⟨_,rfl,Kd.R_nil _ _ _ _ _,HB.out⟩
  rw [q4] at k6;have q5: ¬y.f3.f2=0:=fun e=>c3 ⟨q3,q4,e⟩
  have q5b:(y.f3.f2==0)=false:=by simpa using q5
  clear c3;go_wp2_with fail
  go_ret2
  exact ⟨_,rfl,Kd.R_nil _ _ _ _ _,HB.out⟩
end Go.Proofs.Ytahidkjncljkaaa.Print
