/- TrialAll: a part -/
import Derived.Laws.Cover1
import Derived.Test.YtcgefpklljclgaaBTrialAll0
import Derived.Test.YtcgefpklljclgaaBTrialAll1
namespace Go.Proofs.Ytcgefpklljclgaa.Print
open Go.RowKit Go.Proofs.YtcgefpklljclgaaW.PrintWords Go.Proofs.YtcgefpklljclgaaW.PrintLast Go.Proofs.YtcgefpklljclgaaW.PrintMore
attribute [local go_sem] max2_int min2_int max_two min_two max_three min_three max_four min_four
set_option linter.unusedVariables false
set_option linter.unusedSimpArgs false

attribute [local go_sem high] eqA27
mutual
def r10_Right.l0:Nat→List (S31)→Int→Option (Bool)
 |0,_,_=>none
 |k+1,x0,x3=>if x3<(x0.length:Int) then (if 0≤x3 then ((r10_MayName.f ((rd_T31 x0 x3).f0)).bind fun t3=>(if t3=true then (if x3>0 then (if 0≤(wrap64 (x3 - 1)) then (if (wrap64 (x3 - 1))<(x0.length:Int) then (if ((Op.bytesLess (((rd_T31 x0 (wrap64 (x3 - 1))).f0).toList) (((rd_T31 x0 x3).f0).toList))=true) then ((r10_MayVec.f ((rd_T31 x0 x3).f2.f0) ((rd_T31 x0 x3).f2.f1) ((rd_T31 x0 x3).f2.f2)).bind fun t5=>(if t5=true then ((r10_MayVec.f ((rd_T31 x0 x3).f3.f0) ((rd_T31 x0 x3).f3.f1) ((rd_T31 x0 x3).f3.f2)).bind fun t6=>(if t6=true then (if ((rd_T31 x0 x3).f1).toList=([]:List UInt8) then (if ((rd_T31 x0 x3).f5)<1 then (some false) else (if ((rd_T31 x0 x3).f5)>9007199254740992 then (some false) else ((r10_Le.f ((rd_T31 x0 x3).f4.f0) ((rd_T31 x0 x3).f4.f1) ((rd_T31 x0 x3).f4.f2) ((rd_T31 x0 x3).f2.f0) ((rd_T31 x0 x3).f2.f1) ((rd_T31 x0 x3).f2.f2)).bind fun t7=>(if t7=true then ((r10_MayVec.f ((rd_T31 x0 x3).f4.f0) ((rd_T31 x0 x3).f4.f1) ((rd_T31 x0 x3).f4.f2)).bind fun t8=>(if t8=true then (r10_Right.l0 k x0 (wrap64 (x3+1))) else (some false))) else (some false))))) else ((r10_Find.f k x0 ((rd_T31 x0 x3).f1)).bind fun t9=>(if t9<0 then (some false) else (if ((rd_T31 x0 x3).f5)<1 then (some false) else (if ((rd_T31 x0 x3).f5)>9007199254740992 then (some false) else ((r10_Le.f ((rd_T31 x0 x3).f4.f0) ((rd_T31 x0 x3).f4.f1) ((rd_T31 x0 x3).f4.f2) ((rd_T31 x0 x3).f2.f0) ((rd_T31 x0 x3).f2.f1) ((rd_T31 x0 x3).f2.f2)).bind fun t10=>(if t10=true then ((r10_MayVec.f ((rd_T31 x0 x3).f4.f0) ((rd_T31 x0 x3).f4.f1) ((rd_T31 x0 x3).f4.f2)).bind fun t11=>(if t11=true then (r10_Right.l0 k x0 (wrap64 (x3+1))) else (some false))) else (some false)))))))) else (some false))) else (some false))) else (some false)) else (none)) else (none)) else ((r10_MayVec.f ((rd_T31 x0 x3).f2.f0) ((rd_T31 x0 x3).f2.f1) ((rd_T31 x0 x3).f2.f2)).bind fun t12=>(if t12=true then ((r10_MayVec.f ((rd_T31 x0 x3).f3.f0) ((rd_T31 x0 x3).f3.f1) ((rd_T31 x0 x3).f3.f2)).bind fun t13=>(if t13=true then (if ((rd_T31 x0 x3).f1).toList=([]:List UInt8) then (if ((rd_T31 x0 x3).f5)<1 then (some false) else (if ((rd_T31 x0 x3).f5)>9007199254740992 then (some false) else ((r10_Le.f ((rd_T31 x0 x3).f4.f0) ((rd_T31 x0 x3).f4.f1) ((rd_T31 x0 x3).f4.f2) ((rd_T31 x0 x3).f2.f0) ((rd_T31 x0 x3).f2.f1) ((rd_T31 x0 x3).f2.f2)).bind fun t14=>(if t14=true then ((r10_MayVec.f ((rd_T31 x0 x3).f4.f0) ((rd_T31 x0 x3).f4.f1) ((rd_T31 x0 x3).f4.f2)).bind fun t15=>(if t15=true then (r10_Right.l0 k x0 (wrap64 (x3+1))) else (some false))) else (some false))))) else ((r10_Find.f k x0 ((rd_T31 x0 x3).f1)).bind fun t16=>(if t16<0 then (some false) else (if ((rd_T31 x0 x3).f5)<1 then (some false) else (if ((rd_T31 x0 x3).f5)>9007199254740992 then (some false) else ((r10_Le.f ((rd_T31 x0 x3).f4.f0) ((rd_T31 x0 x3).f4.f1) ((rd_T31 x0 x3).f4.f2) ((rd_T31 x0 x3).f2.f0) ((rd_T31 x0 x3).f2.f1) ((rd_T31 x0 x3).f2.f2)).bind fun t17=>(if t17=true then ((r10_MayVec.f ((rd_T31 x0 x3).f4.f0) ((rd_T31 x0 x3).f4.f1) ((rd_T31 x0 x3).f4.f2)).bind fun t18=>(if t18=true then (r10_Right.l0 k x0 (wrap64 (x3+1))) else (some false))) else (some false)))))))) else (some false))) else (some false)))) else (some false))) else (none)) else (r10_Right.l1 k x0 0)
def r10_Right.l1:Nat→List (S31)→Int→Option (Bool)
 |0,_,_=>none
 |k+1,x0,x5=>if x5<(x0.length:Int) then (if 0≤x5 then (r10_Right.l2 k x0 x5 0 ((rd_T31 x0 x5).f3.f0) ((rd_T31 x0 x5).f3.f1) ((rd_T31 x0 x5).f3.f2)) else (none)) else (some true)
def r10_Right.l2:Nat→List (S31)→Int→Int→Int→Int→Int→Option (Bool)
 |0,_,_,_,_,_,_=>none
 |k+1,x0,x5,x7,x21000,x21001,x21002=>if x7<(x0.length:Int) then (if 0≤x7 then (if 0≤x5 then (if x5<(x0.length:Int) then (if ((rd_T31 x0 x7).f1).toList=((rd_T31 x0 x5).f0).toList then ((r10_Add.f x21000 x21001 x21002 ((rd_T31 x0 x7).f4.f0) ((rd_T31 x0 x7).f4.f1) ((rd_T31 x0 x7).f4.f2)).bind fun bt24=>(r10_Right.l2 k x0 x5 (wrap64 (x7+1)) bt24.1 bt24.2.1 bt24.2.2)) else (r10_Right.l2 k x0 x5 (wrap64 (x7+1)) x21000 x21001 x21002)) else (none)) else (none)) else (none)) else (if 0≤x5 then (if x5<(x0.length:Int) then (if (!(x21000==((rd_T31 x0 x5).f4.f0))||(!(x21001==((rd_T31 x0 x5).f4.f1))||(!(x21002==((rd_T31 x0 x5).f4.f2)))))=true then (some false) else ((r10_Up.f k x0 ((rd_T31 x0 x5).f0)).bind fun t29=>(if (t29.length:Int)>(x0.length:Int) then (some false) else (r10_Right.l1 k x0 (wrap64 (x5+1)))))) else (none)) else (none))
end
def r10_Right.f (k:Nat) (l0:List (S31)):Option (Bool):=if (l0.length:Int)>120 then (some false) else (r10_Right.l0 k l0 0)
theorem r10_Right.mono_l: ∀k,(∀y0 y1,LeO (r10_Right.l0 k y0 y1) (r10_Right.l0 (k+1) y0 y1))∧(∀y0 y1,LeO (r10_Right.l1 k y0 y1) (r10_Right.l1 (k+1) y0 y1))∧(∀y0 y1 y2 y3 y4 y5,LeO (r10_Right.l2 k y0 y1 y2 y3 y4 y5) (r10_Right.l2 (k+1) y0 y1 y2 y3 y4 y5))
 |0=>⟨fun _ _ r h=>by simp [r10_Right.l0] at h,fun _ _ r h=>by simp [r10_Right.l1] at h,fun _ _ _ _ _ _ r h=>by simp [r10_Right.l2] at h⟩
 |k+1=>by
  obtain ⟨ih0,ih1,ih2⟩:=r10_Right.mono_l k
  refine ⟨?_, ?_, ?_⟩
  ·intro y0 y1
   unfold r10_Right.l0
   repeat' first
   |(with_reducible exact ih0 _ _)
   |(with_reducible exact ih1 _ _)
   |(with_reducible exact ih2 _ _ _ _ _ _)
   |(with_reducible exact r10_Find.mono _ _ _)
   |(with_reducible exact r10_Up.mono _ _ _)
   |(with_reducible exact LeO.refl _)
   |(with_reducible exact LeO.none _)
   |(with_reducible refine LeO.ite ?_ ?_)
   |(with_reducible refine LeO.bind ?_ (fun _=> ?_))
   |exact ih0 _ _
   |exact ih1 _ _
   |exact ih2 _ _ _ _ _ _
   |exact r10_Find.mono _ _ _
   |exact r10_Up.mono _ _ _
   |exact LeO.none _
   |refine LeO.ite ?_ ?_
   |refine LeO.bind ?_ (fun _=> ?_)
  ·intro y0 y1
   unfold r10_Right.l1
   repeat' first
   |(with_reducible exact ih0 _ _)
   |(with_reducible exact ih1 _ _)
   |(with_reducible exact ih2 _ _ _ _ _ _)
   |(with_reducible exact r10_Find.mono _ _ _)
   |(with_reducible exact r10_Up.mono _ _ _)
   |(with_reducible exact LeO.refl _)
   |(with_reducible exact LeO.none _)
   |(with_reducible refine LeO.ite ?_ ?_)
   |(with_reducible refine LeO.bind ?_ (fun _=> ?_))
   |exact ih0 _ _
   |exact ih1 _ _
   |exact ih2 _ _ _ _ _ _
   |exact r10_Find.mono _ _ _
   |exact r10_Up.mono _ _ _
   |exact LeO.none _
   |refine LeO.ite ?_ ?_
   |refine LeO.bind ?_ (fun _=> ?_)
  intro y0 y1 y2 y3 y4 y5
  unfold r10_Right.l2
  repeat' first
  |(with_reducible exact ih0 _ _)
  |(with_reducible exact ih1 _ _)
  |(with_reducible exact ih2 _ _ _ _ _ _)
  |(with_reducible exact r10_Find.mono _ _ _)
  |(with_reducible exact r10_Up.mono _ _ _)
  |(with_reducible exact LeO.refl _)
  |(with_reducible exact LeO.none _)
  |(with_reducible refine LeO.ite ?_ ?_)
  |(with_reducible refine LeO.bind ?_ (fun _=> ?_))
  |exact ih0 _ _
  |exact ih1 _ _
  |exact ih2 _ _ _ _ _ _
  |exact r10_Find.mono _ _ _
  |exact r10_Up.mono _ _ _
  |exact LeO.none _
  |refine LeO.ite ?_ ?_
  |refine LeO.bind ?_ (fun _=> ?_)
theorem r10_Right.mono: ∀a0 k,LeO (r10_Right.f k a0) (r10_Right.f (k+1) a0):=by
 intro a0 k
 obtain ⟨ih0,ih1,ih2⟩:=r10_Right.mono_l k
 unfold r10_Right.f
 repeat' first
  |(with_reducible exact ih0 _ _)
  |(with_reducible exact ih1 _ _)
  |(with_reducible exact ih2 _ _ _ _ _ _)
  |(with_reducible exact r10_Find.mono _ _ _)
  |(with_reducible exact r10_Up.mono _ _ _)
  |(with_reducible exact LeO.refl _)
  |(with_reducible exact LeO.none _)
  |(with_reducible refine LeO.ite ?_ ?_)
  |(with_reducible refine LeO.bind ?_ (fun _=> ?_))
  |exact ih0 _ _
  |exact ih1 _ _
  |exact ih2 _ _ _ _ _ _
  |exact r10_Find.mono _ _ _
  |exact r10_Up.mono _ _ _
  |exact LeO.none _
  |refine LeO.ite ?_ ?_
  |refine LeO.bind ?_ (fun _=> ?_)
def r10_Right.T7:Bool×List (List Nat×List Nat):=(true,[([],[]),([0],[0]),([1],[1]),([2],[2]),([3,2],[3]),([4],[4]),([5,4],[4,5]),([6,4,4],[4,6]),([7],[7]),([7],[7]),([9,7],[7,9]),([8,10,7],[7,8,10]),([11,7],[7,11]),([12,7],[7,12]),([7],[7]),([14,7],[7,14]),([13,15,7],[7,13,15]),([7,16,4],[4,7,16]),([4,17],[4,17]),([18,7],[18]),([19],[19]),([20,19],[19,20]),([21,19,19],[19,21]),([22,19],[19,22]),([19,23],[19,23]),([24,22],[24]),([25],[25]),([26,25],[25,26]),([27,25,25],[25,27]),([28,25],[25,28]),([25,29],[25,29]),([30,28],[30]),([31],[31]),([32,31],[31,32]),([33,31],[31,33]),([34,31,31],[31,34]),([35],[35]),([35],[35]),([37,35],[35,37]),([36,38,35,35],[35,36,38]),([39,35],[35,39]),([35,40,31],[31,35,40]),([31,41],[31,41]),([42,39],[42]),([43],[43]),([44,43],[43,44]),([45,43],[43,45]),([43,46],[43,46]),([47,43],[47]),([48],[48]),([49,48],[48,49]),([50,48],[48,50]),([48,51],[48,51]),([52,48],[52]),([53],[53]),([54,53],[53,54]),([53],[53]),([56,53],[53,56]),([55,57,53,53],[53,55,57]),([58,53],[53,58]),([53,59],[53,59]),([60,58],[60]),([61],[61]),([62,61],[61,62]),([63,61,61],[61,63]),([64,61],[61,64]),([61,65],[61,65])])
def r10_Right.B7:List Nat:=[0,1,3,7,15,31,63,127,255,255,767,2047,4095,8191,255,16639,65535,131071,262143,524287,1048575,2097151,4194303,8388607,16777215,33554431,67108863,134217727,268435455,536870911,1073741823,2147483647,4294967295,8589934591,17179869183,34359738367,68719476735,68719476735,206158430207,549755813887,1099511627775,2199023255551,4398046511103,8796093022207,17592186044415,35184372088831,70368744177663,140737488355327,281474976710655,562949953421311,1125899906842623,2251799813685247,4503599627370495,9007199254740991,18014398509481983,36028797018963967,18014398509481983,90071992547409919,288230376151711743,576460752303423487,1152921504606846975,2305843009213693951,4611686018427387903,9223372036854775807,18446744073709551615,36893488147419103231,73786976294838206463]
theorem r10_Right.tab7:rtab .any (opsOf Try.f41 7)=r10_Right.T7:=by kernel_rfl
theorem r10_Right.bits7:waitsOk r10_Right.T7.2 r10_Right.B7=true:=by kernel_rfl
def r10_Right.T16:Bool×List (List Nat×List Nat):=(true,[([],[]),([],[]),([0,1],[0,1]),([2],[2]),([3],[3]),([],[]),([],[]),([5,6],[5,6]),([7],[7]),([8],[8]),([4,9],[4,9])])
def r10_Right.B16:List Nat:=[0,0,3,7,15,0,0,96,224,480,1023]
theorem r10_Right.tab16:rtab .any (opsOf Try.f41 16)=r10_Right.T16:=by kernel_rfl
theorem r10_Right.bits16:waitsOk r10_Right.T16.2 r10_Right.B16=true:=by kernel_rfl
def r10_Right.T17:Bool×List (List Nat×List Nat):=(true,[([],[]),([],[]),([],[]),([1,2],[1,2]),([3],[3]),([4],[4]),([0,5],[0,5]),([6,6,0,1,2,3,4,5,6],[6])])
def r10_Right.B17:List Nat:=[0,0,0,6,14,30,63,127]
theorem r10_Right.tab17:rtab .any (opsOf Try.f41 17)=r10_Right.T17:=by kernel_rfl
theorem r10_Right.bits17:waitsOk r10_Right.T17.2 r10_Right.B17=true:=by kernel_rfl
def r10_Right.T18:Bool×List (List Nat×List Nat):=(true,[([],[]),([],[]),([],[]),([1,2],[1,2]),([3],[3]),([4],[4]),([0,5],[0,5]),([6],[6]),([7],[7]),([7],[7]),([7],[7]),([9,10,7],[7,9,10]),([11,7],[7,11]),([12,7],[7,12]),([8,13,7,7],[7,8,13]),([14,7],[7,14]),([7],[7]),([16,7],[7,16]),([15,17,7],[7,15,17]),([7,18],[7,18])])
def r10_Right.B18:List Nat:=[0,0,0,6,14,30,63,127,255,255,255,1791,3839,7935,16383,32767,255,65791,262143,524287]
theorem r10_Right.tab18:rtab .any (opsOf Try.f41 18)=r10_Right.T18:=by kernel_rfl
theorem r10_Right.bits18:waitsOk r10_Right.T18.2 r10_Right.B18=true:=by kernel_rfl
def r10_Right.tk (k:Nat):Array Bool:=(List.replicate k true++List.replicate (67 - k) false).toArray
set_option maxHeartbeats 8000000 in
set_option maxRecDepth 100000 in
theorem r10_Right.calls (k:Nat) (A0:Option Addr) (c0:Nat) (l0:List (S31)) (r:Bool) (w:World) (hr0:Kd.C k31 w A0 l0.length l0) (hc0:l0.length≤c0) (h:r10_Right.f k l0=some r):
  Calls Try.prog 41 #[.slice A0 l0.length c0] w fun e w'=>e= .returned (.bool r)∧Below w.heap.size w w':=by
 have hu31:=Try.underlying31
 have hu27:=Try.underlying27
 have HR0:=Aside0.mk hr0
 have HC0:=Aside0.mk hc0
 clear hr0 hc0
 have HB:=am_ (Below.refl w.heap.size w)
 have H:(if (l0.length:Int)>120 then (some false) else (r10_Right.l0 k l0 0))=some r:=h
 clear h
 by_cases c2:(l0.length:Int)>120
 ·rw [if_pos c2] at H
  have c2b0:decide (120<(l0.length:Int))=true:=decide_eq_true c2
  have c2b1:decide (120<l0.length)=true:=decide_eq_true (by omega)
  clear c2
  obtain rfl:=Option.some.inj H
  go_enter Try.func41,Try.ntmps41
  go_wp2
  go_ret
  exact ⟨by first|rfl|(simp [errW_none,errW_some]<;>rfl)|(simp [*,errW_none,errW_some]<;>rfl),zl0_ HB⟩
 rw [if_neg c2] at H
 have c2b0:decide (120<(l0.length:Int))=false:=decide_eq_false c2
 have c2b1:decide (120<l0.length)=false:=decide_eq_false (by omega)
 clear c2
 have H':=Aside0.mk H
 clear H
 go_enter Try.func41,Try.ntmps41
 go_wp2
 go_loopg [3] k (fun kq v3 w'=> ∃(x3_1:Int),v3= .int .i64 x3_1∧Aside0 (r10_Right.l0 kq l0 x3_1=some r)∧Aside0 (kq≤k)∧Aside0 (Below w.heap.size w w'))
 case atStart=>exact ⟨(0),(by first|rfl|(simp;done)|(simp [*];done)),H',⟨Nat.le_refl _⟩,⟨zl0_ HB⟩⟩
 case round=>
  clear H'
  try clear c2
  try clear c2b0
  try clear c2b1
  try clear p2
  obtain ⟨x3_1,rfl,HA,HK1,HB⟩:=hrel
  cases gk with
  |zero=>exact absurd HA.out (by simp [r10_Right.l0])
  |succ k1=>
   have H:=HA.out
   clear HA
   simp only [r10_Right.l0] at H
   by_cases c3:x3_1<(l0.length:Int)
   ·rw [if_pos c3] at H
    have c3b0:decide (x3_1<(l0.length:Int))=true:=decide_eq_true c3
    clear c3
    by_cases c4:0≤x3_1
    rotate_left
    ·rw [if_neg c4] at H
     exact absurd H (by simp)
    rw [if_pos c4] at H
    have c4b0:decide (0≤x3_1)=true:=decide_eq_true c4
    clear c4
    have HC7:=Aside0.mk H
    clear H
    have p1:0≤(x3_1:Int):=of_decide_eq_true zq_
    have q1:x3_1<(l0.length:Int):=of_decide_eq_true zq_
    obtain ⟨ad1,e1,hx1_0,hx1_1,hx1_2,hx1_3,hx1_4,hx1_5,hx1_6,hx1_7,hx1_8,hx1_9,hx1_10,hx1_11⟩:=at_T31 HR0.out x3_1 p1 q1
    cases e1
    replace hx1_0:=zx_ HB hx1_0
    replace hx1_1:=zx_ HB hx1_1
    replace hx1_2:=zx_ HB hx1_2
    replace hx1_3:=zx_ HB hx1_3
    replace hx1_4:=zx_ HB hx1_4
    replace hx1_5:=zx_ HB hx1_5
    replace hx1_6:=zx_ HB hx1_6
    replace hx1_7:=zx_ HB hx1_7
    replace hx1_8:=zx_ HB hx1_8
    replace hx1_9:=zx_ HB hx1_9
    replace hx1_10:=zx_ HB hx1_10
    replace hx1_11:=zx_ HB hx1_11
    replace p1:=eq_true p1
    replace q1:=eq_true q1
    try go_wp2_with (first|((with_reducible refine gate_dst (N:=4) rfl ?_);(try (refine gate_guard (by rfl) ?_;dsimp only));refine bx_ (N:=4) (cs:=#[.string (⟨#[]⟩:ByteArray), .string (⟨#[]⟩:ByteArray), .int .i64 0, .int .i64 0, .int .i64 0, .int .i64 0, .int .i64 0, .int .i64 0, .int .i64 0, .int .i64 0, .int .i64 0, .int .i64 0]) (t:=31) ?_;intro gb2 hg w18 hbox hb;have BK2:=am_ (hbox);have GW2:=am_ ((zg0_ HB hg:w.heap.size≤gb2));have GE2:=am_ ((zg0_ HB hg:w.heap.size≤gb2));replace HB:=am_ (below_step (zl0_ HB) hb);clear hb hbox hg;obtain ⟨hcz19_0,hcz19_1,hcz19_2,hcz19_3,hcz19_4,hcz19_5,hcz19_6,hcz19_7,hcz19_8,hcz19_9,hcz19_10,hcz19_11⟩:=x12_ BK2;have hfz19_0:=blk_frozen BK2.out 0;have hfz19_1:=blk_frozen BK2.out 1;have hfz19_2:=blk_frozen BK2.out 2;have hfz19_3:=blk_frozen BK2.out 3;have hfz19_4:=blk_frozen BK2.out 4;have hfz19_5:=blk_frozen BK2.out 5;have hfz19_6:=blk_frozen BK2.out 6;have hfz19_7:=blk_frozen BK2.out 7;have hfz19_8:=blk_frozen BK2.out 8;have hfz19_9:=blk_frozen BK2.out 9;have hfz19_10:=blk_frozen BK2.out 10;have hfz19_11:=blk_frozen BK2.out 11))
    have n0_:Aside0 (((((((((((((w18.setCell ⟨gb2,0,none⟩ (.string ((rd_T31 l0 x3_1).f0))).setCell ⟨gb2,1,none⟩ (.string ((rd_T31 l0 x3_1).f1))).setCell ⟨gb2,2,none⟩ (.int .i64 ((rd_T31 l0 x3_1).f2.f0))).setCell ⟨gb2,3,none⟩ (.int .i64 ((rd_T31 l0 x3_1).f2.f1))).setCell ⟨gb2,4,none⟩ (.int .i64 ((rd_T31 l0 x3_1).f2.f2))).setCell ⟨gb2,5,none⟩ (.int .i64 ((rd_T31 l0 x3_1).f3.f0))).setCell ⟨gb2,6,none⟩ (.int .i64 ((rd_T31 l0 x3_1).f3.f1))).setCell ⟨gb2,7,none⟩ (.int .i64 ((rd_T31 l0 x3_1).f3.f2))).setCell ⟨gb2,8,none⟩ (.int .i64 ((rd_T31 l0 x3_1).f4.f0))).setCell ⟨gb2,9,none⟩ (.int .i64 ((rd_T31 l0 x3_1).f4.f1))).setCell ⟨gb2,10,none⟩ (.int .i64 ((rd_T31 l0 x3_1).f4.f2))).setCell ⟨gb2,11,none⟩ (.int .i64 ((rd_T31 l0 x3_1).f5))).heap[gb2]?=some (.cells #[.string ((rd_T31 l0 x3_1).f0), .string ((rd_T31 l0 x3_1).f1), .int .i64 ((rd_T31 l0 x3_1).f2.f0), .int .i64 ((rd_T31 l0 x3_1).f2.f1), .int .i64 ((rd_T31 l0 x3_1).f2.f2), .int .i64 ((rd_T31 l0 x3_1).f3.f0), .int .i64 ((rd_T31 l0 x3_1).f3.f1), .int .i64 ((rd_T31 l0 x3_1).f3.f2), .int .i64 ((rd_T31 l0 x3_1).f4.f0), .int .i64 ((rd_T31 l0 x3_1).f4.f1), .int .i64 ((rd_T31 l0 x3_1).f4.f2), .int .i64 ((rd_T31 l0 x3_1).f5)] 31 (0,0))):=⟨zw_ BK2⟩
    have n1_:Aside0 (Below w.heap.size w ((((((((((((w18.setCell ⟨gb2,0,none⟩ (.string ((rd_T31 l0 x3_1).f0))).setCell ⟨gb2,1,none⟩ (.string ((rd_T31 l0 x3_1).f1))).setCell ⟨gb2,2,none⟩ (.int .i64 ((rd_T31 l0 x3_1).f2.f0))).setCell ⟨gb2,3,none⟩ (.int .i64 ((rd_T31 l0 x3_1).f2.f1))).setCell ⟨gb2,4,none⟩ (.int .i64 ((rd_T31 l0 x3_1).f2.f2))).setCell ⟨gb2,5,none⟩ (.int .i64 ((rd_T31 l0 x3_1).f3.f0))).setCell ⟨gb2,6,none⟩ (.int .i64 ((rd_T31 l0 x3_1).f3.f1))).setCell ⟨gb2,7,none⟩ (.int .i64 ((rd_T31 l0 x3_1).f3.f2))).setCell ⟨gb2,8,none⟩ (.int .i64 ((rd_T31 l0 x3_1).f4.f0))).setCell ⟨gb2,9,none⟩ (.int .i64 ((rd_T31 l0 x3_1).f4.f1))).setCell ⟨gb2,10,none⟩ (.int .i64 ((rd_T31 l0 x3_1).f4.f2))).setCell ⟨gb2,11,none⟩ (.int .i64 ((rd_T31 l0 x3_1).f5)))):=⟨zl1_ HB GE2⟩
    (try clear BK2)
    (try clear HB)
    generalize ((((((((((((w18.setCell ⟨gb2,0,none⟩ (.string ((rd_T31 l0 x3_1).f0))).setCell ⟨gb2,1,none⟩ (.string ((rd_T31 l0 x3_1).f1))).setCell ⟨gb2,2,none⟩ (.int .i64 ((rd_T31 l0 x3_1).f2.f0))).setCell ⟨gb2,3,none⟩ (.int .i64 ((rd_T31 l0 x3_1).f2.f1))).setCell ⟨gb2,4,none⟩ (.int .i64 ((rd_T31 l0 x3_1).f2.f2))).setCell ⟨gb2,5,none⟩ (.int .i64 ((rd_T31 l0 x3_1).f3.f0))).setCell ⟨gb2,6,none⟩ (.int .i64 ((rd_T31 l0 x3_1).f3.f1))).setCell ⟨gb2,7,none⟩ (.int .i64 ((rd_T31 l0 x3_1).f3.f2))).setCell ⟨gb2,8,none⟩ (.int .i64 ((rd_T31 l0 x3_1).f4.f0))).setCell ⟨gb2,9,none⟩ (.int .i64 ((rd_T31 l0 x3_1).f4.f1))).setCell ⟨gb2,10,none⟩ (.int .i64 ((rd_T31 l0 x3_1).f4.f2))).setCell ⟨gb2,11,none⟩ (.int .i64 ((rd_T31 l0 x3_1).f5)))=w20 at n0_ n1_ ⊢
    have BK2:=n0_
    have HB:=n1_
    clear n0_ n1_
    have b0:w20.cell? ⟨gb2,0,none⟩=some (.string ((rd_T31 l0 x3_1).f0)):=(blk_cell BK2.out 0).trans rfl
    have b1:w20.cell? ⟨gb2,1,none⟩=some (.string ((rd_T31 l0 x3_1).f1)):=(blk_cell BK2.out 1).trans rfl
    have b2:w20.cell? ⟨gb2,2,none⟩=some (.int .i64 ((rd_T31 l0 x3_1).f2.f0)):=(blk_cell BK2.out 2).trans rfl
    have b3:w20.cell? ⟨gb2,3,none⟩=some (.int .i64 ((rd_T31 l0 x3_1).f2.f1)):=(blk_cell BK2.out 3).trans rfl
    have b4:w20.cell? ⟨gb2,4,none⟩=some (.int .i64 ((rd_T31 l0 x3_1).f2.f2)):=(blk_cell BK2.out 4).trans rfl
    have b5:w20.cell? ⟨gb2,5,none⟩=some (.int .i64 ((rd_T31 l0 x3_1).f3.f0)):=(blk_cell BK2.out 5).trans rfl
    have b6:w20.cell? ⟨gb2,6,none⟩=some (.int .i64 ((rd_T31 l0 x3_1).f3.f1)):=(blk_cell BK2.out 6).trans rfl
    have b7:w20.cell? ⟨gb2,7,none⟩=some (.int .i64 ((rd_T31 l0 x3_1).f3.f2)):=(blk_cell BK2.out 7).trans rfl
    have b8:w20.cell? ⟨gb2,8,none⟩=some (.int .i64 ((rd_T31 l0 x3_1).f4.f0)):=(blk_cell BK2.out 8).trans rfl
    have b9:w20.cell? ⟨gb2,9,none⟩=some (.int .i64 ((rd_T31 l0 x3_1).f4.f1)):=(blk_cell BK2.out 9).trans rfl
    have b10:w20.cell? ⟨gb2,10,none⟩=some (.int .i64 ((rd_T31 l0 x3_1).f4.f2)):=(blk_cell BK2.out 10).trans rfl
    have b11:w20.cell? ⟨gb2,11,none⟩=some (.int .i64 ((rd_T31 l0 x3_1).f5)):=(blk_cell BK2.out 11).trans rfl
    obtain ⟨t3,A50,H⟩:=Option.bind_eq_some_iff.mp HC7.out
    have A5:=Aside0.mk A50
    have HC:=Aside0.mk H
    clear A50 H HC7
    have c9:0<x3_1→0≤wrap64 (x3_1 - 1)∧wrap64 (x3_1 - 1)<(l0.length:Int):=fun q=>by have:=of_eq_true p1;have:=of_eq_true q1;have:l0.length≤9223372036854775807:=HR0.out.2.1;unfold wrap64;omega
    by_cases c7:x3_1>0
    obtain ⟨c9,c10⟩:=c9 c7
    have c7b0:decide (0<x3_1)=true:=decide_eq_true c7
    obtain ⟨ji8,hji8⟩: ∃j_:Int,(wrap64 (x3_1 - 1))=j_:=⟨_,rfl⟩
    rw [hji8] at c9 c10
    have hji8w:(IntKind.i64.wrap (x3_1 - 1))=ji8:=(i64_w _).trans hji8
    obtain ⟨ad7,e7,hp, -⟩:=at_T31 HR0.out ji8 c9 c10
    obtain rfl:ad1=ad7:=(by injection e7)
    replace hp:=zx_ HB hp
    have p7:=eq_true c9
    have q7:=eq_true c10
    have C7:=Aside0.mk c7
    have C9:=Aside0.mk c9
    have C10:=Aside0.mk c10
    clear c7 c9 c10
    rotate_left
    have c7b0:decide (0<x3_1)=false:=decide_eq_false c7
    have N7:=Aside0.mk c7
    clear c7 c9
    all_goals (
      have HBc:=am_ (below_drew1 (Below.refl w20.heap.size w20))
      first|(refine start_ (n:=67) (S:=fun w'=>w'.cell? ⟨gb2,0,none⟩=some (.string ((rd_T31 l0 x3_1).f0))∧w'.cell? ⟨gb2,1,none⟩=some (.string ((rd_T31 l0 x3_1).f1))∧w'.cell? ⟨gb2,2,none⟩=some (.int .i64 ((rd_T31 l0 x3_1).f2.f0))∧w'.cell? ⟨gb2,3,none⟩=some (.int .i64 ((rd_T31 l0 x3_1).f2.f1))∧w'.cell? ⟨gb2,4,none⟩=some (.int .i64 ((rd_T31 l0 x3_1).f2.f2))∧w'.cell? ⟨gb2,5,none⟩=some (.int .i64 ((rd_T31 l0 x3_1).f3.f0))∧w'.cell? ⟨gb2,6,none⟩=some (.int .i64 ((rd_T31 l0 x3_1).f3.f1))∧w'.cell? ⟨gb2,7,none⟩=some (.int .i64 ((rd_T31 l0 x3_1).f3.f2))∧w'.cell? ⟨gb2,8,none⟩=some (.int .i64 ((rd_T31 l0 x3_1).f4.f0))∧w'.cell? ⟨gb2,9,none⟩=some (.int .i64 ((rd_T31 l0 x3_1).f4.f1))∧w'.cell? ⟨gb2,10,none⟩=some (.int .i64 ((rd_T31 l0 x3_1).f4.f2))∧w'.cell? ⟨gb2,11,none⟩=some (.int .i64 ((rd_T31 l0 x3_1).f5))∧w'.cell? (ad1.add (((ji8)).toNat*12))=some (.string ((rd_T31 l0 (ji8)).f0))) (ds:=[]) (bt_ 67 0) (by kernel_rfl) rfl rfl ?_ (fun hHeld=> ?_);(refine ⟨?_, ?_, ?_, ?_, ?_, ?_, ?_, ?_, ?_, ?_, ?_, ?_, ?_⟩<;>first|exact pw_cell_below HBc.out (by assumption)|(go_keep;done)))|(refine start_ (n:=67) (S:=fun w'=>w'.cell? ⟨gb2,0,none⟩=some (.string ((rd_T31 l0 x3_1).f0))∧w'.cell? ⟨gb2,1,none⟩=some (.string ((rd_T31 l0 x3_1).f1))∧w'.cell? ⟨gb2,2,none⟩=some (.int .i64 ((rd_T31 l0 x3_1).f2.f0))∧w'.cell? ⟨gb2,3,none⟩=some (.int .i64 ((rd_T31 l0 x3_1).f2.f1))∧w'.cell? ⟨gb2,4,none⟩=some (.int .i64 ((rd_T31 l0 x3_1).f2.f2))∧w'.cell? ⟨gb2,5,none⟩=some (.int .i64 ((rd_T31 l0 x3_1).f3.f0))∧w'.cell? ⟨gb2,6,none⟩=some (.int .i64 ((rd_T31 l0 x3_1).f3.f1))∧w'.cell? ⟨gb2,7,none⟩=some (.int .i64 ((rd_T31 l0 x3_1).f3.f2))∧w'.cell? ⟨gb2,8,none⟩=some (.int .i64 ((rd_T31 l0 x3_1).f4.f0))∧w'.cell? ⟨gb2,9,none⟩=some (.int .i64 ((rd_T31 l0 x3_1).f4.f1))∧w'.cell? ⟨gb2,10,none⟩=some (.int .i64 ((rd_T31 l0 x3_1).f4.f2))∧w'.cell? ⟨gb2,11,none⟩=some (.int .i64 ((rd_T31 l0 x3_1).f5))) (ds:=[]) (bt_ 67 0) (by kernel_rfl) rfl rfl ?_ (fun hHeld=> ?_);(refine ⟨?_, ?_, ?_, ?_, ?_, ?_, ?_, ?_, ?_, ?_, ?_, ?_⟩<;>first|exact pw_cell_below HBc.out (by assumption)|(go_keep;done)))
      refine with_tabW r10_Right.tab7 r10_Right.bits7 (fun HT_ HW_=> ?_)
      generalize w20.drew=wd at HBc hHeld ⊢)
    all_goals (refine pu_ (i:=0) (N:=some 21) (r10_Right.tk 1) HT_ ?_)
    all_goals (refine tk_ (i:=1) (N:=some 22) (r10_Right.tk 2) HT_ HW_ hHeld ?_)
    all_goals (refine on_ (i:=2) (N:=some 23) (r10_Right.tk 3) HT_ (fun K hK=> ?_);refine gs_ Try.func105 #[.string ((rd_T31 l0 x3_1).f0)] ?_;with_reducible refine (r10_MayName.calls _ _ _ A5.out).mono ?_;rintro e wx2 ⟨rfl,hd⟩;have hb:=hd.below;clear hd;refine ⟨_,rfl, ?_⟩;have HBn:=am_ (below_step HBc.out hb);clear HBc;have HBc:=HBn;clear HBn;refine hK.out _ _ (by first|exact ⟨pw_cell_below hb hHeld.1,pw_cell_below hb hHeld.2.1,pw_cell_below hb hHeld.2.2.1,pw_cell_below hb hHeld.2.2.2.1,pw_cell_below hb hHeld.2.2.2.2.1,pw_cell_below hb hHeld.2.2.2.2.2.1,pw_cell_below hb hHeld.2.2.2.2.2.2.1,pw_cell_below hb hHeld.2.2.2.2.2.2.2.1,pw_cell_below hb hHeld.2.2.2.2.2.2.2.2.1,pw_cell_below hb hHeld.2.2.2.2.2.2.2.2.2.1,pw_cell_below hb hHeld.2.2.2.2.2.2.2.2.2.2.1,pw_cell_below hb hHeld.2.2.2.2.2.2.2.2.2.2.2.1,pw_cell_below hb hHeld.2.2.2.2.2.2.2.2.2.2.2.2⟩|exact ⟨pw_cell_below hb hHeld.1,pw_cell_below hb hHeld.2.1,pw_cell_below hb hHeld.2.2.1,pw_cell_below hb hHeld.2.2.2.1,pw_cell_below hb hHeld.2.2.2.2.1,pw_cell_below hb hHeld.2.2.2.2.2.1,pw_cell_below hb hHeld.2.2.2.2.2.2.1,pw_cell_below hb hHeld.2.2.2.2.2.2.2.1,pw_cell_below hb hHeld.2.2.2.2.2.2.2.2.1,pw_cell_below hb hHeld.2.2.2.2.2.2.2.2.2.1,pw_cell_below hb hHeld.2.2.2.2.2.2.2.2.2.2.1,pw_cell_below hb hHeld.2.2.2.2.2.2.2.2.2.2.2⟩) (fun hHeld=> ?_);clear hK K hb;refine norm_ (a':= ?_) ?_ ?_;rotate_left;(show Act.put _ (some 23) _=_;simp only [Act.put,List.setIfInBounds_toArray,List.set_cons_zero,List.set_cons_succ,i64_w,i32_w];rfl))
    all_goals (try (have H:=HC.out;clear HC;by_cases c6:t3=true;(case' pos=>subst c6;rw [if_pos rfl] at H;have HC:=Aside0.mk H;clear H);(case' neg=>rw [if_neg c6] at H;have q_:t3=false:=Bool.eq_false_iff.mpr c6;subst q_;clear c6;have HC:=Aside0.mk H;clear H)))
    all_goals (refine pu_ (i:=3) (N:=some 24) (r10_Right.tk 4) HT_ ?_)
    all_goals (refine pu_ (i:=4) (N:=some 25) (r10_Right.tk 5) HT_ ?_)
    all_goals (first|(refine pu_ (i:=5) (N:=some 26) (r10_Right.tk 6) HT_ ?_)|(refine pn_ (i:=5) (N:=some 26) (r10_Right.tk 6) HT_ ?_))
    all_goals (first|(refine pu_ (i:=6) (N:=some 27) (r10_Right.tk 7) HT_ ?_)|(refine pn_ (i:=6) (N:=some 27) (r10_Right.tk 7) HT_ ?_))
    all_goals (first|(refine pu_ (i:=7) (N:=some 28) (r10_Right.tk 8) HT_ ?_)|(refine pn_ (i:=7) (N:=some 28) (r10_Right.tk 8) HT_ ?_))
    all_goals (first|(refine pu_ (i:=8) (N:=some 29) (r10_Right.tk 9) HT_ ?_)|(refine pn_ (i:=8) (N:=some 29) (r10_Right.tk 9) HT_ ?_))
    all_goals (first|(refine pu_ (i:=9) (N:=some 30) (r10_Right.tk 10) HT_ ?_)|(refine pn_ (i:=9) (N:=some 30) (r10_Right.tk 10) HT_ ?_))
    all_goals (first|(refine pu_ (i:=10) (N:=some 31) (r10_Right.tk 11) HT_ ?_)|(refine pn_ (i:=10) (N:=some 31) (r10_Right.tk 11) HT_ ?_))
    all_goals (first|(refine pu_ (i:=11) (N:=some 32) (r10_Right.tk 12) HT_ ?_)|(refine pn_ (i:=11) (N:=some 32) (r10_Right.tk 12) HT_ ?_))
    all_goals (first|(refine pu_ (i:=12) (N:=some 33) (r10_Right.tk 13) HT_ ?_)|(refine pn_ (i:=12) (N:=some 33) (r10_Right.tk 13) HT_ ?_))
    all_goals (try (have H:=HC.out;clear HC;rw [if_neg N7.out] at H;have HC:=Aside0.mk H;clear H))
    all_goals (try (have H:=HC.out;clear HC;rw [if_pos C7.out,hji8,if_pos C9.out,if_pos C10.out] at H;by_cases c11:((Op.bytesLess (((rd_T31 l0 ji8).f0).toList) (((rd_T31 l0 x3_1).f0).toList))=true);(case' pos=>rw [if_pos c11] at H;have c11b0:(Op.bytesLess (((rd_T31 l0 ji8).f0).toList) (((rd_T31 l0 x3_1).f0).toList))=true:=c11;clear c11;have HC:=Aside0.mk H;clear H);(case' neg=>rw [if_neg c11] at H;have c11b0:(Op.bytesLess (((rd_T31 l0 ji8).f0).toList) (((rd_T31 l0 x3_1).f0).toList))=false:=Bool.eq_false_iff.mpr c11;clear c11;have HC:=Aside0.mk H;clear H)))
    all_goals (first|(refine tk_ (i:=13) (N:=some 34) (r10_Right.tk 14) HT_ HW_ hHeld ?_)|(refine pn_ (i:=13) (N:=some 34) (r10_Right.tk 14) HT_ ?_))
    all_goals (first|(refine pu_ (i:=14) (N:=some 35) (r10_Right.tk 15) HT_ ?_)|(refine pn_ (i:=14) (N:=some 35) (r10_Right.tk 15) HT_ ?_))
    all_goals (first|(refine tk_ (i:=15) (N:=some 36) (r10_Right.tk 16) HT_ HW_ hHeld ?_)|(refine pn_ (i:=15) (N:=some 36) (r10_Right.tk 16) HT_ ?_))
    all_goals (first|(refine pu_ (i:=16) (N:=some 37) (r10_Right.tk 17) HT_ ?_)|(refine pn_ (i:=16) (N:=some 37) (r10_Right.tk 17) HT_ ?_))
    all_goals (first|(refine pu_ (i:=17) (N:=some 38) (r10_Right.tk 18) HT_ ?_)|(refine pn_ (i:=17) (N:=some 38) (r10_Right.tk 18) HT_ ?_))
    all_goals (refine pu_ (i:=18) (N:=some 39) (r10_Right.tk 19) HT_ ?_)
    all_goals (refine pu_ (i:=19) (N:=some 40) (r10_Right.tk 20) HT_ ?_)
    all_goals (try (have H:=HC.out;obtain ⟨t5,A120,H2⟩:=Option.bind_eq_some_iff.mp H;clear H HC;have A12:=Aside0.mk A120;clear A120;have HC:=Aside0.mk H2;clear H2))
    all_goals (first|(refine pu_ (i:=20) (N:=some 41) (r10_Right.tk 21) HT_ ?_)|(refine pn_ (i:=20) (N:=some 41) (r10_Right.tk 21) HT_ ?_))
    all_goals (first|(refine tk_ (i:=21) (N:=some 42) (r10_Right.tk 22) HT_ HW_ hHeld ?_)|(refine pn_ (i:=21) (N:=some 42) (r10_Right.tk 22) HT_ ?_))
    all_goals (first|(refine on_ (i:=22) (N:=some 43) (r10_Right.tk 23) HT_ (fun K hK=> ?_);refine gs_ Try.func65 #[.agg #[.int .i64 ((rd_T31 l0 x3_1).f2.f0), .int .i64 ((rd_T31 l0 x3_1).f2.f1), .int .i64 ((rd_T31 l0 x3_1).f2.f2)]] ?_;with_reducible refine (r10_MayVec.calls _ _ _ _ _ A12.out).mono ?_;rintro e wx22 ⟨rfl,hb⟩;refine ⟨_,rfl, ?_⟩;have HBn:=am_ (below_step HBc.out hb);clear HBc;have HBc:=HBn;clear HBn;refine hK.out _ _ (by first|exact ⟨pw_cell_below hb hHeld.1,pw_cell_below hb hHeld.2.1,pw_cell_below hb hHeld.2.2.1,pw_cell_below hb hHeld.2.2.2.1,pw_cell_below hb hHeld.2.2.2.2.1,pw_cell_below hb hHeld.2.2.2.2.2.1,pw_cell_below hb hHeld.2.2.2.2.2.2.1,pw_cell_below hb hHeld.2.2.2.2.2.2.2.1,pw_cell_below hb hHeld.2.2.2.2.2.2.2.2.1,pw_cell_below hb hHeld.2.2.2.2.2.2.2.2.2.1,pw_cell_below hb hHeld.2.2.2.2.2.2.2.2.2.2.1,pw_cell_below hb hHeld.2.2.2.2.2.2.2.2.2.2.2.1,pw_cell_below hb hHeld.2.2.2.2.2.2.2.2.2.2.2.2⟩|exact ⟨pw_cell_below hb hHeld.1,pw_cell_below hb hHeld.2.1,pw_cell_below hb hHeld.2.2.1,pw_cell_below hb hHeld.2.2.2.1,pw_cell_below hb hHeld.2.2.2.2.1,pw_cell_below hb hHeld.2.2.2.2.2.1,pw_cell_below hb hHeld.2.2.2.2.2.2.1,pw_cell_below hb hHeld.2.2.2.2.2.2.2.1,pw_cell_below hb hHeld.2.2.2.2.2.2.2.2.1,pw_cell_below hb hHeld.2.2.2.2.2.2.2.2.2.1,pw_cell_below hb hHeld.2.2.2.2.2.2.2.2.2.2.1,pw_cell_below hb hHeld.2.2.2.2.2.2.2.2.2.2.2⟩) (fun hHeld=> ?_);clear hK K hb;refine norm_ (a':= ?_) ?_ ?_;rotate_left;(show Act.put _ (some 43) _=_;simp only [Act.put,List.setIfInBounds_toArray,List.set_cons_zero,List.set_cons_succ,i64_w,i32_w];rfl))|(refine pn_ (i:=22) (N:=some 43) (r10_Right.tk 23) HT_ ?_))
    all_goals (try (have H:=HC.out;clear HC;by_cases c13:t5=true;(case' pos=>subst c13;rw [if_pos rfl] at H;have HC:=Aside0.mk H;clear H);(case' neg=>rw [if_neg c13] at H;have q_:t5=false:=Bool.eq_false_iff.mpr c13;subst q_;clear c13;have HC:=Aside0.mk H;clear H)))
    all_goals (first|(refine pu_ (i:=23) (N:=some 44) (r10_Right.tk 24) HT_ ?_)|(refine pn_ (i:=23) (N:=some 44) (r10_Right.tk 24) HT_ ?_))
    all_goals (refine pu_ (i:=24) (N:=some 45) (r10_Right.tk 25) HT_ ?_)
    all_goals (refine pu_ (i:=25) (N:=some 46) (r10_Right.tk 26) HT_ ?_)
    all_goals (try (have H:=HC.out;obtain ⟨t6,A140,H2⟩:=Option.bind_eq_some_iff.mp H;clear H HC;have A14:=Aside0.mk A140;clear A140;have HC:=Aside0.mk H2;clear H2))
    all_goals (first|(refine pu_ (i:=26) (N:=some 47) (r10_Right.tk 27) HT_ ?_)|(refine pn_ (i:=26) (N:=some 47) (r10_Right.tk 27) HT_ ?_))
    all_goals (first|(refine tk_ (i:=27) (N:=some 48) (r10_Right.tk 28) HT_ HW_ hHeld ?_)|(refine pn_ (i:=27) (N:=some 48) (r10_Right.tk 28) HT_ ?_))
    all_goals (first|(refine on_ (i:=28) (N:=some 49) (r10_Right.tk 29) HT_ (fun K hK=> ?_);refine gs_ Try.func65 #[.agg #[.int .i64 ((rd_T31 l0 x3_1).f3.f0), .int .i64 ((rd_T31 l0 x3_1).f3.f1), .int .i64 ((rd_T31 l0 x3_1).f3.f2)]] ?_;with_reducible refine (r10_MayVec.calls _ _ _ _ _ A14.out).mono ?_;rintro e wx28 ⟨rfl,hb⟩;refine ⟨_,rfl, ?_⟩;have HBn:=am_ (below_step HBc.out hb);clear HBc;have HBc:=HBn;clear HBn;refine hK.out _ _ (by first|exact ⟨pw_cell_below hb hHeld.1,pw_cell_below hb hHeld.2.1,pw_cell_below hb hHeld.2.2.1,pw_cell_below hb hHeld.2.2.2.1,pw_cell_below hb hHeld.2.2.2.2.1,pw_cell_below hb hHeld.2.2.2.2.2.1,pw_cell_below hb hHeld.2.2.2.2.2.2.1,pw_cell_below hb hHeld.2.2.2.2.2.2.2.1,pw_cell_below hb hHeld.2.2.2.2.2.2.2.2.1,pw_cell_below hb hHeld.2.2.2.2.2.2.2.2.2.1,pw_cell_below hb hHeld.2.2.2.2.2.2.2.2.2.2.1,pw_cell_below hb hHeld.2.2.2.2.2.2.2.2.2.2.2.1,pw_cell_below hb hHeld.2.2.2.2.2.2.2.2.2.2.2.2⟩|exact ⟨pw_cell_below hb hHeld.1,pw_cell_below hb hHeld.2.1,pw_cell_below hb hHeld.2.2.1,pw_cell_below hb hHeld.2.2.2.1,pw_cell_below hb hHeld.2.2.2.2.1,pw_cell_below hb hHeld.2.2.2.2.2.1,pw_cell_below hb hHeld.2.2.2.2.2.2.1,pw_cell_below hb hHeld.2.2.2.2.2.2.2.1,pw_cell_below hb hHeld.2.2.2.2.2.2.2.2.1,pw_cell_below hb hHeld.2.2.2.2.2.2.2.2.2.1,pw_cell_below hb hHeld.2.2.2.2.2.2.2.2.2.2.1,pw_cell_below hb hHeld.2.2.2.2.2.2.2.2.2.2.2⟩) (fun hHeld=> ?_);clear hK K hb;refine norm_ (a':= ?_) ?_ ?_;rotate_left;(show Act.put _ (some 49) _=_;simp only [Act.put,List.setIfInBounds_toArray,List.set_cons_zero,List.set_cons_succ,i64_w,i32_w];rfl))|(refine pn_ (i:=28) (N:=some 49) (r10_Right.tk 29) HT_ ?_))
    all_goals (try (have H:=HC.out;clear HC;by_cases c15:t6=true;(case' pos=>subst c15;rw [if_pos rfl] at H;have HC:=Aside0.mk H;clear H);(case' neg=>rw [if_neg c15] at H;have q_:t6=false:=Bool.eq_false_iff.mpr c15;subst q_;clear c15;have HC:=Aside0.mk H;clear H)))
    all_goals (first|(refine pu_ (i:=29) (N:=some 50) (r10_Right.tk 30) HT_ ?_)|(refine pn_ (i:=29) (N:=some 50) (r10_Right.tk 30) HT_ ?_))
    all_goals (refine pu_ (i:=30) (N:=some 51) (r10_Right.tk 31) HT_ ?_)
    all_goals (refine pu_ (i:=31) (N:=some 52) (r10_Right.tk 32) HT_ ?_)
    all_goals (first|(refine pu_ (i:=32) (N:=some 53) (r10_Right.tk 33) HT_ ?_)|(refine pn_ (i:=32) (N:=some 53) (r10_Right.tk 33) HT_ ?_))
    all_goals (first|(refine tk_ (i:=33) (N:=some 54) (r10_Right.tk 34) HT_ HW_ hHeld ?_)|(refine pn_ (i:=33) (N:=some 54) (r10_Right.tk 34) HT_ ?_))
    all_goals (try (have H:=HC.out;clear HC;by_cases c16:((rd_T31 l0 x3_1).f1).toList=([]:List UInt8);(case' pos=>rw [if_pos c16] at H;have c16b0:(((rd_T31 l0 x3_1).f1).toList==([]:List UInt8))=true:=beq_iff_eq.mpr c16;have c16b1:(((rd_T31 l0 x3_1).f1).toList !=([]:List UInt8))=false:=bne_eq_false_iff_eq.mpr c16;have c16b2:(((rd_T31 l0 x3_1).f1).toList).isEmpty=true:=by rw [c16];rfl);(case' neg=>rw [if_neg c16] at H;have c16b0:(((rd_T31 l0 x3_1).f1).toList==([]:List UInt8))=false:=beq_eq_false_iff_ne.mpr c16;have c16b1:(((rd_T31 l0 x3_1).f1).toList !=([]:List UInt8))=true:=bne_iff_ne.mpr c16;have c16b2:(((rd_T31 l0 x3_1).f1).toList).isEmpty=false:=by simpa using c16);all_goals (clear c16;have HC:=Aside0.mk H;clear H)))
    all_goals (first|(refine pu_ (i:=34) (N:=some 55) (r10_Right.tk 35) HT_ ?_)|(refine pn_ (i:=34) (N:=some 55) (r10_Right.tk 35) HT_ ?_))
    all_goals (first|(refine pu_ (i:=35) (N:=some 56) (r10_Right.tk 36) HT_ ?_)|(refine pn_ (i:=35) (N:=some 56) (r10_Right.tk 36) HT_ ?_))
    all_goals (try (have H:=HC.out;have _hf:=c16b1;obtain ⟨t9,A220,H2⟩:=Option.bind_eq_some_iff.mp H;clear H HC;have A22:=Aside0.mk A220;clear A220;have HC:=Aside0.mk H2;clear H2))
    all_goals (first|(refine pu_ (i:=36) (N:=some 57) (r10_Right.tk 37) HT_ ?_)|(refine pn_ (i:=36) (N:=some 57) (r10_Right.tk 37) HT_ ?_))
    all_goals (first|(refine pu_ (i:=37) (N:=some 58) (r10_Right.tk 38) HT_ ?_)|(refine pn_ (i:=37) (N:=some 58) (r10_Right.tk 38) HT_ ?_))
    all_goals (first|(refine tk_ (i:=38) (N:=some 59) (r10_Right.tk 39) HT_ HW_ hHeld ?_)|(refine pn_ (i:=38) (N:=some 59) (r10_Right.tk 39) HT_ ?_))
    all_goals (first|(refine on_ (i:=39) (N:=some 60) (r10_Right.tk 40) HT_ (fun K hK=> ?_);refine gs_ Try.func50 #[.slice (some ad1) l0.length c0, .string ((rd_T31 l0 x3_1).f1)] ?_;refine (r10_Find.calls k1 _ _ l0 _ _ _ (Kd.C_below (Kd.C_below HR0.out HB.out) HBc.out) HC0.out A22.out).mono ?_;rintro e wx39 ⟨rfl,hd⟩;have hb:=hd.below;clear hd;refine ⟨_,rfl, ?_⟩;have HBn:=am_ (below_step HBc.out hb);clear HBc;have HBc:=HBn;clear HBn;refine hK.out _ _ (by first|exact ⟨pw_cell_below hb hHeld.1,pw_cell_below hb hHeld.2.1,pw_cell_below hb hHeld.2.2.1,pw_cell_below hb hHeld.2.2.2.1,pw_cell_below hb hHeld.2.2.2.2.1,pw_cell_below hb hHeld.2.2.2.2.2.1,pw_cell_below hb hHeld.2.2.2.2.2.2.1,pw_cell_below hb hHeld.2.2.2.2.2.2.2.1,pw_cell_below hb hHeld.2.2.2.2.2.2.2.2.1,pw_cell_below hb hHeld.2.2.2.2.2.2.2.2.2.1,pw_cell_below hb hHeld.2.2.2.2.2.2.2.2.2.2.1,pw_cell_below hb hHeld.2.2.2.2.2.2.2.2.2.2.2.1,pw_cell_below hb hHeld.2.2.2.2.2.2.2.2.2.2.2.2⟩|exact ⟨pw_cell_below hb hHeld.1,pw_cell_below hb hHeld.2.1,pw_cell_below hb hHeld.2.2.1,pw_cell_below hb hHeld.2.2.2.1,pw_cell_below hb hHeld.2.2.2.2.1,pw_cell_below hb hHeld.2.2.2.2.2.1,pw_cell_below hb hHeld.2.2.2.2.2.2.1,pw_cell_below hb hHeld.2.2.2.2.2.2.2.1,pw_cell_below hb hHeld.2.2.2.2.2.2.2.2.1,pw_cell_below hb hHeld.2.2.2.2.2.2.2.2.2.1,pw_cell_below hb hHeld.2.2.2.2.2.2.2.2.2.2.1,pw_cell_below hb hHeld.2.2.2.2.2.2.2.2.2.2.2⟩) (fun hHeld=> ?_);clear hK K hb;refine norm_ (a':= ?_) ?_ ?_;rotate_left;(show Act.put _ (some 60) _=_;simp only [Act.put,List.setIfInBounds_toArray,List.set_cons_zero,List.set_cons_succ,i64_w,i32_w];rfl))|(refine pn_ (i:=39) (N:=some 60) (r10_Right.tk 40) HT_ ?_))
    all_goals (try (have H:=HC.out;clear HC;by_cases c23:t9<0;(case' pos=>rw [if_pos c23] at H;have c23b0:decide (t9<0)=true:=decide_eq_true c23;clear c23;have HC:=Aside0.mk H;clear H);(case' neg=>rw [if_neg c23] at H;have c23b0:decide (t9<0)=false:=decide_eq_false c23;clear c23;have HC:=Aside0.mk H;clear H)))
    all_goals (first|(refine pu_ (i:=40) (N:=some 61) (r10_Right.tk 41) HT_ ?_)|(refine pn_ (i:=40) (N:=some 61) (r10_Right.tk 41) HT_ ?_))
    all_goals (first|(refine pu_ (i:=41) (N:=some 62) (r10_Right.tk 42) HT_ ?_)|(refine pn_ (i:=41) (N:=some 62) (r10_Right.tk 42) HT_ ?_))
    all_goals (refine pu_ (i:=42) (N:=some 63) (r10_Right.tk 43) HT_ ?_)
    all_goals (refine pu_ (i:=43) (N:=some 64) (r10_Right.tk 44) HT_ ?_)
    all_goals (first|(refine pu_ (i:=44) (N:=some 65) (r10_Right.tk 45) HT_ ?_)|(refine pn_ (i:=44) (N:=some 65) (r10_Right.tk 45) HT_ ?_))
    all_goals (first|(refine tk_ (i:=45) (N:=some 66) (r10_Right.tk 46) HT_ HW_ hHeld ?_)|(refine pn_ (i:=45) (N:=some 66) (r10_Right.tk 46) HT_ ?_))
    all_goals (try (have H:=HC.out;clear HC;by_cases c17:(rd_T31 l0 x3_1).f5<1;(case' pos=>rw [if_pos c17] at H;have c17b0:decide ((rd_T31 l0 x3_1).f5<1)=true:=decide_eq_true c17;clear c17;have HC:=Aside0.mk H;clear H);(case' neg=>rw [if_neg c17] at H;have c17b0:decide ((rd_T31 l0 x3_1).f5<1)=false:=decide_eq_false c17;clear c17;have HC:=Aside0.mk H;clear H)))
    all_goals (first|(refine pu_ (i:=46) (N:=some 67) (r10_Right.tk 47) HT_ ?_)|(refine pn_ (i:=46) (N:=some 67) (r10_Right.tk 47) HT_ ?_))
    all_goals (refine pu_ (i:=47) (N:=some 68) (r10_Right.tk 48) HT_ ?_)
    all_goals (refine pu_ (i:=48) (N:=some 69) (r10_Right.tk 49) HT_ ?_)
    all_goals (first|(refine pu_ (i:=49) (N:=some 70) (r10_Right.tk 50) HT_ ?_)|(refine pn_ (i:=49) (N:=some 70) (r10_Right.tk 50) HT_ ?_))
    all_goals (first|(refine tk_ (i:=50) (N:=some 71) (r10_Right.tk 51) HT_ HW_ hHeld ?_)|(refine pn_ (i:=50) (N:=some 71) (r10_Right.tk 51) HT_ ?_))
    all_goals (try (have H:=HC.out;clear HC;by_cases c18:(rd_T31 l0 x3_1).f5>9007199254740992;(case' pos=>rw [if_pos c18] at H;have c18b0:decide (9007199254740992<(rd_T31 l0 x3_1).f5)=true:=decide_eq_true c18;clear c18;have HC:=Aside0.mk H;clear H);(case' neg=>rw [if_neg c18] at H;have c18b0:decide (9007199254740992<(rd_T31 l0 x3_1).f5)=false:=decide_eq_false c18;clear c18;have HC:=Aside0.mk H;clear H)))
    all_goals (first|(refine pu_ (i:=51) (N:=some 72) (r10_Right.tk 52) HT_ ?_)|(refine pn_ (i:=51) (N:=some 72) (r10_Right.tk 52) HT_ ?_))
    all_goals (refine pu_ (i:=52) (N:=some 73) (r10_Right.tk 53) HT_ ?_)
    all_goals (refine pu_ (i:=53) (N:=some 74) (r10_Right.tk 54) HT_ ?_)
    all_goals (try (have H:=HC.out;obtain ⟨t7,A390,H2⟩:=Option.bind_eq_some_iff.mp H;clear H HC;have A39:=Aside0.mk A390;clear A390;have HC:=Aside0.mk H2;clear H2))
    all_goals (first|(refine pu_ (i:=54) (N:=some 75) (r10_Right.tk 55) HT_ ?_)|(refine pn_ (i:=54) (N:=some 75) (r10_Right.tk 55) HT_ ?_))
    all_goals (first|(refine tk_ (i:=55) (N:=some 76) (r10_Right.tk 56) HT_ HW_ hHeld ?_)|(refine pn_ (i:=55) (N:=some 76) (r10_Right.tk 56) HT_ ?_))
    all_goals (first|(refine pu_ (i:=56) (N:=some 77) (r10_Right.tk 57) HT_ ?_)|(refine pn_ (i:=56) (N:=some 77) (r10_Right.tk 57) HT_ ?_))
    all_goals (first|(refine tk_ (i:=57) (N:=some 78) (r10_Right.tk 58) HT_ HW_ hHeld ?_)|(refine pn_ (i:=57) (N:=some 78) (r10_Right.tk 58) HT_ ?_))
    all_goals (first|(refine on_ (i:=58) (N:=some 79) (r10_Right.tk 59) HT_ (fun K hK=> ?_);refine gs_ Try.func34 #[.agg #[.int .i64 ((rd_T31 l0 x3_1).f4.f0), .int .i64 ((rd_T31 l0 x3_1).f4.f1), .int .i64 ((rd_T31 l0 x3_1).f4.f2)], .agg #[.int .i64 ((rd_T31 l0 x3_1).f2.f0), .int .i64 ((rd_T31 l0 x3_1).f2.f1), .int .i64 ((rd_T31 l0 x3_1).f2.f2)]] ?_;with_reducible refine (r10_Le.calls _ _ _ _ _ _ _ _ A39.out).mono ?_;rintro e wx58 ⟨rfl,hb⟩;refine ⟨_,rfl, ?_⟩;have HBn:=am_ (below_step HBc.out hb);clear HBc;have HBc:=HBn;clear HBn;refine hK.out _ _ (by first|exact ⟨pw_cell_below hb hHeld.1,pw_cell_below hb hHeld.2.1,pw_cell_below hb hHeld.2.2.1,pw_cell_below hb hHeld.2.2.2.1,pw_cell_below hb hHeld.2.2.2.2.1,pw_cell_below hb hHeld.2.2.2.2.2.1,pw_cell_below hb hHeld.2.2.2.2.2.2.1,pw_cell_below hb hHeld.2.2.2.2.2.2.2.1,pw_cell_below hb hHeld.2.2.2.2.2.2.2.2.1,pw_cell_below hb hHeld.2.2.2.2.2.2.2.2.2.1,pw_cell_below hb hHeld.2.2.2.2.2.2.2.2.2.2.1,pw_cell_below hb hHeld.2.2.2.2.2.2.2.2.2.2.2.1,pw_cell_below hb hHeld.2.2.2.2.2.2.2.2.2.2.2.2⟩|exact ⟨pw_cell_below hb hHeld.1,pw_cell_below hb hHeld.2.1,pw_cell_below hb hHeld.2.2.1,pw_cell_below hb hHeld.2.2.2.1,pw_cell_below hb hHeld.2.2.2.2.1,pw_cell_below hb hHeld.2.2.2.2.2.1,pw_cell_below hb hHeld.2.2.2.2.2.2.1,pw_cell_below hb hHeld.2.2.2.2.2.2.2.1,pw_cell_below hb hHeld.2.2.2.2.2.2.2.2.1,pw_cell_below hb hHeld.2.2.2.2.2.2.2.2.2.1,pw_cell_below hb hHeld.2.2.2.2.2.2.2.2.2.2.1,pw_cell_below hb hHeld.2.2.2.2.2.2.2.2.2.2.2⟩) (fun hHeld=> ?_);clear hK K hb;refine norm_ (a':= ?_) ?_ ?_;rotate_left;(show Act.put _ (some 79) _=_;simp only [Act.put,List.setIfInBounds_toArray,List.set_cons_zero,List.set_cons_succ,i64_w,i32_w];rfl))|(refine pn_ (i:=58) (N:=some 79) (r10_Right.tk 59) HT_ ?_))
    all_goals (try (have H:=HC.out;clear HC;by_cases c40:t7=true;(case' pos=>subst c40;rw [if_pos rfl] at H;have HC:=Aside0.mk H;clear H);(case' neg=>rw [if_neg c40] at H;have q_:t7=false:=Bool.eq_false_iff.mpr c40;subst q_;clear c40;have HC:=Aside0.mk H;clear H)))
    all_goals (first|(refine pu_ (i:=59) (N:=some 80) (r10_Right.tk 60) HT_ ?_)|(refine pn_ (i:=59) (N:=some 80) (r10_Right.tk 60) HT_ ?_))
    all_goals (refine pu_ (i:=60) (N:=some 81) (r10_Right.tk 61) HT_ ?_)
    all_goals (refine pu_ (i:=61) (N:=some 82) (r10_Right.tk 62) HT_ ?_)
    all_goals (try (have H:=HC.out;obtain ⟨t8,A580,H2⟩:=Option.bind_eq_some_iff.mp H;clear H HC;have A58:=Aside0.mk A580;clear A580;have HC:=Aside0.mk H2;clear H2))
    all_goals (first|(refine pu_ (i:=62) (N:=some 83) (r10_Right.tk 63) HT_ ?_)|(refine pn_ (i:=62) (N:=some 83) (r10_Right.tk 63) HT_ ?_))
    all_goals (first|(refine tk_ (i:=63) (N:=some 84) (r10_Right.tk 64) HT_ HW_ hHeld ?_)|(refine pn_ (i:=63) (N:=some 84) (r10_Right.tk 64) HT_ ?_))
    all_goals (first|(refine on_ (i:=64) (N:=some 85) (r10_Right.tk 65) HT_ (fun K hK=> ?_);refine gs_ Try.func65 #[.agg #[.int .i64 ((rd_T31 l0 x3_1).f4.f0), .int .i64 ((rd_T31 l0 x3_1).f4.f1), .int .i64 ((rd_T31 l0 x3_1).f4.f2)]] ?_;with_reducible refine (r10_MayVec.calls _ _ _ _ _ A58.out).mono ?_;rintro e wx64 ⟨rfl,hb⟩;refine ⟨_,rfl, ?_⟩;have HBn:=am_ (below_step HBc.out hb);clear HBc;have HBc:=HBn;clear HBn;refine hK.out _ _ (by first|exact ⟨pw_cell_below hb hHeld.1,pw_cell_below hb hHeld.2.1,pw_cell_below hb hHeld.2.2.1,pw_cell_below hb hHeld.2.2.2.1,pw_cell_below hb hHeld.2.2.2.2.1,pw_cell_below hb hHeld.2.2.2.2.2.1,pw_cell_below hb hHeld.2.2.2.2.2.2.1,pw_cell_below hb hHeld.2.2.2.2.2.2.2.1,pw_cell_below hb hHeld.2.2.2.2.2.2.2.2.1,pw_cell_below hb hHeld.2.2.2.2.2.2.2.2.2.1,pw_cell_below hb hHeld.2.2.2.2.2.2.2.2.2.2.1,pw_cell_below hb hHeld.2.2.2.2.2.2.2.2.2.2.2.1,pw_cell_below hb hHeld.2.2.2.2.2.2.2.2.2.2.2.2⟩|exact ⟨pw_cell_below hb hHeld.1,pw_cell_below hb hHeld.2.1,pw_cell_below hb hHeld.2.2.1,pw_cell_below hb hHeld.2.2.2.1,pw_cell_below hb hHeld.2.2.2.2.1,pw_cell_below hb hHeld.2.2.2.2.2.1,pw_cell_below hb hHeld.2.2.2.2.2.2.1,pw_cell_below hb hHeld.2.2.2.2.2.2.2.1,pw_cell_below hb hHeld.2.2.2.2.2.2.2.2.1,pw_cell_below hb hHeld.2.2.2.2.2.2.2.2.2.1,pw_cell_below hb hHeld.2.2.2.2.2.2.2.2.2.2.1,pw_cell_below hb hHeld.2.2.2.2.2.2.2.2.2.2.2⟩) (fun hHeld=> ?_);clear hK K hb;refine norm_ (a':= ?_) ?_ ?_;rotate_left;(show Act.put _ (some 85) _=_;simp only [Act.put,List.setIfInBounds_toArray,List.set_cons_zero,List.set_cons_succ,i64_w,i32_w];rfl))|(refine pn_ (i:=64) (N:=some 85) (r10_Right.tk 65) HT_ ?_))
    all_goals (try (have H:=HC.out;clear HC;by_cases c59:t8=true;(case' pos=>subst c59;rw [if_pos rfl] at H;have HC:=Aside0.mk H;clear H);(case' neg=>rw [if_neg c59] at H;have q_:t8=false:=Bool.eq_false_iff.mpr c59;subst q_;clear c59;have HC:=Aside0.mk H;clear H)))
    all_goals (first|(refine pu_ (i:=65) (N:=some 86) (r10_Right.tk 66) HT_ ?_)|(refine pn_ (i:=65) (N:=some 86) (r10_Right.tk 66) HT_ ?_))
    all_goals (refine pu_ (i:=66) (N:=some 87) (r10_Right.tk 67) HT_ ?_)
    all_goals (refine done_ (done_of HT_.out (by kernel_rfl)) ?_;try go_wp2)
    all_goals (first|(obtain rfl:=Option.some.inj HC.out;go_wp2;go_ret;exact ⟨rfl,below_step HB.out HBc.out⟩)|(go_roundg k1;(case measure=>have:=HK1.out;omega);(case rel=>exact ⟨(wrap64 (x3_1+1)),(by first|rfl|(simp;done)|(simp [*];done)),HC,⟨by have:=HK1.out;omega⟩,⟨below_step HB.out HBc.out⟩⟩)))
   rw [if_neg c3] at H
   have c3b0:decide (x3_1<(l0.length:Int))=false:=decide_eq_false c3
   clear c3
   have H':=Aside0.mk H
   clear H
   go_wp2
   go_loopg [5] k1 (fun kq v5 w'=> ∃(x5_2:Int),v5= .int .i64 x5_2∧Aside0 (r10_Right.l1 kq l0 x5_2=some r)∧Aside0 (kq≤k1)∧Aside0 (Below w.heap.size w w'))
   case atStart=>exact ⟨(0),(by first|rfl|(simp;done)|(simp [*];done)),H',⟨Nat.le_refl _⟩,⟨zl0_ HB⟩⟩
   case round=>
    clear H'
    try clear c1
    try clear p1
    try clear q1
    try clear hx1
    try clear p2
    try clear c3
    try clear c3b0
    try clear c4
    try clear c6
    try clear c10
    try clear c105
    try clear hcz229_0
    try clear hcz229_1
    try clear hcz229_10
    try clear hcz229_11
    try clear hcz229_2
    try clear hcz229_3
    try clear hcz229_4
    try clear hcz229_5
    try clear hcz229_6
    try clear hcz229_7
    try clear hcz229_8
    try clear hcz229_9
    try clear hfz229_0
    try clear hfz229_1
    try clear hfz229_10
    try clear hfz229_11
    try clear hfz229_2
    try clear hfz229_3
    try clear hfz229_4
    try clear hfz229_5
    try clear hfz229_6
    try clear hfz229_7
    try clear hfz229_8
    try clear hfz229_9
    try clear hx1_0
    try clear hx1_1
    try clear hx1_10
    try clear hx1_11
    try clear hx1_2
    try clear hx1_3
    try clear hx1_4
    try clear hx1_5
    try clear hx1_6
    try clear hx1_7
    try clear hx1_8
    try clear hx1_9
    try clear p1
    try clear q1
    obtain ⟨x5_2,rfl,HA,HK2,HB⟩:=hrel
    cases gk with
    |zero=>exact absurd HA.out (by simp [r10_Right.l1])
    |succ k2=>
     have H:=HA.out
     clear HA
     simp only [r10_Right.l1] at H
     by_cases c232:x5_2<(l0.length:Int)
     rotate_left
     ·rw [if_neg c232] at H
      have c232b0:decide (x5_2<(l0.length:Int))=false:=decide_eq_false c232
      clear c232
      obtain rfl:=Option.some.inj H
      go_wp2
      go_ret
      exact ⟨by first|rfl|(simp [errW_none,errW_some]<;>rfl)|(simp [*,errW_none,errW_some]<;>rfl),zl0_ HB⟩

     rw [if_pos c232] at H
     have c232b0:decide (x5_2<(l0.length:Int))=true:=decide_eq_true c232
     clear c232
     by_cases c233:0≤x5_2
     rotate_left
     ·rw [if_neg c233] at H
      exact absurd H (by simp)
     rw [if_pos c233] at H
     have c233b0:decide (0≤x5_2)=true:=decide_eq_true c233
     clear c233
     have H':=Aside0.mk H
     clear H
     have p19:0≤(x5_2:Int):=of_decide_eq_true zq_
     have q19:x5_2<(l0.length:Int):=of_decide_eq_true zq_
     obtain ⟨ad19,e19,hx19_0,hx19_1,hx19_2,hx19_3,hx19_4,hx19_5,hx19_6,hx19_7,hx19_8,hx19_9,hx19_10,hx19_11⟩:=at_T31 HR0.out x5_2 p19 q19
     cases e19
     replace hx19_0:=zx_ HB hx19_0
     replace hx19_1:=zx_ HB hx19_1
     replace hx19_2:=zx_ HB hx19_2
     replace hx19_3:=zx_ HB hx19_3
     replace hx19_4:=zx_ HB hx19_4
     replace hx19_5:=zx_ HB hx19_5
     replace hx19_6:=zx_ HB hx19_6
     replace hx19_7:=zx_ HB hx19_7
     replace hx19_8:=zx_ HB hx19_8
     replace hx19_9:=zx_ HB hx19_9
     replace hx19_10:=zx_ HB hx19_10
     replace hx19_11:=zx_ HB hx19_11
     replace p19:=eq_true p19
     replace q19:=eq_true q19
     go_wp2_with (first|((with_reducible refine gate_dst (N:=6) rfl ?_);(try (refine gate_guard (by rfl) ?_;dsimp only));refine bx_ (N:=6) (cs:=#[.int .i64 0, .int .i64 0, .int .i64 0]) (t:=27) ?_;intro gb20 hg w234 hbox hb;have BK20:=am_ (hbox);have GW20:=am_ ((zg0_ HB hg:w.heap.size≤gb20));have GE20:=am_ ((zg0_ HB hg:w.heap.size≤gb20));replace HB:=am_ (below_step (zl0_ HB) hb);clear hb hbox hg;obtain ⟨hcz235_0,hcz235_1,hcz235_2⟩:=x3_ BK20;have hfz235_0:=blk_frozen BK20.out 0;have hfz235_1:=blk_frozen BK20.out 1;have hfz235_2:=blk_frozen BK20.out 2))
     go_loopg [7] k2 (fun kq v7 w'=> ∃(x7_3:Int) (x21000_3:Int) (x21001_3:Int) (x21002_3:Int),v7= .int .i64 x7_3∧Aside0 (r10_Right.l2 kq l0 x5_2 x7_3 x21000_3 x21001_3 x21002_3=some r)∧Aside0 (kq≤k2)∧Aside0 (w'.heap[gb20]?=some (.cells #[.int .i64 x21000_3, .int .i64 x21001_3, .int .i64 x21002_3] 27 (0,0)))∧Aside0 (Below w.heap.size w w'))
     case atStart=>exact ⟨(0),((rd_T31 l0 x5_2).f3.f0),((rd_T31 l0 x5_2).f3.f1),((rd_T31 l0 x5_2).f3.f2),(by first|rfl|(simp;done)|(simp [*];done)),H',⟨Nat.le_refl _⟩,⟨zw_ BK20⟩,⟨zl1_ HB GE20⟩⟩
     case round=>
      clear H'
      try clear c1
      try clear p1
      try clear q1
      try clear hx1
      try clear c2
      try clear p2
      try clear c3
      try clear c3b0
      try clear c4
      try clear c6
      try clear c10
      try clear p19
      try clear q19
      try clear hx19
      try clear c23
      try clear c105
      try clear c232
      try clear c232b0
      try clear c233
      try clear c233b0
      try clear hcz229_0
      try clear hcz229_1
      try clear hcz229_10
      try clear hcz229_11
      try clear hcz229_2
      try clear hcz229_3
      try clear hcz229_4
      try clear hcz229_5
      try clear hcz229_6
      try clear hcz229_7
      try clear hcz229_8
      try clear hcz229_9
      try clear hcz235_0
      try clear hcz235_1
      try clear hcz235_2
      try clear hfz229_0
      try clear hfz229_1
      try clear hfz229_10
      try clear hfz229_11
      try clear hfz229_2
      try clear hfz229_3
      try clear hfz229_4
      try clear hfz229_5
      try clear hfz229_6
      try clear hfz229_7
      try clear hfz229_8
      try clear hfz229_9
      try clear hfz235_0
      try clear hfz235_1
      try clear hfz235_2
      try clear hx19_0
      try clear hx19_1
      try clear hx19_10
      try clear hx19_11
      try clear hx19_2
      try clear hx19_3
      try clear hx19_4
      try clear hx19_5
      try clear hx19_6
      try clear hx19_7
      try clear hx19_8
      try clear hx19_9
      try clear hx1_0
      try clear hx1_1
      try clear hx1_10
      try clear hx1_11
      try clear hx1_2
      try clear hx1_3
      try clear hx1_4
      try clear hx1_5
      try clear hx1_6
      try clear hx1_7
      try clear hx1_8
      try clear hx1_9
      try clear p1
      try clear p19
      try clear p2
      try clear q1
      try clear q19
      obtain ⟨x7_3,x21000_3,x21001_3,x21002_3,rfl,HA,HK3,BK20,HB⟩:=hrel
      cases gk with
      |zero=>exact absurd HA.out (by simp [r10_Right.l2])
      |succ k3=>
       have H:=HA.out
       clear HA
       simp only [r10_Right.l2] at H
       by_cases c236:x7_3<(l0.length:Int)
       ·rw [if_pos c236] at H
        have c236b0:decide (x7_3<(l0.length:Int))=true:=decide_eq_true c236
        clear c236
        by_cases c237:0≤x7_3
        rotate_left
        ·rw [if_neg c237] at H
         exact absurd H (by simp)
        rw [if_pos c237] at H
        have c237b0:decide (0≤x7_3)=true:=decide_eq_true c237
        clear c237
        by_cases c238:0≤x5_2
        rotate_left
        ·rw [if_neg c238] at H
         exact absurd H (by simp)
        rw [if_pos c238] at H
        have c238b0:decide (0≤x5_2)=true:=decide_eq_true c238
        clear c238
        by_cases c239:x5_2<(l0.length:Int)
        rotate_left
        ·rw [if_neg c239] at H
         exact absurd H (by simp)
        rw [if_pos c239] at H
        have c239b0:decide (x5_2<(l0.length:Int))=true:=decide_eq_true c239
        clear c239
        by_cases c240:((rd_T31 l0 x7_3).f1).toList=((rd_T31 l0 x5_2).f0).toList
        rotate_left
        ·rw [if_neg c240] at H
         have c240b0:(((rd_T31 l0 x7_3).f1).toList==((rd_T31 l0 x5_2).f0).toList)=false:=beq_eq_false_iff_ne.mpr c240
         have c240b1:(((rd_T31 l0 x7_3).f1).toList !=((rd_T31 l0 x5_2).f0).toList)=true:=bne_iff_ne.mpr c240
         have H':=Aside0.mk H
         clear H
         try go_wp2
         replace BK20:=am_ (blk_drew BK20.out)
         replace HB:=am_ (below_drew1 HB.out)
         have p21:0≤(x7_3:Int):=of_decide_eq_true zq_
         have q21:x7_3<(l0.length:Int):=of_decide_eq_true zq_
         obtain ⟨ad21,e21,hx21_0,hx21_1,hx21_2,hx21_3,hx21_4,hx21_5,hx21_6,hx21_7,hx21_8,hx21_9,hx21_10,hx21_11⟩:=at_T31 HR0.out x7_3 p21 q21
         have hw21_11:=hx21_11
         have hw21_10:=hx21_10
         have hw21_9:=hx21_9
         have hw21_8:=hx21_8
         have hw21_7:=hx21_7
         have hw21_6:=hx21_6
         have hw21_5:=hx21_5
         have hw21_4:=hx21_4
         have hw21_3:=hx21_3
         have hw21_2:=hx21_2
         have hw21_1:=hx21_1
         have hw21_0:=hx21_0
         obtain rfl:ad19=ad21:=(by injection e21)
         replace hx21_0:=zx_ HB hx21_0
         replace hx21_1:=zx_ HB hx21_1
         replace hx21_2:=zx_ HB hx21_2
         replace hx21_3:=zx_ HB hx21_3
         replace hx21_4:=zx_ HB hx21_4
         replace hx21_5:=zx_ HB hx21_5
         replace hx21_6:=zx_ HB hx21_6
         replace hx21_7:=zx_ HB hx21_7
         replace hx21_8:=zx_ HB hx21_8
         replace hx21_9:=zx_ HB hx21_9
         replace hx21_10:=zx_ HB hx21_10
         replace hx21_11:=zx_ HB hx21_11
         replace p21:=eq_true p21
         replace q21:=eq_true q21
         have p22:0≤(x5_2:Int):=of_decide_eq_true zq_
         have q22:x5_2<(l0.length:Int):=of_decide_eq_true zq_
         obtain ⟨ad22,e22,hx22_0,hx22_1,hx22_2,hx22_3,hx22_4,hx22_5,hx22_6,hx22_7,hx22_8,hx22_9,hx22_10,hx22_11⟩:=at_T31 HR0.out x5_2 p22 q22
         have hw22_11:=hx22_11
         have hw22_10:=hx22_10
         have hw22_9:=hx22_9
         have hw22_8:=hx22_8
         have hw22_7:=hx22_7
         have hw22_6:=hx22_6
         have hw22_5:=hx22_5
         have hw22_4:=hx22_4
         have hw22_3:=hx22_3
         have hw22_2:=hx22_2
         have hw22_1:=hx22_1
         have hw22_0:=hx22_0
         obtain rfl:ad19=ad22:=(by injection e22)
         replace hx22_0:=zx_ HB hx22_0
         replace hx22_1:=zx_ HB hx22_1
         replace hx22_2:=zx_ HB hx22_2
         replace hx22_3:=zx_ HB hx22_3
         replace hx22_4:=zx_ HB hx22_4
         replace hx22_5:=zx_ HB hx22_5
         replace hx22_6:=zx_ HB hx22_6
         replace hx22_7:=zx_ HB hx22_7
         replace hx22_8:=zx_ HB hx22_8
         replace hx22_9:=zx_ HB hx22_9
         replace hx22_10:=zx_ HB hx22_10
         replace hx22_11:=zx_ HB hx22_11
         replace p22:=eq_true p22
         replace q22:=eq_true q22
         refine start_ (n:=11) (S:=fun w'=>w'.cell? (ad19.add ((x7_3).toNat*12))=some (.string ((rd_T31 l0 x7_3).f0))∧w'.cell? ⟨(ad19.add ((x7_3).toNat*12)).block,(ad19.add ((x7_3).toNat*12)).off+1,none⟩=some (.string ((rd_T31 l0 x7_3).f1))∧w'.cell? ⟨(ad19.add ((x7_3).toNat*12)).block,(ad19.add ((x7_3).toNat*12)).off+2,none⟩=some (.int .i64 ((rd_T31 l0 x7_3).f2.f0))∧w'.cell? ⟨(ad19.add ((x7_3).toNat*12)).block,(ad19.add ((x7_3).toNat*12)).off+3,none⟩=some (.int .i64 ((rd_T31 l0 x7_3).f2.f1))∧w'.cell? ⟨(ad19.add ((x7_3).toNat*12)).block,(ad19.add ((x7_3).toNat*12)).off+4,none⟩=some (.int .i64 ((rd_T31 l0 x7_3).f2.f2))∧w'.cell? ⟨(ad19.add ((x7_3).toNat*12)).block,(ad19.add ((x7_3).toNat*12)).off+5,none⟩=some (.int .i64 ((rd_T31 l0 x7_3).f3.f0))∧w'.cell? ⟨(ad19.add ((x7_3).toNat*12)).block,(ad19.add ((x7_3).toNat*12)).off+6,none⟩=some (.int .i64 ((rd_T31 l0 x7_3).f3.f1))∧w'.cell? ⟨(ad19.add ((x7_3).toNat*12)).block,(ad19.add ((x7_3).toNat*12)).off+7,none⟩=some (.int .i64 ((rd_T31 l0 x7_3).f3.f2))∧w'.cell? ⟨(ad19.add ((x7_3).toNat*12)).block,(ad19.add ((x7_3).toNat*12)).off+8,none⟩=some (.int .i64 ((rd_T31 l0 x7_3).f4.f0))∧w'.cell? ⟨(ad19.add ((x7_3).toNat*12)).block,(ad19.add ((x7_3).toNat*12)).off+9,none⟩=some (.int .i64 ((rd_T31 l0 x7_3).f4.f1))∧w'.cell? ⟨(ad19.add ((x7_3).toNat*12)).block,(ad19.add ((x7_3).toNat*12)).off+10,none⟩=some (.int .i64 ((rd_T31 l0 x7_3).f4.f2))∧w'.cell? ⟨(ad19.add ((x7_3).toNat*12)).block,(ad19.add ((x7_3).toNat*12)).off+11,none⟩=some (.int .i64 ((rd_T31 l0 x7_3).f5))∧w'.cell? (ad19.add ((x5_2).toNat*12))=some (.string ((rd_T31 l0 x5_2).f0))∧w'.cell? ⟨(ad19.add ((x5_2).toNat*12)).block,(ad19.add ((x5_2).toNat*12)).off+1,none⟩=some (.string ((rd_T31 l0 x5_2).f1))∧w'.cell? ⟨(ad19.add ((x5_2).toNat*12)).block,(ad19.add ((x5_2).toNat*12)).off+2,none⟩=some (.int .i64 ((rd_T31 l0 x5_2).f2.f0))∧w'.cell? ⟨(ad19.add ((x5_2).toNat*12)).block,(ad19.add ((x5_2).toNat*12)).off+3,none⟩=some (.int .i64 ((rd_T31 l0 x5_2).f2.f1))∧w'.cell? ⟨(ad19.add ((x5_2).toNat*12)).block,(ad19.add ((x5_2).toNat*12)).off+4,none⟩=some (.int .i64 ((rd_T31 l0 x5_2).f2.f2))∧w'.cell? ⟨(ad19.add ((x5_2).toNat*12)).block,(ad19.add ((x5_2).toNat*12)).off+5,none⟩=some (.int .i64 ((rd_T31 l0 x5_2).f3.f0))∧w'.cell? ⟨(ad19.add ((x5_2).toNat*12)).block,(ad19.add ((x5_2).toNat*12)).off+6,none⟩=some (.int .i64 ((rd_T31 l0 x5_2).f3.f1))∧w'.cell? ⟨(ad19.add ((x5_2).toNat*12)).block,(ad19.add ((x5_2).toNat*12)).off+7,none⟩=some (.int .i64 ((rd_T31 l0 x5_2).f3.f2))∧w'.cell? ⟨(ad19.add ((x5_2).toNat*12)).block,(ad19.add ((x5_2).toNat*12)).off+8,none⟩=some (.int .i64 ((rd_T31 l0 x5_2).f4.f0))∧w'.cell? ⟨(ad19.add ((x5_2).toNat*12)).block,(ad19.add ((x5_2).toNat*12)).off+9,none⟩=some (.int .i64 ((rd_T31 l0 x5_2).f4.f1))∧w'.cell? ⟨(ad19.add ((x5_2).toNat*12)).block,(ad19.add ((x5_2).toNat*12)).off+10,none⟩=some (.int .i64 ((rd_T31 l0 x5_2).f4.f2))∧w'.cell? ⟨(ad19.add ((x5_2).toNat*12)).block,(ad19.add ((x5_2).toNat*12)).off+11,none⟩=some (.int .i64 ((rd_T31 l0 x5_2).f5))) (ds:=[]) (bt_ 11 0) (by kernel_rfl) rfl rfl ⟨(zx_ HB hw21_0),(zx_ HB hw21_1),(zx_ HB hw21_2),(zx_ HB hw21_3),(zx_ HB hw21_4),(zx_ HB hw21_5),(zx_ HB hw21_6),(zx_ HB hw21_7),(zx_ HB hw21_8),(zx_ HB hw21_9),(zx_ HB hw21_10),(zx_ HB hw21_11),(zx_ HB hw22_0),(zx_ HB hw22_1),(zx_ HB hw22_2),(zx_ HB hw22_3),(zx_ HB hw22_4),(zx_ HB hw22_5),(zx_ HB hw22_6),(zx_ HB hw22_7),(zx_ HB hw22_8),(zx_ HB hw22_9),(zx_ HB hw22_10),(zx_ HB hw22_11)⟩ (fun hHeld=> ?_);refine with_tabW r10_Right.tab16 r10_Right.bits16 (fun HT_ HW_=> ?_)
         generalize wr.drew=w248 at BK20 HB hx21_0 hx21_1 hx21_10 hx21_11 hx21_2 hx21_3 hx21_4 hx21_5 hx21_6 hx21_7 hx21_8 hx21_9 hx22_0 hx22_1 hx22_10 hx22_11 hx22_2 hx22_3 hx22_4 hx22_5 hx22_6 hx22_7 hx22_8 hx22_9 hHeld ⊢
         refine pu_ (i:=0) (N:=some 105) (bt_ 11 1) HT_ ?_
         refine pu_ (i:=1) (N:=some 106) (bt_ 11 3) HT_ ?_
         refine pu_ (i:=2) (N:=some 107) (bt_ 11 7) HT_ ?_
         refine pu_ (i:=3) (N:=some 108) (bt_ 11 15) HT_ ?_
         refine pu_ (i:=5) (N:=some 110) (bt_ 11 47) HT_ ?_
         refine pu_ (i:=6) (N:=some 111) (bt_ 11 111) HT_ ?_
         refine pu_ (i:=7) (N:=some 112) (bt_ 11 239) HT_ ?_
         refine pu_ (i:=8) (N:=some 113) (bt_ 11 495) HT_ ?_
         refine tk_ (i:=4) (N:=some 109) (bt_ 11 511) HT_ HW_ hHeld ?_
         refine tk_ (i:=9) (N:=some 114) (bt_ 11 1023) HT_ HW_ hHeld ?_
         refine pu_ (i:=10) (N:=some 115) (bt_ 11 2047) HT_ ?_
         refine done_ (done_of HT_.out (by kernel_rfl)) ?_
         try go_wp2
         go_roundg k3
         case measure=>have:=HK1.out;have:=HK2.out;have:=HK3.out;omega
         case rel=>exact ⟨(wrap64 (x7_3+1)),(x21000_3),(x21001_3),(x21002_3),(by first|rfl|(simp;done)|(simp [*];done)),H',⟨by have:=HK1.out;have:=HK2.out;have:=HK3.out;omega⟩,⟨by refine zk_ ?_;exact BK20.out⟩,⟨zl1_ HB GE20⟩⟩
        rw [if_pos c240] at H
        have c240b0:(((rd_T31 l0 x7_3).f1).toList==((rd_T31 l0 x5_2).f0).toList)=true:=beq_iff_eq.mpr c240
        have c240b1:(((rd_T31 l0 x7_3).f1).toList !=((rd_T31 l0 x5_2).f0).toList)=false:=bne_eq_false_iff_eq.mpr c240
        clear c240
        replace H:=Option.bind_eq_some_iff.mp H
        obtain ⟨⟨t24,t25,t26⟩,A2410,H⟩:=H
        try dsimp only at H
        have A241:=Aside0.mk A2410
        clear A2410
        have H':=Aside0.mk H
        clear H
        try go_wp2
        replace BK20:=am_ (blk_drew BK20.out)
        replace HB:=am_ (below_drew1 HB.out)
        have p21:0≤(x7_3:Int):=of_decide_eq_true zq_
        have q21:x7_3<(l0.length:Int):=of_decide_eq_true zq_
        obtain ⟨ad21,e21,hx21_0,hx21_1,hx21_2,hx21_3,hx21_4,hx21_5,hx21_6,hx21_7,hx21_8,hx21_9,hx21_10,hx21_11⟩:=at_T31 HR0.out x7_3 p21 q21
        have hw21_11:=hx21_11
        have hw21_10:=hx21_10
        have hw21_9:=hx21_9
        have hw21_8:=hx21_8
        have hw21_7:=hx21_7
        have hw21_6:=hx21_6
        have hw21_5:=hx21_5
        have hw21_4:=hx21_4
        have hw21_3:=hx21_3
        have hw21_2:=hx21_2
        have hw21_1:=hx21_1
        have hw21_0:=hx21_0
        obtain rfl:ad19=ad21:=(by injection e21)
        replace hx21_0:=zx_ HB hx21_0
        replace hx21_1:=zx_ HB hx21_1
        replace hx21_2:=zx_ HB hx21_2
        replace hx21_3:=zx_ HB hx21_3
        replace hx21_4:=zx_ HB hx21_4
        replace hx21_5:=zx_ HB hx21_5
        replace hx21_6:=zx_ HB hx21_6
        replace hx21_7:=zx_ HB hx21_7
        replace hx21_8:=zx_ HB hx21_8
        replace hx21_9:=zx_ HB hx21_9
        replace hx21_10:=zx_ HB hx21_10
        replace hx21_11:=zx_ HB hx21_11
        replace p21:=eq_true p21
        replace q21:=eq_true q21
        have p22:0≤(x5_2:Int):=of_decide_eq_true zq_
        have q22:x5_2<(l0.length:Int):=of_decide_eq_true zq_
        obtain ⟨ad22,e22,hx22_0,hx22_1,hx22_2,hx22_3,hx22_4,hx22_5,hx22_6,hx22_7,hx22_8,hx22_9,hx22_10,hx22_11⟩:=at_T31 HR0.out x5_2 p22 q22
        have hw22_11:=hx22_11
        have hw22_10:=hx22_10
        have hw22_9:=hx22_9
        have hw22_8:=hx22_8
        have hw22_7:=hx22_7
        have hw22_6:=hx22_6
        have hw22_5:=hx22_5
        have hw22_4:=hx22_4
        have hw22_3:=hx22_3
        have hw22_2:=hx22_2
        have hw22_1:=hx22_1
        have hw22_0:=hx22_0
        obtain rfl:ad19=ad22:=(by injection e22)
        replace hx22_0:=zx_ HB hx22_0
        replace hx22_1:=zx_ HB hx22_1
        replace hx22_2:=zx_ HB hx22_2
        replace hx22_3:=zx_ HB hx22_3
        replace hx22_4:=zx_ HB hx22_4
        replace hx22_5:=zx_ HB hx22_5
        replace hx22_6:=zx_ HB hx22_6
        replace hx22_7:=zx_ HB hx22_7
        replace hx22_8:=zx_ HB hx22_8
        replace hx22_9:=zx_ HB hx22_9
        replace hx22_10:=zx_ HB hx22_10
        replace hx22_11:=zx_ HB hx22_11
        replace p22:=eq_true p22
        replace q22:=eq_true q22
        refine start_ (n:=11) (S:=fun w'=>w'.cell? (ad19.add ((x7_3).toNat*12))=some (.string ((rd_T31 l0 x7_3).f0))∧w'.cell? ⟨(ad19.add ((x7_3).toNat*12)).block,(ad19.add ((x7_3).toNat*12)).off+1,none⟩=some (.string ((rd_T31 l0 x7_3).f1))∧w'.cell? ⟨(ad19.add ((x7_3).toNat*12)).block,(ad19.add ((x7_3).toNat*12)).off+2,none⟩=some (.int .i64 ((rd_T31 l0 x7_3).f2.f0))∧w'.cell? ⟨(ad19.add ((x7_3).toNat*12)).block,(ad19.add ((x7_3).toNat*12)).off+3,none⟩=some (.int .i64 ((rd_T31 l0 x7_3).f2.f1))∧w'.cell? ⟨(ad19.add ((x7_3).toNat*12)).block,(ad19.add ((x7_3).toNat*12)).off+4,none⟩=some (.int .i64 ((rd_T31 l0 x7_3).f2.f2))∧w'.cell? ⟨(ad19.add ((x7_3).toNat*12)).block,(ad19.add ((x7_3).toNat*12)).off+5,none⟩=some (.int .i64 ((rd_T31 l0 x7_3).f3.f0))∧w'.cell? ⟨(ad19.add ((x7_3).toNat*12)).block,(ad19.add ((x7_3).toNat*12)).off+6,none⟩=some (.int .i64 ((rd_T31 l0 x7_3).f3.f1))∧w'.cell? ⟨(ad19.add ((x7_3).toNat*12)).block,(ad19.add ((x7_3).toNat*12)).off+7,none⟩=some (.int .i64 ((rd_T31 l0 x7_3).f3.f2))∧w'.cell? ⟨(ad19.add ((x7_3).toNat*12)).block,(ad19.add ((x7_3).toNat*12)).off+8,none⟩=some (.int .i64 ((rd_T31 l0 x7_3).f4.f0))∧w'.cell? ⟨(ad19.add ((x7_3).toNat*12)).block,(ad19.add ((x7_3).toNat*12)).off+9,none⟩=some (.int .i64 ((rd_T31 l0 x7_3).f4.f1))∧w'.cell? ⟨(ad19.add ((x7_3).toNat*12)).block,(ad19.add ((x7_3).toNat*12)).off+10,none⟩=some (.int .i64 ((rd_T31 l0 x7_3).f4.f2))∧w'.cell? ⟨(ad19.add ((x7_3).toNat*12)).block,(ad19.add ((x7_3).toNat*12)).off+11,none⟩=some (.int .i64 ((rd_T31 l0 x7_3).f5))∧w'.cell? (ad19.add ((x5_2).toNat*12))=some (.string ((rd_T31 l0 x5_2).f0))∧w'.cell? ⟨(ad19.add ((x5_2).toNat*12)).block,(ad19.add ((x5_2).toNat*12)).off+1,none⟩=some (.string ((rd_T31 l0 x5_2).f1))∧w'.cell? ⟨(ad19.add ((x5_2).toNat*12)).block,(ad19.add ((x5_2).toNat*12)).off+2,none⟩=some (.int .i64 ((rd_T31 l0 x5_2).f2.f0))∧w'.cell? ⟨(ad19.add ((x5_2).toNat*12)).block,(ad19.add ((x5_2).toNat*12)).off+3,none⟩=some (.int .i64 ((rd_T31 l0 x5_2).f2.f1))∧w'.cell? ⟨(ad19.add ((x5_2).toNat*12)).block,(ad19.add ((x5_2).toNat*12)).off+4,none⟩=some (.int .i64 ((rd_T31 l0 x5_2).f2.f2))∧w'.cell? ⟨(ad19.add ((x5_2).toNat*12)).block,(ad19.add ((x5_2).toNat*12)).off+5,none⟩=some (.int .i64 ((rd_T31 l0 x5_2).f3.f0))∧w'.cell? ⟨(ad19.add ((x5_2).toNat*12)).block,(ad19.add ((x5_2).toNat*12)).off+6,none⟩=some (.int .i64 ((rd_T31 l0 x5_2).f3.f1))∧w'.cell? ⟨(ad19.add ((x5_2).toNat*12)).block,(ad19.add ((x5_2).toNat*12)).off+7,none⟩=some (.int .i64 ((rd_T31 l0 x5_2).f3.f2))∧w'.cell? ⟨(ad19.add ((x5_2).toNat*12)).block,(ad19.add ((x5_2).toNat*12)).off+8,none⟩=some (.int .i64 ((rd_T31 l0 x5_2).f4.f0))∧w'.cell? ⟨(ad19.add ((x5_2).toNat*12)).block,(ad19.add ((x5_2).toNat*12)).off+9,none⟩=some (.int .i64 ((rd_T31 l0 x5_2).f4.f1))∧w'.cell? ⟨(ad19.add ((x5_2).toNat*12)).block,(ad19.add ((x5_2).toNat*12)).off+10,none⟩=some (.int .i64 ((rd_T31 l0 x5_2).f4.f2))∧w'.cell? ⟨(ad19.add ((x5_2).toNat*12)).block,(ad19.add ((x5_2).toNat*12)).off+11,none⟩=some (.int .i64 ((rd_T31 l0 x5_2).f5))) (ds:=[]) (bt_ 11 0) (by kernel_rfl) rfl rfl ⟨(zx_ HB hw21_0),(zx_ HB hw21_1),(zx_ HB hw21_2),(zx_ HB hw21_3),(zx_ HB hw21_4),(zx_ HB hw21_5),(zx_ HB hw21_6),(zx_ HB hw21_7),(zx_ HB hw21_8),(zx_ HB hw21_9),(zx_ HB hw21_10),(zx_ HB hw21_11),(zx_ HB hw22_0),(zx_ HB hw22_1),(zx_ HB hw22_2),(zx_ HB hw22_3),(zx_ HB hw22_4),(zx_ HB hw22_5),(zx_ HB hw22_6),(zx_ HB hw22_7),(zx_ HB hw22_8),(zx_ HB hw22_9),(zx_ HB hw22_10),(zx_ HB hw22_11)⟩ (fun hHeld=> ?_);refine with_tabW r10_Right.tab16 r10_Right.bits16 (fun HT_ HW_=> ?_)
        generalize wr.drew=w242 at BK20 HB hx21_0 hx21_1 hx21_10 hx21_11 hx21_2 hx21_3 hx21_4 hx21_5 hx21_6 hx21_7 hx21_8 hx21_9 hx22_0 hx22_1 hx22_10 hx22_11 hx22_2 hx22_3 hx22_4 hx22_5 hx22_6 hx22_7 hx22_8 hx22_9 hHeld ⊢
        refine pu_ (i:=0) (N:=some 105) (bt_ 11 1) HT_ ?_
        refine pu_ (i:=1) (N:=some 106) (bt_ 11 3) HT_ ?_
        refine pu_ (i:=2) (N:=some 107) (bt_ 11 7) HT_ ?_
        refine pu_ (i:=3) (N:=some 108) (bt_ 11 15) HT_ ?_
        refine pu_ (i:=5) (N:=some 110) (bt_ 11 47) HT_ ?_
        refine pu_ (i:=6) (N:=some 111) (bt_ 11 111) HT_ ?_
        refine pu_ (i:=7) (N:=some 112) (bt_ 11 239) HT_ ?_
        refine pu_ (i:=8) (N:=some 113) (bt_ 11 495) HT_ ?_
        refine tk_ (i:=4) (N:=some 109) (bt_ 11 511) HT_ HW_ hHeld ?_
        refine tk_ (i:=9) (N:=some 114) (bt_ 11 1023) HT_ HW_ hHeld ?_
        refine pu_ (i:=10) (N:=some 115) (bt_ 11 2047) HT_ ?_
        refine done_ (done_of HT_.out (by kernel_rfl)) ?_
        try go_wp2
        replace BK20:=am_ (blk_drew BK20.out)
        replace HB:=am_ (below_drew1 HB.out)
        have p23:0≤(x7_3:Int):=of_decide_eq_true zq_
        have q23:x7_3<(l0.length:Int):=of_decide_eq_true zq_
        obtain ⟨ad23,e23,hx23_0,hx23_1,hx23_2,hx23_3,hx23_4,hx23_5,hx23_6,hx23_7,hx23_8,hx23_9,hx23_10,hx23_11⟩:=at_T31 HR0.out x7_3 p23 q23
        have hw23_11:=hx23_11
        have hw23_10:=hx23_10
        have hw23_9:=hx23_9
        have hw23_8:=hx23_8
        have hw23_7:=hx23_7
        have hw23_6:=hx23_6
        have hw23_5:=hx23_5
        have hw23_4:=hx23_4
        have hw23_3:=hx23_3
        have hw23_2:=hx23_2
        have hw23_1:=hx23_1
        have hw23_0:=hx23_0
        obtain rfl:ad19=ad23:=(by injection e23)
        replace hx23_0:=zx_ HB hx23_0
        replace hx23_1:=zx_ HB hx23_1
        replace hx23_2:=zx_ HB hx23_2
        replace hx23_3:=zx_ HB hx23_3
        replace hx23_4:=zx_ HB hx23_4
        replace hx23_5:=zx_ HB hx23_5
        replace hx23_6:=zx_ HB hx23_6
        replace hx23_7:=zx_ HB hx23_7
        replace hx23_8:=zx_ HB hx23_8
        replace hx23_9:=zx_ HB hx23_9
        replace hx23_10:=zx_ HB hx23_10
        replace hx23_11:=zx_ HB hx23_11
        replace p23:=eq_true p23
        replace q23:=eq_true q23
        refine start_ (n:=8) (S:=fun w'=>w'.cell? ⟨gb20,0,none⟩=some (.int .i64 x21000_3)∧w'.cell? ⟨gb20,1,none⟩=some (.int .i64 x21001_3)∧w'.cell? ⟨gb20,2,none⟩=some (.int .i64 x21002_3)∧w'.cell? (ad19.add ((x7_3).toNat*12))=some (.string ((rd_T31 l0 x7_3).f0))∧w'.cell? ⟨(ad19.add ((x7_3).toNat*12)).block,(ad19.add ((x7_3).toNat*12)).off+1,none⟩=some (.string ((rd_T31 l0 x7_3).f1))∧w'.cell? ⟨(ad19.add ((x7_3).toNat*12)).block,(ad19.add ((x7_3).toNat*12)).off+2,none⟩=some (.int .i64 ((rd_T31 l0 x7_3).f2.f0))∧w'.cell? ⟨(ad19.add ((x7_3).toNat*12)).block,(ad19.add ((x7_3).toNat*12)).off+3,none⟩=some (.int .i64 ((rd_T31 l0 x7_3).f2.f1))∧w'.cell? ⟨(ad19.add ((x7_3).toNat*12)).block,(ad19.add ((x7_3).toNat*12)).off+4,none⟩=some (.int .i64 ((rd_T31 l0 x7_3).f2.f2))∧w'.cell? ⟨(ad19.add ((x7_3).toNat*12)).block,(ad19.add ((x7_3).toNat*12)).off+5,none⟩=some (.int .i64 ((rd_T31 l0 x7_3).f3.f0))∧w'.cell? ⟨(ad19.add ((x7_3).toNat*12)).block,(ad19.add ((x7_3).toNat*12)).off+6,none⟩=some (.int .i64 ((rd_T31 l0 x7_3).f3.f1))∧w'.cell? ⟨(ad19.add ((x7_3).toNat*12)).block,(ad19.add ((x7_3).toNat*12)).off+7,none⟩=some (.int .i64 ((rd_T31 l0 x7_3).f3.f2))∧w'.cell? ⟨(ad19.add ((x7_3).toNat*12)).block,(ad19.add ((x7_3).toNat*12)).off+8,none⟩=some (.int .i64 ((rd_T31 l0 x7_3).f4.f0))∧w'.cell? ⟨(ad19.add ((x7_3).toNat*12)).block,(ad19.add ((x7_3).toNat*12)).off+9,none⟩=some (.int .i64 ((rd_T31 l0 x7_3).f4.f1))∧w'.cell? ⟨(ad19.add ((x7_3).toNat*12)).block,(ad19.add ((x7_3).toNat*12)).off+10,none⟩=some (.int .i64 ((rd_T31 l0 x7_3).f4.f2))∧w'.cell? ⟨(ad19.add ((x7_3).toNat*12)).block,(ad19.add ((x7_3).toNat*12)).off+11,none⟩=some (.int .i64 ((rd_T31 l0 x7_3).f5))) (ds:=[7]) (bt_ 8 0) (by kernel_rfl) rfl rfl ⟨(blk_cell BK20.out 0).trans rfl,(blk_cell BK20.out 1).trans rfl,(blk_cell BK20.out 2).trans rfl,(zx_ HB hw23_0),(zx_ HB hw23_1),(zx_ HB hw23_2),(zx_ HB hw23_3),(zx_ HB hw23_4),(zx_ HB hw23_5),(zx_ HB hw23_6),(zx_ HB hw23_7),(zx_ HB hw23_8),(zx_ HB hw23_9),(zx_ HB hw23_10),(zx_ HB hw23_11)⟩ (fun hHeld=> ?_);refine with_tabW r10_Right.tab17 r10_Right.bits17 (fun HT_ HW_=> ?_)
        generalize w242.drew=w243 at BK20 HB hx23_0 hx23_1 hx23_10 hx23_11 hx23_2 hx23_3 hx23_4 hx23_5 hx23_6 hx23_7 hx23_8 hx23_9 hHeld ⊢
        refine pu_ (i:=1) (N:=some 117) (bt_ 8 2) HT_ ?_
        refine pu_ (i:=2) (N:=some 118) (bt_ 8 6) HT_ ?_
        refine pu_ (i:=3) (N:=some 119) (bt_ 8 14) HT_ ?_
        refine pu_ (i:=4) (N:=some 120) (bt_ 8 30) HT_ ?_
        refine tk_ (i:=0) (N:=some 116) (bt_ 8 31) HT_ HW_ hHeld ?_
        refine tk_ (i:=5) (N:=some 121) (bt_ 8 63) HT_ HW_ hHeld ?_
        refine on_ (i:=6) (N:=some 122) (bt_ 8 127) HT_ (fun K hK=> ?_)
        refine gs_ Try.func63 #[.agg #[.int .i64 x21000_3, .int .i64 x21001_3, .int .i64 x21002_3], .agg #[.int .i64 ((rd_T31 l0 x7_3).f4.f0), .int .i64 ((rd_T31 l0 x7_3).f4.f1), .int .i64 ((rd_T31 l0 x7_3).f4.f2)]] ?_
        with_reducible refine (r10_Add.calls x21000_3 x21001_3 x21002_3 ((rd_T31 l0 x7_3).f4.f0) ((rd_T31 l0 x7_3).f4.f1) ((rd_T31 l0 x7_3).f4.f2) t24 t25 t26 _ A241.out).mono ?_
        rintro e w244 ⟨rfl,hb⟩
        refine ⟨_,rfl, ?_⟩
        replace BK20:=am_ (blk_below (zb_ BK20) hb)
        replace HB:=am_ (below_step (zl1_ HB GE20) hb)
        (try clear hb)
        (try clear hb2)
        (try clear hk)
        (try clear hi)
        refine hK.out _ _ ⟨(blk_cell BK20.out 0).trans rfl,(blk_cell BK20.out 1).trans rfl,(blk_cell BK20.out 2).trans rfl,(zx_ HB hw23_0),(zx_ HB hw23_1),(zx_ HB hw23_2),(zx_ HB hw23_3),(zx_ HB hw23_4),(zx_ HB hw23_5),(zx_ HB hw23_6),(zx_ HB hw23_7),(zx_ HB hw23_8),(zx_ HB hw23_9),(zx_ HB hw23_10),(zx_ HB hw23_11)⟩ (fun hHeld=> ?_)
        clear hK K
        refine no_ (N:=some 122) ?_
        refine last_ (i:=7) (N:=none) (bt_ 8 255) rfl rfl (one_of HT_.out (by kernel_rfl)) (by decide) (fun K hK=> ?_)
        have hs245:w244.cell? ⟨gb20,0,none⟩=some (.int .i64 x21000_3):=(blk_cell BK20.out 0).trans rfl
        have hfs245:=blk_frozen BK20.out 0
        have hs246:w244.cell? ⟨gb20,1,none⟩=some (.int .i64 x21001_3):=(blk_cell BK20.out 1).trans rfl
        have hfs246:=blk_frozen BK20.out 1
        have hs247:w244.cell? ⟨gb20,2,none⟩=some (.int .i64 x21002_3):=(blk_cell BK20.out 2).trans rfl
        have hfs247:=blk_frozen BK20.out 2
        refine skip_ (w1:= ?_) (by rfl) rfl ?_ ?_
        rotate_left
        ·go_simp
         rfl
        refine hK.out _ _ ?_
        clear hK K
        refine done_ (done_of HT_.out (by kernel_rfl)) ?_
        try go_wp2
        go_roundg k3
        case measure=>have:=HK1.out;have:=HK2.out;have:=HK3.out;omega
        case rel=>exact ⟨(wrap64 (x7_3+1)),(t24),(t25),(t26),(by first|rfl|(simp;done)|(simp [*];done)),H',⟨by have:=HK1.out;have:=HK2.out;have:=HK3.out;omega⟩,⟨zw_ BK20⟩,⟨zl1_ HB GE20⟩⟩
       rw [if_neg c236] at H
       have c236b0:decide (x7_3<(l0.length:Int))=false:=decide_eq_false c236
       clear c236
       by_cases c249:0≤x5_2
       rotate_left
       ·rw [if_neg c249] at H
        exact absurd H (by simp)
       rw [if_pos c249] at H
       have c249b0:decide (0≤x5_2)=true:=decide_eq_true c249
       clear c249
       by_cases c250:x5_2<(l0.length:Int)
       rotate_left
       ·rw [if_neg c250] at H
        exact absurd H (by simp)
       rw [if_pos c250] at H
       have c250b0:decide (x5_2<(l0.length:Int))=true:=decide_eq_true c250
       clear c250
       by_cases c251:(!(x21000_3==((rd_T31 l0 x5_2).f4.f0))||(!(x21001_3==((rd_T31 l0 x5_2).f4.f1))||(!(x21002_3==((rd_T31 l0 x5_2).f4.f2)))))=true
       ·rw [if_pos c251] at H
        have c251b0:(!(x21000_3==((rd_T31 l0 x5_2).f4.f0))||(!(x21001_3==((rd_T31 l0 x5_2).f4.f1))||(!(x21002_3==((rd_T31 l0 x5_2).f4.f2)))))=true:=c251
        clear c251
        obtain rfl:=Option.some.inj H
        try go_wp2
        replace BK20:=am_ (blk_drew BK20.out)
        replace HB:=am_ (below_drew1 HB.out)
        have p27:0≤(x5_2:Int):=of_decide_eq_true zq_
        have q27:x5_2<(l0.length:Int):=of_decide_eq_true zq_
        obtain ⟨ad27,e27,hx27_0,hx27_1,hx27_2,hx27_3,hx27_4,hx27_5,hx27_6,hx27_7,hx27_8,hx27_9,hx27_10,hx27_11⟩:=at_T31 HR0.out x5_2 p27 q27
        have hw27_11:=hx27_11
        have hw27_10:=hx27_10
        have hw27_9:=hx27_9
        have hw27_8:=hx27_8
        have hw27_7:=hx27_7
        have hw27_6:=hx27_6
        have hw27_5:=hx27_5
        have hw27_4:=hx27_4
        have hw27_3:=hx27_3
        have hw27_2:=hx27_2
        have hw27_1:=hx27_1
        have hw27_0:=hx27_0
        obtain rfl:ad19=ad27:=(by injection e27)
        replace hx27_0:=zx_ HB hx27_0
        replace hx27_1:=zx_ HB hx27_1
        replace hx27_2:=zx_ HB hx27_2
        replace hx27_3:=zx_ HB hx27_3
        replace hx27_4:=zx_ HB hx27_4
        replace hx27_5:=zx_ HB hx27_5
        replace hx27_6:=zx_ HB hx27_6
        replace hx27_7:=zx_ HB hx27_7
        replace hx27_8:=zx_ HB hx27_8
        replace hx27_9:=zx_ HB hx27_9
        replace hx27_10:=zx_ HB hx27_10
        replace hx27_11:=zx_ HB hx27_11
        replace p27:=eq_true p27
        replace q27:=eq_true q27
        refine start_ (n:=20) (S:=fun w'=>w'.cell? ⟨gb20,0,none⟩=some (.int .i64 x21000_3)∧w'.cell? ⟨gb20,1,none⟩=some (.int .i64 x21001_3)∧w'.cell? ⟨gb20,2,none⟩=some (.int .i64 x21002_3)∧w'.cell? (ad19.add ((x5_2).toNat*12))=some (.string ((rd_T31 l0 x5_2).f0))∧w'.cell? ⟨(ad19.add ((x5_2).toNat*12)).block,(ad19.add ((x5_2).toNat*12)).off+1,none⟩=some (.string ((rd_T31 l0 x5_2).f1))∧w'.cell? ⟨(ad19.add ((x5_2).toNat*12)).block,(ad19.add ((x5_2).toNat*12)).off+2,none⟩=some (.int .i64 ((rd_T31 l0 x5_2).f2.f0))∧w'.cell? ⟨(ad19.add ((x5_2).toNat*12)).block,(ad19.add ((x5_2).toNat*12)).off+3,none⟩=some (.int .i64 ((rd_T31 l0 x5_2).f2.f1))∧w'.cell? ⟨(ad19.add ((x5_2).toNat*12)).block,(ad19.add ((x5_2).toNat*12)).off+4,none⟩=some (.int .i64 ((rd_T31 l0 x5_2).f2.f2))∧w'.cell? ⟨(ad19.add ((x5_2).toNat*12)).block,(ad19.add ((x5_2).toNat*12)).off+5,none⟩=some (.int .i64 ((rd_T31 l0 x5_2).f3.f0))∧w'.cell? ⟨(ad19.add ((x5_2).toNat*12)).block,(ad19.add ((x5_2).toNat*12)).off+6,none⟩=some (.int .i64 ((rd_T31 l0 x5_2).f3.f1))∧w'.cell? ⟨(ad19.add ((x5_2).toNat*12)).block,(ad19.add ((x5_2).toNat*12)).off+7,none⟩=some (.int .i64 ((rd_T31 l0 x5_2).f3.f2))∧w'.cell? ⟨(ad19.add ((x5_2).toNat*12)).block,(ad19.add ((x5_2).toNat*12)).off+8,none⟩=some (.int .i64 ((rd_T31 l0 x5_2).f4.f0))∧w'.cell? ⟨(ad19.add ((x5_2).toNat*12)).block,(ad19.add ((x5_2).toNat*12)).off+9,none⟩=some (.int .i64 ((rd_T31 l0 x5_2).f4.f1))∧w'.cell? ⟨(ad19.add ((x5_2).toNat*12)).block,(ad19.add ((x5_2).toNat*12)).off+10,none⟩=some (.int .i64 ((rd_T31 l0 x5_2).f4.f2))∧w'.cell? ⟨(ad19.add ((x5_2).toNat*12)).block,(ad19.add ((x5_2).toNat*12)).off+11,none⟩=some (.int .i64 ((rd_T31 l0 x5_2).f5))) (ds:=[]) (bt_ 20 0) (by kernel_rfl) rfl rfl ⟨(blk_cell BK20.out 0).trans rfl,(blk_cell BK20.out 1).trans rfl,(blk_cell BK20.out 2).trans rfl,(zx_ HB hw27_0),(zx_ HB hw27_1),(zx_ HB hw27_2),(zx_ HB hw27_3),(zx_ HB hw27_4),(zx_ HB hw27_5),(zx_ HB hw27_6),(zx_ HB hw27_7),(zx_ HB hw27_8),(zx_ HB hw27_9),(zx_ HB hw27_10),(zx_ HB hw27_11)⟩ (fun hHeld=> ?_);refine with_tabW r10_Right.tab18 r10_Right.bits18 (fun HT_ HW_=> ?_)
        generalize wr.drew=w252 at BK20 HB hx27_0 hx27_1 hx27_10 hx27_11 hx27_2 hx27_3 hx27_4 hx27_5 hx27_6 hx27_7 hx27_8 hx27_9 hHeld ⊢
        refine pu_ (i:=1) (N:=some 124) (bt_ 20 2) HT_ ?_
        refine pu_ (i:=2) (N:=some 125) (bt_ 20 6) HT_ ?_
        refine pu_ (i:=3) (N:=some 126) (bt_ 20 14) HT_ ?_
        refine pu_ (i:=4) (N:=some 127) (bt_ 20 30) HT_ ?_
        refine tk_ (i:=0) (N:=some 123) (bt_ 20 31) HT_ HW_ hHeld ?_
        refine tk_ (i:=5) (N:=some 128) (bt_ 20 63) HT_ HW_ hHeld ?_
        refine pu_ (i:=6) (N:=some 129) (bt_ 20 127) HT_ ?_
        refine pu_ (i:=7) (N:=some 130) (bt_ 20 255) HT_ ?_
        refine pn_ (i:=8) (N:=some 131) (bt_ 20 511) HT_ ?_
        refine pn_ (i:=9) (N:=some 132) (bt_ 20 1023) HT_ ?_
        refine pn_ (i:=10) (N:=some 133) (bt_ 20 2047) HT_ ?_
        refine pn_ (i:=11) (N:=some 134) (bt_ 20 4095) HT_ ?_
        refine pn_ (i:=12) (N:=some 135) (bt_ 20 8191) HT_ ?_
        refine pn_ (i:=13) (N:=some 136) (bt_ 20 16383) HT_ ?_
        refine pn_ (i:=14) (N:=some 137) (bt_ 20 32767) HT_ ?_
        refine pn_ (i:=15) (N:=some 138) (bt_ 20 65535) HT_ ?_
        refine pn_ (i:=16) (N:=some 139) (bt_ 20 131071) HT_ ?_
        refine pn_ (i:=17) (N:=some 140) (bt_ 20 262143) HT_ ?_
        refine pn_ (i:=18) (N:=some 141) (bt_ 20 524287) HT_ ?_
        refine pu_ (i:=19) (N:=some 142) (bt_ 20 1048575) HT_ ?_
        refine done_ (done_of HT_.out (by kernel_rfl)) ?_
        try go_wp2
        go_ret
        exact ⟨by first|rfl|(simp [errW_none,errW_some]<;>rfl)|(simp [*,errW_none,errW_some]<;>rfl),zl1_ HB GE20⟩
       rw [if_neg c251] at H
       have c251b0:(!(x21000_3==((rd_T31 l0 x5_2).f4.f0))||(!(x21001_3==((rd_T31 l0 x5_2).f4.f1))||(!(x21002_3==((rd_T31 l0 x5_2).f4.f2)))))=false:=by simpa using c251
       clear c251
       replace H:=Option.bind_eq_some_iff.mp H
       obtain ⟨t29,A2530,H⟩:=H
       try dsimp only at H
       have A253:=Aside0.mk A2530
       clear A2530
       by_cases c254:(t29.length:Int)>(l0.length:Int)
       ·rw [if_pos c254] at H
        have c254b0:decide ((l0.length:Int)<(t29.length:Int))=true:=decide_eq_true c254
        have c254b1:decide (l0.length<t29.length)=true:=decide_eq_true (Int.ofNat_lt.mp c254)
        clear c254
        obtain rfl:=Option.some.inj H
        try go_wp2
        replace BK20:=am_ (blk_drew BK20.out)
        replace HB:=am_ (below_drew1 HB.out)
        have p27:0≤(x5_2:Int):=of_decide_eq_true zq_
        have q27:x5_2<(l0.length:Int):=of_decide_eq_true zq_
        obtain ⟨ad27,e27,hx27_0,hx27_1,hx27_2,hx27_3,hx27_4,hx27_5,hx27_6,hx27_7,hx27_8,hx27_9,hx27_10,hx27_11⟩:=at_T31 HR0.out x5_2 p27 q27
        have hw27_11:=hx27_11
        have hw27_10:=hx27_10
        have hw27_9:=hx27_9
        have hw27_8:=hx27_8
        have hw27_7:=hx27_7
        have hw27_6:=hx27_6
        have hw27_5:=hx27_5
        have hw27_4:=hx27_4
        have hw27_3:=hx27_3
        have hw27_2:=hx27_2
        have hw27_1:=hx27_1
        have hw27_0:=hx27_0
        obtain rfl:ad19=ad27:=(by injection e27)
        replace hx27_0:=zx_ HB hx27_0
        replace hx27_1:=zx_ HB hx27_1
        replace hx27_2:=zx_ HB hx27_2
        replace hx27_3:=zx_ HB hx27_3
        replace hx27_4:=zx_ HB hx27_4
        replace hx27_5:=zx_ HB hx27_5
        replace hx27_6:=zx_ HB hx27_6
        replace hx27_7:=zx_ HB hx27_7
        replace hx27_8:=zx_ HB hx27_8
        replace hx27_9:=zx_ HB hx27_9
        replace hx27_10:=zx_ HB hx27_10
        replace hx27_11:=zx_ HB hx27_11
        replace p27:=eq_true p27
        replace q27:=eq_true q27
        have p28:0≤(x5_2:Int):=of_decide_eq_true zq_
        have q28:x5_2<(l0.length:Int):=of_decide_eq_true zq_
        obtain ⟨ad28,e28,hx28_0,hx28_1,hx28_2,hx28_3,hx28_4,hx28_5,hx28_6,hx28_7,hx28_8,hx28_9,hx28_10,hx28_11⟩:=at_T31 HR0.out x5_2 p28 q28
        have hw28_11:=hx28_11
        have hw28_10:=hx28_10
        have hw28_9:=hx28_9
        have hw28_8:=hx28_8
        have hw28_7:=hx28_7
        have hw28_6:=hx28_6
        have hw28_5:=hx28_5
        have hw28_4:=hx28_4
        have hw28_3:=hx28_3
        have hw28_2:=hx28_2
        have hw28_1:=hx28_1
        have hw28_0:=hx28_0
        obtain rfl:ad19=ad28:=(by injection e28)
        replace hx28_0:=zx_ HB hx28_0
        replace hx28_1:=zx_ HB hx28_1
        replace hx28_2:=zx_ HB hx28_2
        replace hx28_3:=zx_ HB hx28_3
        replace hx28_4:=zx_ HB hx28_4
        replace hx28_5:=zx_ HB hx28_5
        replace hx28_6:=zx_ HB hx28_6
        replace hx28_7:=zx_ HB hx28_7
        replace hx28_8:=zx_ HB hx28_8
        replace hx28_9:=zx_ HB hx28_9
        replace hx28_10:=zx_ HB hx28_10
        replace hx28_11:=zx_ HB hx28_11
        replace p28:=eq_true p28
        replace q28:=eq_true q28
        refine start_ (n:=20) (S:=fun w'=>w'.cell? ⟨gb20,0,none⟩=some (.int .i64 x21000_3)∧w'.cell? ⟨gb20,1,none⟩=some (.int .i64 x21001_3)∧w'.cell? ⟨gb20,2,none⟩=some (.int .i64 x21002_3)∧w'.cell? (ad19.add ((x5_2).toNat*12))=some (.string ((rd_T31 l0 x5_2).f0))∧w'.cell? ⟨(ad19.add ((x5_2).toNat*12)).block,(ad19.add ((x5_2).toNat*12)).off+1,none⟩=some (.string ((rd_T31 l0 x5_2).f1))∧w'.cell? ⟨(ad19.add ((x5_2).toNat*12)).block,(ad19.add ((x5_2).toNat*12)).off+2,none⟩=some (.int .i64 ((rd_T31 l0 x5_2).f2.f0))∧w'.cell? ⟨(ad19.add ((x5_2).toNat*12)).block,(ad19.add ((x5_2).toNat*12)).off+3,none⟩=some (.int .i64 ((rd_T31 l0 x5_2).f2.f1))∧w'.cell? ⟨(ad19.add ((x5_2).toNat*12)).block,(ad19.add ((x5_2).toNat*12)).off+4,none⟩=some (.int .i64 ((rd_T31 l0 x5_2).f2.f2))∧w'.cell? ⟨(ad19.add ((x5_2).toNat*12)).block,(ad19.add ((x5_2).toNat*12)).off+5,none⟩=some (.int .i64 ((rd_T31 l0 x5_2).f3.f0))∧w'.cell? ⟨(ad19.add ((x5_2).toNat*12)).block,(ad19.add ((x5_2).toNat*12)).off+6,none⟩=some (.int .i64 ((rd_T31 l0 x5_2).f3.f1))∧w'.cell? ⟨(ad19.add ((x5_2).toNat*12)).block,(ad19.add ((x5_2).toNat*12)).off+7,none⟩=some (.int .i64 ((rd_T31 l0 x5_2).f3.f2))∧w'.cell? ⟨(ad19.add ((x5_2).toNat*12)).block,(ad19.add ((x5_2).toNat*12)).off+8,none⟩=some (.int .i64 ((rd_T31 l0 x5_2).f4.f0))∧w'.cell? ⟨(ad19.add ((x5_2).toNat*12)).block,(ad19.add ((x5_2).toNat*12)).off+9,none⟩=some (.int .i64 ((rd_T31 l0 x5_2).f4.f1))∧w'.cell? ⟨(ad19.add ((x5_2).toNat*12)).block,(ad19.add ((x5_2).toNat*12)).off+10,none⟩=some (.int .i64 ((rd_T31 l0 x5_2).f4.f2))∧w'.cell? ⟨(ad19.add ((x5_2).toNat*12)).block,(ad19.add ((x5_2).toNat*12)).off+11,none⟩=some (.int .i64 ((rd_T31 l0 x5_2).f5))∧w'.cell? (ad19.add ((x5_2).toNat*12))=some (.string ((rd_T31 l0 x5_2).f0))∧w'.cell? ⟨(ad19.add ((x5_2).toNat*12)).block,(ad19.add ((x5_2).toNat*12)).off+1,none⟩=some (.string ((rd_T31 l0 x5_2).f1))∧w'.cell? ⟨(ad19.add ((x5_2).toNat*12)).block,(ad19.add ((x5_2).toNat*12)).off+2,none⟩=some (.int .i64 ((rd_T31 l0 x5_2).f2.f0))∧w'.cell? ⟨(ad19.add ((x5_2).toNat*12)).block,(ad19.add ((x5_2).toNat*12)).off+3,none⟩=some (.int .i64 ((rd_T31 l0 x5_2).f2.f1))∧w'.cell? ⟨(ad19.add ((x5_2).toNat*12)).block,(ad19.add ((x5_2).toNat*12)).off+4,none⟩=some (.int .i64 ((rd_T31 l0 x5_2).f2.f2))∧w'.cell? ⟨(ad19.add ((x5_2).toNat*12)).block,(ad19.add ((x5_2).toNat*12)).off+5,none⟩=some (.int .i64 ((rd_T31 l0 x5_2).f3.f0))∧w'.cell? ⟨(ad19.add ((x5_2).toNat*12)).block,(ad19.add ((x5_2).toNat*12)).off+6,none⟩=some (.int .i64 ((rd_T31 l0 x5_2).f3.f1))∧w'.cell? ⟨(ad19.add ((x5_2).toNat*12)).block,(ad19.add ((x5_2).toNat*12)).off+7,none⟩=some (.int .i64 ((rd_T31 l0 x5_2).f3.f2))∧w'.cell? ⟨(ad19.add ((x5_2).toNat*12)).block,(ad19.add ((x5_2).toNat*12)).off+8,none⟩=some (.int .i64 ((rd_T31 l0 x5_2).f4.f0))∧w'.cell? ⟨(ad19.add ((x5_2).toNat*12)).block,(ad19.add ((x5_2).toNat*12)).off+9,none⟩=some (.int .i64 ((rd_T31 l0 x5_2).f4.f1))∧w'.cell? ⟨(ad19.add ((x5_2).toNat*12)).block,(ad19.add ((x5_2).toNat*12)).off+10,none⟩=some (.int .i64 ((rd_T31 l0 x5_2).f4.f2))∧w'.cell? ⟨(ad19.add ((x5_2).toNat*12)).block,(ad19.add ((x5_2).toNat*12)).off+11,none⟩=some (.int .i64 ((rd_T31 l0 x5_2).f5))) (ds:=[]) (bt_ 20 0) (by kernel_rfl) rfl rfl ⟨(blk_cell BK20.out 0).trans rfl,(blk_cell BK20.out 1).trans rfl,(blk_cell BK20.out 2).trans rfl,(zx_ HB hw27_0),(zx_ HB hw27_1),(zx_ HB hw27_2),(zx_ HB hw27_3),(zx_ HB hw27_4),(zx_ HB hw27_5),(zx_ HB hw27_6),(zx_ HB hw27_7),(zx_ HB hw27_8),(zx_ HB hw27_9),(zx_ HB hw27_10),(zx_ HB hw27_11),(zx_ HB hw28_0),(zx_ HB hw28_1),(zx_ HB hw28_2),(zx_ HB hw28_3),(zx_ HB hw28_4),(zx_ HB hw28_5),(zx_ HB hw28_6),(zx_ HB hw28_7),(zx_ HB hw28_8),(zx_ HB hw28_9),(zx_ HB hw28_10),(zx_ HB hw28_11)⟩ (fun hHeld=> ?_);refine with_tabW r10_Right.tab18 r10_Right.bits18 (fun HT_ HW_=> ?_)
        generalize wr.drew=w255 at BK20 HB hx27_0 hx27_1 hx27_10 hx27_11 hx27_2 hx27_3 hx27_4 hx27_5 hx27_6 hx27_7 hx27_8 hx27_9 hx28_0 hx28_1 hx28_10 hx28_11 hx28_2 hx28_3 hx28_4 hx28_5 hx28_6 hx28_7 hx28_8 hx28_9 hHeld ⊢
        refine pu_ (i:=1) (N:=some 124) (bt_ 20 2) HT_ ?_
        refine pu_ (i:=2) (N:=some 125) (bt_ 20 6) HT_ ?_
        refine pu_ (i:=3) (N:=some 126) (bt_ 20 14) HT_ ?_
        refine pu_ (i:=4) (N:=some 127) (bt_ 20 30) HT_ ?_
        refine tk_ (i:=0) (N:=some 123) (bt_ 20 31) HT_ HW_ hHeld ?_
        refine tk_ (i:=5) (N:=some 128) (bt_ 20 63) HT_ HW_ hHeld ?_
        refine pu_ (i:=6) (N:=some 129) (bt_ 20 127) HT_ ?_
        refine pu_ (i:=7) (N:=some 130) (bt_ 20 255) HT_ ?_
        refine pu_ (i:=8) (N:=some 131) (bt_ 20 511) HT_ ?_
        refine pu_ (i:=9) (N:=some 132) (bt_ 20 1023) HT_ ?_
        refine pu_ (i:=10) (N:=some 133) (bt_ 20 2047) HT_ ?_
        refine pu_ (i:=11) (N:=some 134) (bt_ 20 4095) HT_ ?_
        refine pu_ (i:=12) (N:=some 135) (bt_ 20 8191) HT_ ?_
        refine pu_ (i:=16) (N:=some 139) (bt_ 20 73727) HT_ ?_
        refine pu_ (i:=17) (N:=some 140) (bt_ 20 204799) HT_ ?_
        refine tk_ (i:=13) (N:=some 136) (bt_ 20 212991) HT_ HW_ hHeld ?_
        refine on_ (i:=14) (N:=some 137) (bt_ 20 229375) HT_ (fun K hK=> ?_)
        refine gs_ Try.func106 #[.slice (some ad19) l0.length c0, .string ((rd_T31 l0 x5_2).f0)] ?_
        with_reducible refine (r10_Up.calls k3 _ _ l0 ((rd_T31 l0 x5_2).f0) t29 _ ?side1 ?side2 A253.out).mono ?_
        (case side1=>exact zc_ (Kd.C_below HR0.out HB.out))
        (case side2=>exact HC0.out)
        rintro e w256 ⟨v30,rfl,ho0,hb⟩
        refine ⟨_,rfl, ?_⟩
        have HO31:=am_ (Kd.R_lower ho0 (below_size (zl1_ HB GE20)))
        replace BK20:=am_ (blk_below (zb_ BK20) hb)
        replace HB:=am_ (below_step (zl1_ HB GE20) hb)
        (try clear hb)
        (try clear hb2)
        (try clear hk)
        (try clear hi)
        (try clear ho0)
        obtain ⟨Ao257,co257,eo257⟩:=Kd.R_slice HO31.out
        (first|subst eo257|(injection eo257 with f1_ f2_ f3_;have f4_:=f1_.symm;have f5_:=f3_.symm;clear f1_ f2_ f3_;subst f4_;subst f5_))
        refine hK.out _ _ ⟨(blk_cell BK20.out 0).trans rfl,(blk_cell BK20.out 1).trans rfl,(blk_cell BK20.out 2).trans rfl,(zx_ HB hw27_0),(zx_ HB hw27_1),(zx_ HB hw27_2),(zx_ HB hw27_3),(zx_ HB hw27_4),(zx_ HB hw27_5),(zx_ HB hw27_6),(zx_ HB hw27_7),(zx_ HB hw27_8),(zx_ HB hw27_9),(zx_ HB hw27_10),(zx_ HB hw27_11),(zx_ HB hw28_0),(zx_ HB hw28_1),(zx_ HB hw28_2),(zx_ HB hw28_3),(zx_ HB hw28_4),(zx_ HB hw28_5),(zx_ HB hw28_6),(zx_ HB hw28_7),(zx_ HB hw28_8),(zx_ HB hw28_9),(zx_ HB hw28_10),(zx_ HB hw28_11)⟩ (fun hHeld=> ?_)
        clear hK K
        refine no_ (N:=some 137) ?_
        refine pu_ (i:=15) (N:=some 138) (bt_ 20 262143) HT_ ?_
        refine pu_ (i:=18) (N:=some 141) (bt_ 20 524287) HT_ ?_
        refine pu_ (i:=19) (N:=some 142) (bt_ 20 1048575) HT_ ?_
        refine done_ (done_of HT_.out (by kernel_rfl)) ?_
        try go_wp2
        go_ret
        exact ⟨by first|rfl|(simp [errW_none,errW_some]<;>rfl)|(simp [*,errW_none,errW_some]<;>rfl),zl1_ HB GE20⟩
       rw [if_neg c254] at H
       have c254b0:decide ((l0.length:Int)<(t29.length:Int))=false:=decide_eq_false c254
       have c254b1:decide (l0.length<t29.length)=false:=decide_eq_false (fun h=>c254 (Int.ofNat_lt.mpr h))
       clear c254
       have H':=Aside0.mk H
       clear H
       try go_wp2
       replace BK20:=am_ (blk_drew BK20.out)
       replace HB:=am_ (below_drew1 HB.out)
       have p27:0≤(x5_2:Int):=of_decide_eq_true zq_
       have q27:x5_2<(l0.length:Int):=of_decide_eq_true zq_
       obtain ⟨ad27,e27,hx27_0,hx27_1,hx27_2,hx27_3,hx27_4,hx27_5,hx27_6,hx27_7,hx27_8,hx27_9,hx27_10,hx27_11⟩:=at_T31 HR0.out x5_2 p27 q27
       have hw27_11:=hx27_11
       have hw27_10:=hx27_10
       have hw27_9:=hx27_9
       have hw27_8:=hx27_8
       have hw27_7:=hx27_7
       have hw27_6:=hx27_6
       have hw27_5:=hx27_5
       have hw27_4:=hx27_4
       have hw27_3:=hx27_3
       have hw27_2:=hx27_2
       have hw27_1:=hx27_1
       have hw27_0:=hx27_0
       obtain rfl:ad19=ad27:=(by injection e27)
       replace hx27_0:=zx_ HB hx27_0
       replace hx27_1:=zx_ HB hx27_1
       replace hx27_2:=zx_ HB hx27_2
       replace hx27_3:=zx_ HB hx27_3
       replace hx27_4:=zx_ HB hx27_4
       replace hx27_5:=zx_ HB hx27_5
       replace hx27_6:=zx_ HB hx27_6
       replace hx27_7:=zx_ HB hx27_7
       replace hx27_8:=zx_ HB hx27_8
       replace hx27_9:=zx_ HB hx27_9
       replace hx27_10:=zx_ HB hx27_10
       replace hx27_11:=zx_ HB hx27_11
       replace p27:=eq_true p27
       replace q27:=eq_true q27
       have p28:0≤(x5_2:Int):=of_decide_eq_true zq_
       have q28:x5_2<(l0.length:Int):=of_decide_eq_true zq_
       obtain ⟨ad28,e28,hx28_0,hx28_1,hx28_2,hx28_3,hx28_4,hx28_5,hx28_6,hx28_7,hx28_8,hx28_9,hx28_10,hx28_11⟩:=at_T31 HR0.out x5_2 p28 q28
       have hw28_11:=hx28_11
       have hw28_10:=hx28_10
       have hw28_9:=hx28_9
       have hw28_8:=hx28_8
       have hw28_7:=hx28_7
       have hw28_6:=hx28_6
       have hw28_5:=hx28_5
       have hw28_4:=hx28_4
       have hw28_3:=hx28_3
       have hw28_2:=hx28_2
       have hw28_1:=hx28_1
       have hw28_0:=hx28_0
       obtain rfl:ad19=ad28:=(by injection e28)
       replace hx28_0:=zx_ HB hx28_0
       replace hx28_1:=zx_ HB hx28_1
       replace hx28_2:=zx_ HB hx28_2
       replace hx28_3:=zx_ HB hx28_3
       replace hx28_4:=zx_ HB hx28_4
       replace hx28_5:=zx_ HB hx28_5
       replace hx28_6:=zx_ HB hx28_6
       replace hx28_7:=zx_ HB hx28_7
       replace hx28_8:=zx_ HB hx28_8
       replace hx28_9:=zx_ HB hx28_9
       replace hx28_10:=zx_ HB hx28_10
       replace hx28_11:=zx_ HB hx28_11
       replace p28:=eq_true p28
       replace q28:=eq_true q28
       refine start_ (n:=20) (S:=fun w'=>w'.cell? ⟨gb20,0,none⟩=some (.int .i64 x21000_3)∧w'.cell? ⟨gb20,1,none⟩=some (.int .i64 x21001_3)∧w'.cell? ⟨gb20,2,none⟩=some (.int .i64 x21002_3)∧w'.cell? (ad19.add ((x5_2).toNat*12))=some (.string ((rd_T31 l0 x5_2).f0))∧w'.cell? ⟨(ad19.add ((x5_2).toNat*12)).block,(ad19.add ((x5_2).toNat*12)).off+1,none⟩=some (.string ((rd_T31 l0 x5_2).f1))∧w'.cell? ⟨(ad19.add ((x5_2).toNat*12)).block,(ad19.add ((x5_2).toNat*12)).off+2,none⟩=some (.int .i64 ((rd_T31 l0 x5_2).f2.f0))∧w'.cell? ⟨(ad19.add ((x5_2).toNat*12)).block,(ad19.add ((x5_2).toNat*12)).off+3,none⟩=some (.int .i64 ((rd_T31 l0 x5_2).f2.f1))∧w'.cell? ⟨(ad19.add ((x5_2).toNat*12)).block,(ad19.add ((x5_2).toNat*12)).off+4,none⟩=some (.int .i64 ((rd_T31 l0 x5_2).f2.f2))∧w'.cell? ⟨(ad19.add ((x5_2).toNat*12)).block,(ad19.add ((x5_2).toNat*12)).off+5,none⟩=some (.int .i64 ((rd_T31 l0 x5_2).f3.f0))∧w'.cell? ⟨(ad19.add ((x5_2).toNat*12)).block,(ad19.add ((x5_2).toNat*12)).off+6,none⟩=some (.int .i64 ((rd_T31 l0 x5_2).f3.f1))∧w'.cell? ⟨(ad19.add ((x5_2).toNat*12)).block,(ad19.add ((x5_2).toNat*12)).off+7,none⟩=some (.int .i64 ((rd_T31 l0 x5_2).f3.f2))∧w'.cell? ⟨(ad19.add ((x5_2).toNat*12)).block,(ad19.add ((x5_2).toNat*12)).off+8,none⟩=some (.int .i64 ((rd_T31 l0 x5_2).f4.f0))∧w'.cell? ⟨(ad19.add ((x5_2).toNat*12)).block,(ad19.add ((x5_2).toNat*12)).off+9,none⟩=some (.int .i64 ((rd_T31 l0 x5_2).f4.f1))∧w'.cell? ⟨(ad19.add ((x5_2).toNat*12)).block,(ad19.add ((x5_2).toNat*12)).off+10,none⟩=some (.int .i64 ((rd_T31 l0 x5_2).f4.f2))∧w'.cell? ⟨(ad19.add ((x5_2).toNat*12)).block,(ad19.add ((x5_2).toNat*12)).off+11,none⟩=some (.int .i64 ((rd_T31 l0 x5_2).f5))∧w'.cell? (ad19.add ((x5_2).toNat*12))=some (.string ((rd_T31 l0 x5_2).f0))∧w'.cell? ⟨(ad19.add ((x5_2).toNat*12)).block,(ad19.add ((x5_2).toNat*12)).off+1,none⟩=some (.string ((rd_T31 l0 x5_2).f1))∧w'.cell? ⟨(ad19.add ((x5_2).toNat*12)).block,(ad19.add ((x5_2).toNat*12)).off+2,none⟩=some (.int .i64 ((rd_T31 l0 x5_2).f2.f0))∧w'.cell? ⟨(ad19.add ((x5_2).toNat*12)).block,(ad19.add ((x5_2).toNat*12)).off+3,none⟩=some (.int .i64 ((rd_T31 l0 x5_2).f2.f1))∧w'.cell? ⟨(ad19.add ((x5_2).toNat*12)).block,(ad19.add ((x5_2).toNat*12)).off+4,none⟩=some (.int .i64 ((rd_T31 l0 x5_2).f2.f2))∧w'.cell? ⟨(ad19.add ((x5_2).toNat*12)).block,(ad19.add ((x5_2).toNat*12)).off+5,none⟩=some (.int .i64 ((rd_T31 l0 x5_2).f3.f0))∧w'.cell? ⟨(ad19.add ((x5_2).toNat*12)).block,(ad19.add ((x5_2).toNat*12)).off+6,none⟩=some (.int .i64 ((rd_T31 l0 x5_2).f3.f1))∧w'.cell? ⟨(ad19.add ((x5_2).toNat*12)).block,(ad19.add ((x5_2).toNat*12)).off+7,none⟩=some (.int .i64 ((rd_T31 l0 x5_2).f3.f2))∧w'.cell? ⟨(ad19.add ((x5_2).toNat*12)).block,(ad19.add ((x5_2).toNat*12)).off+8,none⟩=some (.int .i64 ((rd_T31 l0 x5_2).f4.f0))∧w'.cell? ⟨(ad19.add ((x5_2).toNat*12)).block,(ad19.add ((x5_2).toNat*12)).off+9,none⟩=some (.int .i64 ((rd_T31 l0 x5_2).f4.f1))∧w'.cell? ⟨(ad19.add ((x5_2).toNat*12)).block,(ad19.add ((x5_2).toNat*12)).off+10,none⟩=some (.int .i64 ((rd_T31 l0 x5_2).f4.f2))∧w'.cell? ⟨(ad19.add ((x5_2).toNat*12)).block,(ad19.add ((x5_2).toNat*12)).off+11,none⟩=some (.int .i64 ((rd_T31 l0 x5_2).f5))) (ds:=[]) (bt_ 20 0) (by kernel_rfl) rfl rfl ⟨(blk_cell BK20.out 0).trans rfl,(blk_cell BK20.out 1).trans rfl,(blk_cell BK20.out 2).trans rfl,(zx_ HB hw27_0),(zx_ HB hw27_1),(zx_ HB hw27_2),(zx_ HB hw27_3),(zx_ HB hw27_4),(zx_ HB hw27_5),(zx_ HB hw27_6),(zx_ HB hw27_7),(zx_ HB hw27_8),(zx_ HB hw27_9),(zx_ HB hw27_10),(zx_ HB hw27_11),(zx_ HB hw28_0),(zx_ HB hw28_1),(zx_ HB hw28_2),(zx_ HB hw28_3),(zx_ HB hw28_4),(zx_ HB hw28_5),(zx_ HB hw28_6),(zx_ HB hw28_7),(zx_ HB hw28_8),(zx_ HB hw28_9),(zx_ HB hw28_10),(zx_ HB hw28_11)⟩ (fun hHeld=> ?_);refine with_tabW r10_Right.tab18 r10_Right.bits18 (fun HT_ HW_=> ?_)
       generalize wr.drew=w258 at BK20 HB hx27_0 hx27_1 hx27_10 hx27_11 hx27_2 hx27_3 hx27_4 hx27_5 hx27_6 hx27_7 hx27_8 hx27_9 hx28_0 hx28_1 hx28_10 hx28_11 hx28_2 hx28_3 hx28_4 hx28_5 hx28_6 hx28_7 hx28_8 hx28_9 hHeld ⊢
       refine pu_ (i:=1) (N:=some 124) (bt_ 20 2) HT_ ?_
       refine pu_ (i:=2) (N:=some 125) (bt_ 20 6) HT_ ?_
       refine pu_ (i:=3) (N:=some 126) (bt_ 20 14) HT_ ?_
       refine pu_ (i:=4) (N:=some 127) (bt_ 20 30) HT_ ?_
       refine tk_ (i:=0) (N:=some 123) (bt_ 20 31) HT_ HW_ hHeld ?_
       refine tk_ (i:=5) (N:=some 128) (bt_ 20 63) HT_ HW_ hHeld ?_
       refine pu_ (i:=6) (N:=some 129) (bt_ 20 127) HT_ ?_
       refine pu_ (i:=7) (N:=some 130) (bt_ 20 255) HT_ ?_
       refine pu_ (i:=8) (N:=some 131) (bt_ 20 511) HT_ ?_
       refine pu_ (i:=9) (N:=some 132) (bt_ 20 1023) HT_ ?_
       refine pu_ (i:=10) (N:=some 133) (bt_ 20 2047) HT_ ?_
       refine pu_ (i:=11) (N:=some 134) (bt_ 20 4095) HT_ ?_
       refine pu_ (i:=12) (N:=some 135) (bt_ 20 8191) HT_ ?_
       refine pu_ (i:=16) (N:=some 139) (bt_ 20 73727) HT_ ?_
       refine pu_ (i:=17) (N:=some 140) (bt_ 20 204799) HT_ ?_
       refine tk_ (i:=13) (N:=some 136) (bt_ 20 212991) HT_ HW_ hHeld ?_
       refine on_ (i:=14) (N:=some 137) (bt_ 20 229375) HT_ (fun K hK=> ?_)
       refine gs_ Try.func106 #[.slice (some ad19) l0.length c0, .string ((rd_T31 l0 x5_2).f0)] ?_
       with_reducible refine (r10_Up.calls k3 _ _ l0 ((rd_T31 l0 x5_2).f0) t29 _ ?side1 ?side2 A253.out).mono ?_
       (case side1=>exact zc_ (Kd.C_below HR0.out HB.out))
       (case side2=>exact HC0.out)
       rintro e w259 ⟨v30,rfl,ho0,hb⟩
       refine ⟨_,rfl, ?_⟩
       have HO31:=am_ (Kd.R_lower ho0 (below_size (zl1_ HB GE20)))
       replace BK20:=am_ (blk_below (zb_ BK20) hb)
       replace HB:=am_ (below_step (zl1_ HB GE20) hb)
       (try clear hb)
       (try clear hb2)
       (try clear hk)
       (try clear hi)
       (try clear ho0)
       obtain ⟨Ao260,co260,eo260⟩:=Kd.R_slice HO31.out
       (first|subst eo260|(injection eo260 with f1_ f2_ f3_;have f4_:=f1_.symm;have f5_:=f3_.symm;clear f1_ f2_ f3_;subst f4_;subst f5_))
       refine hK.out _ _ ⟨(blk_cell BK20.out 0).trans rfl,(blk_cell BK20.out 1).trans rfl,(blk_cell BK20.out 2).trans rfl,(zx_ HB hw27_0),(zx_ HB hw27_1),(zx_ HB hw27_2),(zx_ HB hw27_3),(zx_ HB hw27_4),(zx_ HB hw27_5),(zx_ HB hw27_6),(zx_ HB hw27_7),(zx_ HB hw27_8),(zx_ HB hw27_9),(zx_ HB hw27_10),(zx_ HB hw27_11),(zx_ HB hw28_0),(zx_ HB hw28_1),(zx_ HB hw28_2),(zx_ HB hw28_3),(zx_ HB hw28_4),(zx_ HB hw28_5),(zx_ HB hw28_6),(zx_ HB hw28_7),(zx_ HB hw28_8),(zx_ HB hw28_9),(zx_ HB hw28_10),(zx_ HB hw28_11)⟩ (fun hHeld=> ?_)
       clear hK K
       refine no_ (N:=some 137) ?_
       refine pu_ (i:=15) (N:=some 138) (bt_ 20 262143) HT_ ?_
       refine pu_ (i:=18) (N:=some 141) (bt_ 20 524287) HT_ ?_
       refine pu_ (i:=19) (N:=some 142) (bt_ 20 1048575) HT_ ?_
       refine done_ (done_of HT_.out (by kernel_rfl)) ?_
       try go_wp2
       go_roundg k3
       case measure=>have:=HK1.out;have:=HK2.out;have:=HK3.out;omega
       case rel=>exact ⟨(wrap64 (x5_2+1)),(by first|rfl|(simp;done)|(simp [*];done)),H',⟨by have:=HK1.out;have:=HK2.out;have:=HK3.out;omega⟩,⟨zl1_ HB GE20⟩⟩
end Go.Proofs.Ytcgefpklljclgaa.Print
