/- A part of the proof of ShapeLimits: the machine's side by the kit's print, contracts and lemmas by this session. -/
import Derived.Laws.Strings
import Derived.Shelf.Abstract
import Derived.StillTailTactics
import Derived.Laws.Cover1
import Derived.Test.YtcgefpklljclgaaRows
import Derived.WalkKit
import Derived.ProofKit
import Derived.OpenShut
import Derived.JoinedOf
import Derived.Test.YtcgefpklljclgaaBShapeLimits0
import Derived.Test.YtcgefpklljclgaaBShapeLimits1
import Derived.Test.YtcgefpklljclgaaBShapeLimits2
namespace Go.Proofs.Ytcgefpklljclgaa.Print
open Go.RowKit Go.Proofs.YtcgefpklljclgaaW.PrintWords Go.Proofs.YtcgefpklljclgaaW.PrintLast Go.Proofs.YtcgefpklljclgaaW.PrintMore
attribute [local go_sem] max2_int min2_int max_two min_two max_three min_three max_four min_four
set_option linter.unusedVariables false
set_option linter.unusedSimpArgs false

attribute [local go_sem high] eqA27
mutual
def law15_ShapeLimits.l0:Nat→List (S31)→List (S31)→Int→Int→List (S31)→Int→Bool→Int→ByteArray→ByteArray→Int→Int→Int→Int→Int→Int→Int→Int→Int→Int→Int→Int→Int→Option (Bool)
 |0,_,_,_,_,_,_,_,_,_,_,_,_,_,_,_,_,_,_,_,_,_,_,_=>none
 |k+1,x7,x10,x11,x13,x14,x15,x16,x17,x8000,x8001,x8002,x8003,x8004,x8005,x8006,x8007,x8008,x8009,x8010,x8011,x9000,x9001,x9002=>if x17<(x7.length:Int) then (if x16=true then (law15_ShapeLimits.l0 k x7 x10 x11 x13 x14 x15 true (wrap64 (x17+1)) x8000 x8001 x8002 x8003 x8004 x8005 x8006 x8007 x8008 x8009 x8010 x8011 x9000 x9001 x9002) else (if 0≤x17 then (law15_ShapeLimits.l0 k x7 x10 x11 x13 x14 x15 (((rd_T31 x7 x17).f1).toList==x8000.toList) (wrap64 (x17+1)) x8000 x8001 x8002 x8003 x8004 x8005 x8006 x8007 x8008 x8009 x8010 x8011 x9000 x9001 x9002) else (none))) else ((law1_Num.f x11).bind fun t22=>(if ((t22==0) !=(decide (x8008≤x9000)))=true then (none) else ((law1_Num.f x11).bind fun t23=>(if t23=0 then ((law1_Num.f x13).bind fun t24=>(if t24=14 then ((law1_Num.f x15).bind fun t25=>(if ((t25==13) !=x16)=true then (none) else (if x16=true then (law15_ShapeLimits.j1 k x10 x11 false x8000 x8001 x8002 x8003 x8004 x8005 x8006 x8007 x8008 x8009 x8010 x8011 x9000 x9001 x9002) else ((law1_Num.f x15).bind fun t26=>(if t26=0 then (law15_ShapeLimits.j1 k x10 x11 ((x14.length:Int) !=(wrap64 ((x7.length:Int) - 1))) x8000 x8001 x8002 x8003 x8004 x8005 x8006 x8007 x8008 x8009 x8010 x8011 x9000 x9001 x9002) else (none)))))) else (none))) else ((law1_Num.f x11).bind fun t27=>(if t27=12 then ((law1_Num.f x13).bind fun t28=>(if t28=14 then ((law1_Num.f x15).bind fun t29=>(if ((t29==13) !=x16)=true then (none) else (if x16=true then (law15_ShapeLimits.j1 k x10 x11 false x8000 x8001 x8002 x8003 x8004 x8005 x8006 x8007 x8008 x8009 x8010 x8011 x9000 x9001 x9002) else ((law1_Num.f x15).bind fun t30=>(if t30=0 then (law15_ShapeLimits.j1 k x10 x11 ((x14.length:Int) !=(wrap64 ((x7.length:Int) - 1))) x8000 x8001 x8002 x8003 x8004 x8005 x8006 x8007 x8008 x8009 x8010 x8011 x9000 x9001 x9002) else (none)))))) else (none))) else (none)))))))
def law15_ShapeLimits.j1:Nat→List (S31)→Int→Bool→ByteArray→ByteArray→Int→Int→Int→Int→Int→Int→Int→Int→Int→Int→Int→Int→Int→Option (Bool)
 |0,_,_,_,_,_,_,_,_,_,_,_,_,_,_,_,_,_,_=>none
 |k+1,x10,x11,x142,x8000,x8001,x8002,x8003,x8004,x8005,x8006,x8007,x8008,x8009,x8010,x8011,x9000,x9001,x9002=>if x142=true then (none) else ((law1_Num.f x11).bind fun t31=>(if t31=0 then ((r10_Find.f k x10 x8000).bind fun t32=>(if t32<0 then (none) else (if 0≤t32 then (if t32<(x10.length:Int) then (if (!(((rd_T31 x10 t32).f2.f0)==x9000)||(!(((rd_T31 x10 t32).f2.f1)==x9001)||(!(((rd_T31 x10 t32).f2.f2)==x9002))))=true then (none) else (if ((rd_T31 x10 t32).f5)=(wrap64 (x8011+1)) then ((law15_awake.f).bind fun t35=>(some t35)) else (none))) else (none)) else (none)))) else ((law15_awake.f).bind fun t36=>(some t36))))
end
def law15_ShapeLimits.f (k:Nat) (l0:List Int) (a1:Int) (a2:Int):Option (Bool):=if (l0.length:Int)>90 then ((law15_awake.f).bind fun t1=>(some t1)) else ((law12_Make.f k l0).bind fun t2=>(if (t2.length:Int)=0 then ((law15_awake.f).bind fun t5=>(some t5)) else (if 0≤(Int.tmod (wrap64 (a1)) (t2.length:Int)) then (if (Int.tmod (wrap64 (a1)) (t2.length:Int))<(t2.length:Int) then ((shape_Limit.f t2 ((rd_T31 t2 (Int.tmod (wrap64 (a1)) (t2.length:Int))).f0) (Int.tmod (wrap64 (a2)) 300) ((rd_T31 t2 (Int.tmod (wrap64 (a1)) (t2.length:Int))).f4.f1) ((rd_T31 t2 (Int.tmod (wrap64 (a1)) (t2.length:Int))).f4.f2) (-1)).bind fun bt9=>((shape_Limit.f t2 ((rd_T31 t2 (Int.tmod (wrap64 (a1)) (t2.length:Int))).f0) (Int.tmod (wrap64 (a2)) 300) ((rd_T31 t2 (Int.tmod (wrap64 (a1)) (t2.length:Int))).f4.f1) ((rd_T31 t2 (Int.tmod (wrap64 (a1)) (t2.length:Int))).f4.f2) (wrap64 (((rd_T31 t2 (Int.tmod (wrap64 (a1)) (t2.length:Int))).f5)+1))).bind fun bt13=>((shape_Delete.f k t2 ((rd_T31 t2 (Int.tmod (wrap64 (a1)) (t2.length:Int))).f0) (-1)).bind fun bt17=>(law15_ShapeLimits.l0 k t2 bt9.1 bt9.2 bt13.2 bt17.1 bt17.2 (!(((rd_T31 t2 (Int.tmod (wrap64 (a1)) (t2.length:Int))).f3.f0)==0)||(!(((rd_T31 t2 (Int.tmod (wrap64 (a1)) (t2.length:Int))).f3.f1)==0)||(!(((rd_T31 t2 (Int.tmod (wrap64 (a1)) (t2.length:Int))).f3.f2)==0)))) 0 ((rd_T31 t2 (Int.tmod (wrap64 (a1)) (t2.length:Int))).f0) ((rd_T31 t2 (Int.tmod (wrap64 (a1)) (t2.length:Int))).f1) ((rd_T31 t2 (Int.tmod (wrap64 (a1)) (t2.length:Int))).f2.f0) ((rd_T31 t2 (Int.tmod (wrap64 (a1)) (t2.length:Int))).f2.f1) ((rd_T31 t2 (Int.tmod (wrap64 (a1)) (t2.length:Int))).f2.f2) ((rd_T31 t2 (Int.tmod (wrap64 (a1)) (t2.length:Int))).f3.f0) ((rd_T31 t2 (Int.tmod (wrap64 (a1)) (t2.length:Int))).f3.f1) ((rd_T31 t2 (Int.tmod (wrap64 (a1)) (t2.length:Int))).f3.f2) ((rd_T31 t2 (Int.tmod (wrap64 (a1)) (t2.length:Int))).f4.f0) ((rd_T31 t2 (Int.tmod (wrap64 (a1)) (t2.length:Int))).f4.f1) ((rd_T31 t2 (Int.tmod (wrap64 (a1)) (t2.length:Int))).f4.f2) ((rd_T31 t2 (Int.tmod (wrap64 (a1)) (t2.length:Int))).f5) (Int.tmod (wrap64 (a2)) 300) ((rd_T31 t2 (Int.tmod (wrap64 (a1)) (t2.length:Int))).f4.f1) ((rd_T31 t2 (Int.tmod (wrap64 (a1)) (t2.length:Int))).f4.f2))))) else (none)) else (none))))
theorem law15_ShapeLimits.mono_l: ∀k,(∀y0 y1 y2 y3 y4 y5 y6 y7 y8 y9 y10 y11 y12 y13 y14 y15 y16 y17 y18 y19 y20 y21 y22,LeO (law15_ShapeLimits.l0 k y0 y1 y2 y3 y4 y5 y6 y7 y8 y9 y10 y11 y12 y13 y14 y15 y16 y17 y18 y19 y20 y21 y22) (law15_ShapeLimits.l0 (k+1) y0 y1 y2 y3 y4 y5 y6 y7 y8 y9 y10 y11 y12 y13 y14 y15 y16 y17 y18 y19 y20 y21 y22))∧(∀y0 y1 y2 y3 y4 y5 y6 y7 y8 y9 y10 y11 y12 y13 y14 y15 y16 y17,LeO (law15_ShapeLimits.j1 k y0 y1 y2 y3 y4 y5 y6 y7 y8 y9 y10 y11 y12 y13 y14 y15 y16 y17) (law15_ShapeLimits.j1 (k+1) y0 y1 y2 y3 y4 y5 y6 y7 y8 y9 y10 y11 y12 y13 y14 y15 y16 y17))
 |0=>⟨fun _ _ _ _ _ _ _ _ _ _ _ _ _ _ _ _ _ _ _ _ _ _ _ r h=>by simp [law15_ShapeLimits.l0] at h,fun _ _ _ _ _ _ _ _ _ _ _ _ _ _ _ _ _ _ r h=>by simp [law15_ShapeLimits.j1] at h⟩
 |k+1=>by
  obtain ⟨ih0,ih1⟩:=law15_ShapeLimits.mono_l k
  refine ⟨?_, ?_⟩
  ·intro y0 y1 y2 y3 y4 y5 y6 y7 y8 y9 y10 y11 y12 y13 y14 y15 y16 y17 y18 y19 y20 y21 y22
   unfold law15_ShapeLimits.l0
   repeat' first
   |(with_reducible exact ih0 _ _ _ _ _ _ _ _ _ _ _ _ _ _ _ _ _ _ _ _ _ _ _)
   |(with_reducible exact ih1 _ _ _ _ _ _ _ _ _ _ _ _ _ _ _ _ _ _)
   |(with_reducible exact law12_Make.mono _ _)
   |(with_reducible exact r10_Find.mono _ _ _)
   |(with_reducible exact shape_Delete.mono _ _ _ _)
   |(with_reducible exact LeO.refl _)
   |(with_reducible exact LeO.none _)
   |(with_reducible refine LeO.ite ?_ ?_)
   |(with_reducible refine LeO.bind ?_ (fun _=> ?_))
   |exact ih0 _ _ _ _ _ _ _ _ _ _ _ _ _ _ _ _ _ _ _ _ _ _ _
   |exact ih1 _ _ _ _ _ _ _ _ _ _ _ _ _ _ _ _ _ _
   |exact law12_Make.mono _ _
   |exact r10_Find.mono _ _ _
   |exact shape_Delete.mono _ _ _ _
   |exact LeO.none _
   |refine LeO.ite ?_ ?_
   |refine LeO.bind ?_ (fun _=> ?_)
  ·intro y0 y1 y2 y3 y4 y5 y6 y7 y8 y9 y10 y11 y12 y13 y14 y15 y16 y17
   unfold law15_ShapeLimits.j1
   repeat' first
   |(with_reducible exact ih0 _ _ _ _ _ _ _ _ _ _ _ _ _ _ _ _ _ _ _ _ _ _ _)
   |(with_reducible exact ih1 _ _ _ _ _ _ _ _ _ _ _ _ _ _ _ _ _ _)
   |(with_reducible exact law12_Make.mono _ _)
   |(with_reducible exact r10_Find.mono _ _ _)
   |(with_reducible exact shape_Delete.mono _ _ _ _)
   |(with_reducible exact LeO.refl _)
   |(with_reducible exact LeO.none _)
   |(with_reducible refine LeO.ite ?_ ?_)
   |(with_reducible refine LeO.bind ?_ (fun _=> ?_))
   |exact ih0 _ _ _ _ _ _ _ _ _ _ _ _ _ _ _ _ _ _ _ _ _ _ _
   |exact ih1 _ _ _ _ _ _ _ _ _ _ _ _ _ _ _ _ _ _
   |exact law12_Make.mono _ _
   |exact r10_Find.mono _ _ _
   |exact shape_Delete.mono _ _ _ _
   |exact LeO.none _
   |refine LeO.ite ?_ ?_
   |refine LeO.bind ?_ (fun _=> ?_)
theorem law15_ShapeLimits.mono: ∀a0 a1 a2 k,LeO (law15_ShapeLimits.f k a0 a1 a2) (law15_ShapeLimits.f (k+1) a0 a1 a2):=by
 intro a0 a1 a2 k
 obtain ⟨ih0,ih1⟩:=law15_ShapeLimits.mono_l k
 unfold law15_ShapeLimits.f
 repeat' first
  |(with_reducible exact ih0 _ _ _ _ _ _ _ _ _ _ _ _ _ _ _ _ _ _ _ _ _ _ _)
  |(with_reducible exact ih1 _ _ _ _ _ _ _ _ _ _ _ _ _ _ _ _ _ _)
  |(with_reducible exact law12_Make.mono _ _)
  |(with_reducible exact r10_Find.mono _ _ _)
  |(with_reducible exact shape_Delete.mono _ _ _ _)
  |(with_reducible exact LeO.refl _)
  |(with_reducible exact LeO.none _)
  |(with_reducible refine LeO.ite ?_ ?_)
  |(with_reducible refine LeO.bind ?_ (fun _=> ?_))
  |exact ih0 _ _ _ _ _ _ _ _ _ _ _ _ _ _ _ _ _ _ _ _ _ _ _
  |exact ih1 _ _ _ _ _ _ _ _ _ _ _ _ _ _ _ _ _ _
  |exact law12_Make.mono _ _
  |exact r10_Find.mono _ _ _
  |exact shape_Delete.mono _ _ _ _
  |exact LeO.none _
  |refine LeO.ite ?_ ?_
  |refine LeO.bind ?_ (fun _=> ?_)
def law15_ShapeLimits.T15:Bool×List (List Nat×List Nat):=(true,[([],[]),([0],[0]),([1],[1]),([1],[1]),([2,3,1],[1,2,3]),([4,1],[1,4]),([5,1],[1,5]),([1],[1]),([7,1],[1,7]),([6,8,1],[1,6,8]),([1,9],[1,9]),([10,1,0,1,2,3,4,5,6,7,8,9,10],[0,10])])
def law15_ShapeLimits.B15:List Nat:=[0,1,3,3,15,31,63,3,131,511,1023,2047]
theorem law15_ShapeLimits.tab15:rtab .any (opsOf Try.f23 15)=law15_ShapeLimits.T15:=by kernel_rfl
theorem law15_ShapeLimits.bits15:waitsOk law15_ShapeLimits.T15.2 law15_ShapeLimits.B15=true:=by kernel_rfl
def law15_ShapeLimits.T16:Bool×List (List Nat×List Nat):=(true,[([],[]),([0],[0]),([1],[1]),([],[]),([3],[3]),([4],[4]),([],[]),([6],[6]),([5,7],[5,7]),([2,8],[2,8]),([9,1],[9]),([10],[10]),([11,10,10],[10,11]),([12,10],[10,12]),([13,12,10],[10,13]),([14],[14]),([15,14,14],[14,15]),([16,14],[14,16]),([14,17,10],[10,14,17]),([10,18],[10,18]),([19,16],[19]),([20],[20]),([21,20,20],[20,21]),([22,20],[20,22]),([20,23],[20,23]),([24,22],[24]),([25],[25]),([26,25,25],[25,26]),([27,25],[25,27]),([25],[25]),([28,29,25],[25,28,29]),([25,30],[25,30]),([31,27],[31]),([32],[32]),([33,32],[32,33]),([34,32,32],[32,34]),([35],[35]),([36,35,35],[35,36]),([37,35],[35,37]),([38,37,35],[35,38]),([39],[39]),([40,39],[39,40]),([39],[39]),([42,39],[39,42]),([43,39],[39,43]),([41,44,39],[39,41,44]),([39,45,35],[35,39,45]),([35,46,32],[32,35,46]),([32,47],[32,47])])
def law15_ShapeLimits.B16:List Nat:=[0,1,3,0,8,24,0,64,248,511,1023,2047,4095,8191,16383,32767,65535,131071,262143,524287,1048575,2097151,4194303,8388607,16777215,33554431,67108863,134217727,268435455,67108863,1073741823,2147483647,4294967295,8589934591,17179869183,34359738367,68719476735,137438953471,274877906943,549755813887,1099511627775,2199023255551,1099511627775,5497558138879,14293651161087,35184372088831,70368744177663,140737488355327,281474976710655]
theorem law15_ShapeLimits.tab16:rtab .any (opsOf Try.f23 16)=law15_ShapeLimits.T16:=by kernel_rfl
theorem law15_ShapeLimits.bits16:waitsOk law15_ShapeLimits.T16.2 law15_ShapeLimits.B16=true:=by kernel_rfl
def law15_ShapeLimits.T20:Bool×List (List Nat×List Nat):=(true,[([],[]),([0],[0]),([1],[1]),([2],[2]),([2],[2]),([3,4,2],[2,3,4]),([5,2],[2,5]),([6,2],[2,6]),([2],[2]),([7,8,2],[2,7,8]),([2,9],[2,9]),([10,2],[10]),([11],[11]),([11],[11]),([12,13,11],[11,12,13]),([14,11],[11,14]),([15,11],[11,15]),([11],[11]),([17,11],[11,17]),([18,11],[11,18]),([16,19,11],[11,16,19]),([11,20],[11,20])])
def law15_ShapeLimits.B20:List Nat:=[0,1,3,7,7,31,63,127,7,511,1023,2047,4095,4095,16383,32767,65535,4095,135167,397311,1048575,2097151]
theorem law15_ShapeLimits.tab20:rtab .any (opsOf Try.f23 20)=law15_ShapeLimits.T20:=by kernel_rfl
theorem law15_ShapeLimits.bits20:waitsOk law15_ShapeLimits.T20.2 law15_ShapeLimits.B20=true:=by kernel_rfl
set_option maxHeartbeats 80000000 in
set_option maxRecDepth 100000 in
theorem law15_ShapeLimits.calls (k:Nat) (A0:Option Addr) (c0:Nat) (l0:List Int) (a1:Int) (a2:Int) (r:Bool) (w:World) (hr0:Kd.C (Kd.int .u8) w A0 l0.length l0) (hc0:l0.length≤c0) (h:law15_ShapeLimits.f k l0 a1 a2=some r):
  Calls Try.prog 23 #[.slice A0 l0.length c0, .int .u8 a1, .int .u16 a2] w fun e w'=>e= .returned (.bool r)∧Below w.heap.size w w':=by
 have hu31:=Try.underlying31
 have hu27:=Try.underlying27
 have HR0:=Aside0.mk hr0
 have HC0:=Aside0.mk hc0
 clear hr0 hc0
 have HB:=am_ (Below.refl w.heap.size w)
 have H:(if (l0.length:Int)>90 then ((law15_awake.f).bind fun t1=>(some t1)) else ((law12_Make.f k l0).bind fun t2=>(if (t2.length:Int)=0 then ((law15_awake.f).bind fun t5=>(some t5)) else (if 0≤(Int.tmod (wrap64 (a1)) (t2.length:Int)) then (if (Int.tmod (wrap64 (a1)) (t2.length:Int))<(t2.length:Int) then ((shape_Limit.f t2 ((rd_T31 t2 (Int.tmod (wrap64 (a1)) (t2.length:Int))).f0) (Int.tmod (wrap64 (a2)) 300) ((rd_T31 t2 (Int.tmod (wrap64 (a1)) (t2.length:Int))).f4.f1) ((rd_T31 t2 (Int.tmod (wrap64 (a1)) (t2.length:Int))).f4.f2) (-1)).bind fun bt9=>((shape_Limit.f t2 ((rd_T31 t2 (Int.tmod (wrap64 (a1)) (t2.length:Int))).f0) (Int.tmod (wrap64 (a2)) 300) ((rd_T31 t2 (Int.tmod (wrap64 (a1)) (t2.length:Int))).f4.f1) ((rd_T31 t2 (Int.tmod (wrap64 (a1)) (t2.length:Int))).f4.f2) (wrap64 (((rd_T31 t2 (Int.tmod (wrap64 (a1)) (t2.length:Int))).f5)+1))).bind fun bt13=>((shape_Delete.f k t2 ((rd_T31 t2 (Int.tmod (wrap64 (a1)) (t2.length:Int))).f0) (-1)).bind fun bt17=>(law15_ShapeLimits.l0 k t2 bt9.1 bt9.2 bt13.2 bt17.1 bt17.2 (!(((rd_T31 t2 (Int.tmod (wrap64 (a1)) (t2.length:Int))).f3.f0)==0)||(!(((rd_T31 t2 (Int.tmod (wrap64 (a1)) (t2.length:Int))).f3.f1)==0)||(!(((rd_T31 t2 (Int.tmod (wrap64 (a1)) (t2.length:Int))).f3.f2)==0)))) 0 ((rd_T31 t2 (Int.tmod (wrap64 (a1)) (t2.length:Int))).f0) ((rd_T31 t2 (Int.tmod (wrap64 (a1)) (t2.length:Int))).f1) ((rd_T31 t2 (Int.tmod (wrap64 (a1)) (t2.length:Int))).f2.f0) ((rd_T31 t2 (Int.tmod (wrap64 (a1)) (t2.length:Int))).f2.f1) ((rd_T31 t2 (Int.tmod (wrap64 (a1)) (t2.length:Int))).f2.f2) ((rd_T31 t2 (Int.tmod (wrap64 (a1)) (t2.length:Int))).f3.f0) ((rd_T31 t2 (Int.tmod (wrap64 (a1)) (t2.length:Int))).f3.f1) ((rd_T31 t2 (Int.tmod (wrap64 (a1)) (t2.length:Int))).f3.f2) ((rd_T31 t2 (Int.tmod (wrap64 (a1)) (t2.length:Int))).f4.f0) ((rd_T31 t2 (Int.tmod (wrap64 (a1)) (t2.length:Int))).f4.f1) ((rd_T31 t2 (Int.tmod (wrap64 (a1)) (t2.length:Int))).f4.f2) ((rd_T31 t2 (Int.tmod (wrap64 (a1)) (t2.length:Int))).f5) (Int.tmod (wrap64 (a2)) 300) ((rd_T31 t2 (Int.tmod (wrap64 (a1)) (t2.length:Int))).f4.f1) ((rd_T31 t2 (Int.tmod (wrap64 (a1)) (t2.length:Int))).f4.f2))))) else (none)) else (none)))))=some r:=h
 clear h
 by_cases c4:(l0.length:Int)>90
 ·rw [if_pos c4] at H
  have c4b0:decide (90<(l0.length:Int))=true:=decide_eq_true c4
  have c4b1:decide (90<l0.length)=true:=decide_eq_true (by omega)
  clear c4
  replace H:=Option.bind_eq_some_iff.mp H
  obtain ⟨t1,A50,H⟩:=H
  replace H:(some t1)=some r:=H
  have A5:=Aside0.mk A50
  clear A50
  obtain rfl:=Option.some.inj H
  go_enter Try.func23,Try.ntmps23
  go_wp2_with (first|((with_reducible refine gate_callee (f:=85) rfl ?_);refine goesL_ (some 22) rfl rfl Try.func85 (by kernel_rfl) rfl #[] rfl zs_ ?_;(with_reducible refine (law15_awake.calls t1 _ A5.out).mono ?_);rintro e w6 ⟨rfl,hb⟩;refine ⟨_,rfl, ?_⟩;have n0_:=am_ (below_step (zl0_ HB) hb);clear HB;have HB:=n0_;clear n0_;(try clear hb);(try clear hb2);(try clear hk);(try clear hi)))
  go_ret
  exact ⟨by first|rfl|(simp [errW_none,errW_some]<;>rfl)|(simp [*,errW_none,errW_some]<;>rfl),zl0_ HB⟩
 ·rw [if_neg c4] at H
  have c4b0:decide (90<(l0.length:Int))=false:=decide_eq_false c4
  have c4b1:decide (90<l0.length)=false:=decide_eq_false (by omega)
  clear c4
  replace H:=Option.bind_eq_some_iff.mp H
  obtain ⟨t2,A70,H⟩:=H
  replace H:(if (t2.length:Int)=0 then ((law15_awake.f).bind fun t5=>(some t5)) else (if 0≤(Int.tmod (wrap64 (a1)) (t2.length:Int)) then (if (Int.tmod (wrap64 (a1)) (t2.length:Int))<(t2.length:Int) then ((shape_Limit.f t2 ((rd_T31 t2 (Int.tmod (wrap64 (a1)) (t2.length:Int))).f0) (Int.tmod (wrap64 (a2)) 300) ((rd_T31 t2 (Int.tmod (wrap64 (a1)) (t2.length:Int))).f4.f1) ((rd_T31 t2 (Int.tmod (wrap64 (a1)) (t2.length:Int))).f4.f2) (-1)).bind fun bt9=>((shape_Limit.f t2 ((rd_T31 t2 (Int.tmod (wrap64 (a1)) (t2.length:Int))).f0) (Int.tmod (wrap64 (a2)) 300) ((rd_T31 t2 (Int.tmod (wrap64 (a1)) (t2.length:Int))).f4.f1) ((rd_T31 t2 (Int.tmod (wrap64 (a1)) (t2.length:Int))).f4.f2) (wrap64 (((rd_T31 t2 (Int.tmod (wrap64 (a1)) (t2.length:Int))).f5)+1))).bind fun bt13=>((shape_Delete.f k t2 ((rd_T31 t2 (Int.tmod (wrap64 (a1)) (t2.length:Int))).f0) (-1)).bind fun bt17=>(law15_ShapeLimits.l0 k t2 bt9.1 bt9.2 bt13.2 bt17.1 bt17.2 (!(((rd_T31 t2 (Int.tmod (wrap64 (a1)) (t2.length:Int))).f3.f0)==0)||(!(((rd_T31 t2 (Int.tmod (wrap64 (a1)) (t2.length:Int))).f3.f1)==0)||(!(((rd_T31 t2 (Int.tmod (wrap64 (a1)) (t2.length:Int))).f3.f2)==0)))) 0 ((rd_T31 t2 (Int.tmod (wrap64 (a1)) (t2.length:Int))).f0) ((rd_T31 t2 (Int.tmod (wrap64 (a1)) (t2.length:Int))).f1) ((rd_T31 t2 (Int.tmod (wrap64 (a1)) (t2.length:Int))).f2.f0) ((rd_T31 t2 (Int.tmod (wrap64 (a1)) (t2.length:Int))).f2.f1) ((rd_T31 t2 (Int.tmod (wrap64 (a1)) (t2.length:Int))).f2.f2) ((rd_T31 t2 (Int.tmod (wrap64 (a1)) (t2.length:Int))).f3.f0) ((rd_T31 t2 (Int.tmod (wrap64 (a1)) (t2.length:Int))).f3.f1) ((rd_T31 t2 (Int.tmod (wrap64 (a1)) (t2.length:Int))).f3.f2) ((rd_T31 t2 (Int.tmod (wrap64 (a1)) (t2.length:Int))).f4.f0) ((rd_T31 t2 (Int.tmod (wrap64 (a1)) (t2.length:Int))).f4.f1) ((rd_T31 t2 (Int.tmod (wrap64 (a1)) (t2.length:Int))).f4.f2) ((rd_T31 t2 (Int.tmod (wrap64 (a1)) (t2.length:Int))).f5) (Int.tmod (wrap64 (a2)) 300) ((rd_T31 t2 (Int.tmod (wrap64 (a1)) (t2.length:Int))).f4.f1) ((rd_T31 t2 (Int.tmod (wrap64 (a1)) (t2.length:Int))).f4.f2))))) else (none)) else (none)))=some r:=H
  have A7:=Aside0.mk A70
  clear A70
  by_cases c8:(t2.length:Int)=0
  ·rw [if_pos c8] at H
   have c8b0:((t2.length:Int)==0)=true:=beq_iff_eq.mpr c8
   have c8b1:((t2.length:Int) !=0)=false:=bne_eq_false_iff_eq.mpr c8
   clear c8
   replace H:=Option.bind_eq_some_iff.mp H
   obtain ⟨t5,A90,H⟩:=H
   replace H:(some t5)=some r:=H
   have A9:=Aside0.mk A90
   clear A90
   obtain rfl:=Option.some.inj H
   go_enter Try.func23,Try.ntmps23
   go_wp2_with (first|((with_reducible refine gate_callee (f:=32) rfl ?_);refine goesL_ (some 24) rfl rfl Try.func32 (by kernel_rfl) rfl #[.slice A0 l0.length c0] rfl zs_ ?_;(with_reducible refine (law12_Make.calls k _ _ l0 t2 _ ?side1 ?side2 A7.out).mono ?_);(case side1=>repeat (first|exact HR0.out|(with_reducible refine Kd.C_alloc ?_ _)|(with_reducible refine Kd.C_drewN ?_ _)|(with_reducible refine Kd.C_drew ?_)));(case side2=>exact HC0.out);rintro e w10 ⟨v3,rfl,ho0,hb⟩;refine ⟨_,rfl, ?_⟩;have n0_:=am_ (Kd.R_lower ho0 (below_size (zl0_ HB)));have n1_:=am_ (below_step (zl0_ HB) hb);clear HB;have HO4:=n0_;have HB:=n1_;clear n0_ n1_;(try clear hb);(try clear hb2);(try clear hk);(try clear hi);(try clear ho0);obtain ⟨Ao11,co11,eo11⟩:=Kd.R_slice HO4.out;subst eo11)|((with_reducible refine gate_callee (f:=85) rfl ?_);refine goesL_ (some 28) rfl rfl Try.func85 (by kernel_rfl) rfl #[] rfl zs_ ?_;(with_reducible refine (law15_awake.calls t5 _ A9.out).mono ?_);rintro e w12 ⟨rfl,hb⟩;refine ⟨_,rfl, ?_⟩;have n0_:=am_ (Kd.R_below (zr_ HO4) hb);have n1_:=am_ (below_step (zl0_ HB) hb);clear HO4;clear HB;have HO4:=n0_;have HB:=n1_;clear n0_ n1_;(try clear hb);(try clear hb2);(try clear hk);(try clear hi)))
   go_ret
   exact ⟨by first|rfl|(simp [errW_none,errW_some]<;>rfl)|(simp [*,errW_none,errW_some]<;>rfl),zl0_ HB⟩
  ·rw [if_neg c8] at H
   have c8b0:((t2.length:Int)==0)=false:=beq_eq_false_iff_ne.mpr c8
   have c8b1:((t2.length:Int) !=0)=true:=bne_iff_ne.mpr c8
   have c8b2: ¬(t2=[]):=fun h_=>c8 (by rw [h_];rfl)
   obtain ⟨ji13,hji13⟩: ∃j_:Int,(Int.tmod (wrap64 (a1)) (t2.length:Int))=j_:=⟨_,rfl⟩
   replace H:(if 0≤(ji13) then (if (ji13)<(t2.length:Int) then ((shape_Limit.f t2 ((rd_T31 t2 (ji13)).f0) (Int.tmod (wrap64 (a2)) 300) ((rd_T31 t2 (ji13)).f4.f1) ((rd_T31 t2 (ji13)).f4.f2) (-1)).bind fun bt9=>((shape_Limit.f t2 ((rd_T31 t2 (ji13)).f0) (Int.tmod (wrap64 (a2)) 300) ((rd_T31 t2 (ji13)).f4.f1) ((rd_T31 t2 (ji13)).f4.f2) (wrap64 (((rd_T31 t2 (ji13)).f5)+1))).bind fun bt13=>((shape_Delete.f k t2 ((rd_T31 t2 (ji13)).f0) (-1)).bind fun bt17=>(law15_ShapeLimits.l0 k t2 bt9.1 bt9.2 bt13.2 bt17.1 bt17.2 (!(((rd_T31 t2 (ji13)).f3.f0)==0)||(!(((rd_T31 t2 (ji13)).f3.f1)==0)||(!(((rd_T31 t2 (ji13)).f3.f2)==0)))) 0 ((rd_T31 t2 (ji13)).f0) ((rd_T31 t2 (ji13)).f1) ((rd_T31 t2 (ji13)).f2.f0) ((rd_T31 t2 (ji13)).f2.f1) ((rd_T31 t2 (ji13)).f2.f2) ((rd_T31 t2 (ji13)).f3.f0) ((rd_T31 t2 (ji13)).f3.f1) ((rd_T31 t2 (ji13)).f3.f2) ((rd_T31 t2 (ji13)).f4.f0) ((rd_T31 t2 (ji13)).f4.f1) ((rd_T31 t2 (ji13)).f4.f2) ((rd_T31 t2 (ji13)).f5) (Int.tmod (wrap64 (a2)) 300) ((rd_T31 t2 (ji13)).f4.f1) ((rd_T31 t2 (ji13)).f4.f2))))) else (none)) else (none))=some r:=by first|(rw [hji13] at H;exact H)|(simp only [hji13] at H ⊢;exact H)
   (try rw [hji13] at A7)
   by_cases c14:0≤(ji13)
   ·rw [if_pos c14] at H
    have c14b0:decide (0≤(ji13))=true:=decide_eq_true c14
    clear c14
    by_cases c15:(ji13)<(t2.length:Int)
    ·rw [if_pos c15] at H
     have c15b0:decide ((ji13)<(t2.length:Int))=true:=decide_eq_true c15
     clear c15
     replace H:=Option.bind_eq_some_iff.mp H
     obtain ⟨⟨t9,t12⟩,A160,H⟩:=H
     replace H:((shape_Limit.f t2 ((rd_T31 t2 (ji13)).f0) (Int.tmod (wrap64 (a2)) 300) ((rd_T31 t2 (ji13)).f4.f1) ((rd_T31 t2 (ji13)).f4.f2) (wrap64 (((rd_T31 t2 (ji13)).f5)+1))).bind fun bt13=>((shape_Delete.f k t2 ((rd_T31 t2 (ji13)).f0) (-1)).bind fun bt17=>(law15_ShapeLimits.l0 k t2 t9 t12 bt13.2 bt17.1 bt17.2 (!(((rd_T31 t2 (ji13)).f3.f0)==0)||(!(((rd_T31 t2 (ji13)).f3.f1)==0)||(!(((rd_T31 t2 (ji13)).f3.f2)==0)))) 0 ((rd_T31 t2 (ji13)).f0) ((rd_T31 t2 (ji13)).f1) ((rd_T31 t2 (ji13)).f2.f0) ((rd_T31 t2 (ji13)).f2.f1) ((rd_T31 t2 (ji13)).f2.f2) ((rd_T31 t2 (ji13)).f3.f0) ((rd_T31 t2 (ji13)).f3.f1) ((rd_T31 t2 (ji13)).f3.f2) ((rd_T31 t2 (ji13)).f4.f0) ((rd_T31 t2 (ji13)).f4.f1) ((rd_T31 t2 (ji13)).f4.f2) ((rd_T31 t2 (ji13)).f5) (Int.tmod (wrap64 (a2)) 300) ((rd_T31 t2 (ji13)).f4.f1) ((rd_T31 t2 (ji13)).f4.f2))))=some r:=H
     have A16:=Aside0.mk A160
     clear A160
     replace H:=Option.bind_eq_some_iff.mp H
     obtain ⟨⟨t13,t16⟩,A170,H⟩:=H
     replace H:((shape_Delete.f k t2 ((rd_T31 t2 (ji13)).f0) (-1)).bind fun bt17=>(law15_ShapeLimits.l0 k t2 t9 t12 t16 bt17.1 bt17.2 (!(((rd_T31 t2 (ji13)).f3.f0)==0)||(!(((rd_T31 t2 (ji13)).f3.f1)==0)||(!(((rd_T31 t2 (ji13)).f3.f2)==0)))) 0 ((rd_T31 t2 (ji13)).f0) ((rd_T31 t2 (ji13)).f1) ((rd_T31 t2 (ji13)).f2.f0) ((rd_T31 t2 (ji13)).f2.f1) ((rd_T31 t2 (ji13)).f2.f2) ((rd_T31 t2 (ji13)).f3.f0) ((rd_T31 t2 (ji13)).f3.f1) ((rd_T31 t2 (ji13)).f3.f2) ((rd_T31 t2 (ji13)).f4.f0) ((rd_T31 t2 (ji13)).f4.f1) ((rd_T31 t2 (ji13)).f4.f2) ((rd_T31 t2 (ji13)).f5) (Int.tmod (wrap64 (a2)) 300) ((rd_T31 t2 (ji13)).f4.f1) ((rd_T31 t2 (ji13)).f4.f2)))=some r:=H
     have A17:=Aside0.mk A170
     clear A170
     replace H:=Option.bind_eq_some_iff.mp H
     obtain ⟨⟨t17,t18⟩,A180,H⟩:=H
     replace H:(law15_ShapeLimits.l0 k t2 t9 t12 t16 t17 t18 (!(((rd_T31 t2 (ji13)).f3.f0)==0)||(!(((rd_T31 t2 (ji13)).f3.f1)==0)||(!(((rd_T31 t2 (ji13)).f3.f2)==0)))) 0 ((rd_T31 t2 (ji13)).f0) ((rd_T31 t2 (ji13)).f1) ((rd_T31 t2 (ji13)).f2.f0) ((rd_T31 t2 (ji13)).f2.f1) ((rd_T31 t2 (ji13)).f2.f2) ((rd_T31 t2 (ji13)).f3.f0) ((rd_T31 t2 (ji13)).f3.f1) ((rd_T31 t2 (ji13)).f3.f2) ((rd_T31 t2 (ji13)).f4.f0) ((rd_T31 t2 (ji13)).f4.f1) ((rd_T31 t2 (ji13)).f4.f2) ((rd_T31 t2 (ji13)).f5) (Int.tmod (wrap64 (a2)) 300) ((rd_T31 t2 (ji13)).f4.f1) ((rd_T31 t2 (ji13)).f4.f2))=some r:=H
     have A18:=Aside0.mk A180
     clear A180
     have H':=Aside0.mk H
     clear H
     go_enter Try.func23,Try.ntmps23
     go_wp2_with (first|((with_reducible refine gate_callee (f:=32) rfl ?_);refine goesL_ (some 24) rfl rfl Try.func32 (by kernel_rfl) rfl #[.slice A0 l0.length c0] rfl zs_ ?_;(with_reducible refine (law12_Make.calls k _ _ l0 t2 _ ?side1 ?side2 A7.out).mono ?_);(case side1=>repeat (first|exact HR0.out|(with_reducible refine Kd.C_alloc ?_ _)|(with_reducible refine Kd.C_drewN ?_ _)|(with_reducible refine Kd.C_drew ?_)));(case side2=>exact HC0.out);rintro e w19 ⟨v3,rfl,ho0,hb⟩;refine ⟨_,rfl, ?_⟩;have n0_:=am_ (Kd.R_lower ho0 (below_size (zl0_ HB)));have n1_:=am_ (below_step (zl0_ HB) hb);clear HB;have HO4:=n0_;have HB:=n1_;clear n0_ n1_;(try clear hb);(try clear hb2);(try clear hk);(try clear hi);(try clear ho0);obtain ⟨Ao20,co20,eo20⟩:=Kd.R_slice HO4.out;subst eo20;have p6:0≤((ji13):Int):=of_decide_eq_true zq_;have q6:(ji13)<(t2.length:Int):=of_decide_eq_true zq_;obtain ⟨ad6,e6,hx6_0,hx6_1,hx6_2,hx6_3,hx6_4,hx6_5,hx6_6,hx6_7,hx6_8,hx6_9,hx6_10,hx6_11⟩:=at_T31 (Kd.R_reads' HO4.out).2.2 (ji13) p6 q6;cases e6;replace p6:=eq_true p6;replace q6:=eq_true q6)|((with_reducible refine gate_dst (N:=8) rfl ?_);(try (refine gate_guard (by rfl) ?_;dsimp only));refine box_event ?hg (N:=8) ?hd (cs:=#[.string (⟨#[]⟩:ByteArray), .string (⟨#[]⟩:ByteArray), .int .i64 0, .int .i64 0, .int .i64 0, .int .i64 0, .int .i64 0, .int .i64 0, .int .i64 0, .int .i64 0, .int .i64 0, .int .i64 0]) (t:=31) ?hr ?_;(case hd=>rfl);(case hg=>rfl);(case hr=>first|(go_simp;done)|(go_simp;rfl));intro gb7 hg w21 hbox hb;have n0_:=am_ (Kd.R_below (Kd.R_elderB (zr_ HO4) gb7 (Nat.le_of_eq hg.symm)) hb);have n1_:=am_ (below_step (zl0_ HB) hb);have n2_:=am_ (hbox);have n3_:=am_ ((zg0_ HB hg:w.heap.size≤gb7));have n4_:=am_ ((zg0_ HB hg:w.heap.size≤gb7));clear HO4;clear HB;have HO4:=n0_;have HB:=n1_;have BK7:=n2_;have GW7:=n3_;have GE7:=n4_;clear n0_ n1_ n2_ n3_ n4_;clear hb hbox hg;have hcz22_0:w21.cell? ⟨gb7,0,none⟩=some (.string (⟨#[]⟩:ByteArray)):=(blk_cell BK7.out 0).trans rfl;have hcz22_1:w21.cell? ⟨gb7,1,none⟩=some (.string (⟨#[]⟩:ByteArray)):=(blk_cell BK7.out 1).trans rfl;have hcz22_2:w21.cell? ⟨gb7,2,none⟩=some (.int .i64 0):=(blk_cell BK7.out 2).trans rfl;have hcz22_3:w21.cell? ⟨gb7,3,none⟩=some (.int .i64 0):=(blk_cell BK7.out 3).trans rfl;have hcz22_4:w21.cell? ⟨gb7,4,none⟩=some (.int .i64 0):=(blk_cell BK7.out 4).trans rfl;have hcz22_5:w21.cell? ⟨gb7,5,none⟩=some (.int .i64 0):=(blk_cell BK7.out 5).trans rfl;have hcz22_6:w21.cell? ⟨gb7,6,none⟩=some (.int .i64 0):=(blk_cell BK7.out 6).trans rfl;have hcz22_7:w21.cell? ⟨gb7,7,none⟩=some (.int .i64 0):=(blk_cell BK7.out 7).trans rfl;have hcz22_8:w21.cell? ⟨gb7,8,none⟩=some (.int .i64 0):=(blk_cell BK7.out 8).trans rfl;have hcz22_9:w21.cell? ⟨gb7,9,none⟩=some (.int .i64 0):=(blk_cell BK7.out 9).trans rfl;have hcz22_10:w21.cell? ⟨gb7,10,none⟩=some (.int .i64 0):=(blk_cell BK7.out 10).trans rfl;have hcz22_11:w21.cell? ⟨gb7,11,none⟩=some (.int .i64 0):=(blk_cell BK7.out 11).trans rfl;have hfz22_0:=blk_frozen BK7.out 0;have hfz22_1:=blk_frozen BK7.out 1;have hfz22_2:=blk_frozen BK7.out 2;have hfz22_3:=blk_frozen BK7.out 3;have hfz22_4:=blk_frozen BK7.out 4;have hfz22_5:=blk_frozen BK7.out 5;have hfz22_6:=blk_frozen BK7.out 6;have hfz22_7:=blk_frozen BK7.out 7;have hfz22_8:=blk_frozen BK7.out 8;have hfz22_9:=blk_frozen BK7.out 9;have hfz22_10:=blk_frozen BK7.out 10;have hfz22_11:=blk_frozen BK7.out 11)|((with_reducible refine gate_dst (N:=9) rfl ?_);(try (refine gate_guard (by rfl) ?_;dsimp only));refine box_event ?hg (N:=9) ?hd (cs:=#[.int .i64 0, .int .i64 0, .int .i64 0]) (t:=27) ?hr ?_;(case hd=>rfl);(case hg=>rfl);(case hr=>first|(go_simp;done)|(go_simp;rfl));intro gb8 hg w23 hbox hb;have n0_:=am_ (Kd.R_below (by refine zt_ ?_;exact (Kd.R_mono (Kd.R_far (p:=⟨gb7,11,none⟩) (Kd.R_far (p:=⟨gb7,10,none⟩) (Kd.R_far (p:=⟨gb7,9,none⟩) (Kd.R_far (p:=⟨gb7,8,none⟩) (Kd.R_far (p:=⟨gb7,7,none⟩) (Kd.R_far (p:=⟨gb7,6,none⟩) (Kd.R_far (p:=⟨gb7,5,none⟩) (Kd.R_far (p:=⟨gb7,4,none⟩) (Kd.R_far (p:=⟨gb7,3,none⟩) (Kd.R_far (p:=⟨gb7,2,none⟩) (Kd.R_far (p:=⟨gb7,1,none⟩) (Kd.R_far (p:=⟨gb7,0,none⟩) (Kd.R_mono HO4.out (fun k_ hk=>(⟨hk,hk.2⟩:_∧k_≠gb7))) (fun _ hk=>hk.2) (.string ((rd_T31 t2 (ji13)).f0))) (fun _ hk=>hk.2) (.string ((rd_T31 t2 (ji13)).f1))) (fun _ hk=>hk.2) (.int .i64 ((rd_T31 t2 (ji13)).f2.f0))) (fun _ hk=>hk.2) (.int .i64 ((rd_T31 t2 (ji13)).f2.f1))) (fun _ hk=>hk.2) (.int .i64 ((rd_T31 t2 (ji13)).f2.f2))) (fun _ hk=>hk.2) (.int .i64 ((rd_T31 t2 (ji13)).f3.f0))) (fun _ hk=>hk.2) (.int .i64 ((rd_T31 t2 (ji13)).f3.f1))) (fun _ hk=>hk.2) (.int .i64 ((rd_T31 t2 (ji13)).f3.f2))) (fun _ hk=>hk.2) (.int .i64 ((rd_T31 t2 (ji13)).f4.f0))) (fun _ hk=>hk.2) (.int .i64 ((rd_T31 t2 (ji13)).f4.f1))) (fun _ hk=>hk.2) (.int .i64 ((rd_T31 t2 (ji13)).f4.f2))) (fun _ hk=>hk.2) (.int .i64 ((rd_T31 t2 (ji13)).f5))) (fun _ h_=>h_.1))) hb);have n1_:=am_ (blk_below (g:=gb7) (o:= .cells #[.string ((rd_T31 t2 (ji13)).f0), .string ((rd_T31 t2 (ji13)).f1), .int .i64 ((rd_T31 t2 (ji13)).f2.f0), .int .i64 ((rd_T31 t2 (ji13)).f2.f1), .int .i64 ((rd_T31 t2 (ji13)).f2.f2), .int .i64 ((rd_T31 t2 (ji13)).f3.f0), .int .i64 ((rd_T31 t2 (ji13)).f3.f1), .int .i64 ((rd_T31 t2 (ji13)).f3.f2), .int .i64 ((rd_T31 t2 (ji13)).f4.f0), .int .i64 ((rd_T31 t2 (ji13)).f4.f1), .int .i64 ((rd_T31 t2 (ji13)).f4.f2), .int .i64 ((rd_T31 t2 (ji13)).f5)] 31 (0,0)) (by refine zk_ ?_;refine blk_put (cs:=#[.string ((rd_T31 t2 (ji13)).f0), .string ((rd_T31 t2 (ji13)).f1), .int .i64 ((rd_T31 t2 (ji13)).f2.f0), .int .i64 ((rd_T31 t2 (ji13)).f2.f1), .int .i64 ((rd_T31 t2 (ji13)).f2.f2), .int .i64 ((rd_T31 t2 (ji13)).f3.f0), .int .i64 ((rd_T31 t2 (ji13)).f3.f1), .int .i64 ((rd_T31 t2 (ji13)).f3.f2), .int .i64 ((rd_T31 t2 (ji13)).f4.f0), .int .i64 ((rd_T31 t2 (ji13)).f4.f1), .int .i64 ((rd_T31 t2 (ji13)).f4.f2), .int .i64 0]) ?_ 11 _ rfl;refine zk_ ?_;refine blk_put (cs:=#[.string ((rd_T31 t2 (ji13)).f0), .string ((rd_T31 t2 (ji13)).f1), .int .i64 ((rd_T31 t2 (ji13)).f2.f0), .int .i64 ((rd_T31 t2 (ji13)).f2.f1), .int .i64 ((rd_T31 t2 (ji13)).f2.f2), .int .i64 ((rd_T31 t2 (ji13)).f3.f0), .int .i64 ((rd_T31 t2 (ji13)).f3.f1), .int .i64 ((rd_T31 t2 (ji13)).f3.f2), .int .i64 ((rd_T31 t2 (ji13)).f4.f0), .int .i64 ((rd_T31 t2 (ji13)).f4.f1), .int .i64 0, .int .i64 0]) ?_ 10 _ rfl;refine zk_ ?_;refine blk_put (cs:=#[.string ((rd_T31 t2 (ji13)).f0), .string ((rd_T31 t2 (ji13)).f1), .int .i64 ((rd_T31 t2 (ji13)).f2.f0), .int .i64 ((rd_T31 t2 (ji13)).f2.f1), .int .i64 ((rd_T31 t2 (ji13)).f2.f2), .int .i64 ((rd_T31 t2 (ji13)).f3.f0), .int .i64 ((rd_T31 t2 (ji13)).f3.f1), .int .i64 ((rd_T31 t2 (ji13)).f3.f2), .int .i64 ((rd_T31 t2 (ji13)).f4.f0), .int .i64 0, .int .i64 0, .int .i64 0]) ?_ 9 _ rfl;refine zk_ ?_;refine blk_put (cs:=#[.string ((rd_T31 t2 (ji13)).f0), .string ((rd_T31 t2 (ji13)).f1), .int .i64 ((rd_T31 t2 (ji13)).f2.f0), .int .i64 ((rd_T31 t2 (ji13)).f2.f1), .int .i64 ((rd_T31 t2 (ji13)).f2.f2), .int .i64 ((rd_T31 t2 (ji13)).f3.f0), .int .i64 ((rd_T31 t2 (ji13)).f3.f1), .int .i64 ((rd_T31 t2 (ji13)).f3.f2), .int .i64 0, .int .i64 0, .int .i64 0, .int .i64 0]) ?_ 8 _ rfl;refine zk_ ?_;refine blk_put (cs:=#[.string ((rd_T31 t2 (ji13)).f0), .string ((rd_T31 t2 (ji13)).f1), .int .i64 ((rd_T31 t2 (ji13)).f2.f0), .int .i64 ((rd_T31 t2 (ji13)).f2.f1), .int .i64 ((rd_T31 t2 (ji13)).f2.f2), .int .i64 ((rd_T31 t2 (ji13)).f3.f0), .int .i64 ((rd_T31 t2 (ji13)).f3.f1), .int .i64 0, .int .i64 0, .int .i64 0, .int .i64 0, .int .i64 0]) ?_ 7 _ rfl;refine zk_ ?_;refine blk_put (cs:=#[.string ((rd_T31 t2 (ji13)).f0), .string ((rd_T31 t2 (ji13)).f1), .int .i64 ((rd_T31 t2 (ji13)).f2.f0), .int .i64 ((rd_T31 t2 (ji13)).f2.f1), .int .i64 ((rd_T31 t2 (ji13)).f2.f2), .int .i64 ((rd_T31 t2 (ji13)).f3.f0), .int .i64 0, .int .i64 0, .int .i64 0, .int .i64 0, .int .i64 0, .int .i64 0]) ?_ 6 _ rfl;refine zk_ ?_;refine blk_put (cs:=#[.string ((rd_T31 t2 (ji13)).f0), .string ((rd_T31 t2 (ji13)).f1), .int .i64 ((rd_T31 t2 (ji13)).f2.f0), .int .i64 ((rd_T31 t2 (ji13)).f2.f1), .int .i64 ((rd_T31 t2 (ji13)).f2.f2), .int .i64 0, .int .i64 0, .int .i64 0, .int .i64 0, .int .i64 0, .int .i64 0, .int .i64 0]) ?_ 5 _ rfl;refine zk_ ?_;refine blk_put (cs:=#[.string ((rd_T31 t2 (ji13)).f0), .string ((rd_T31 t2 (ji13)).f1), .int .i64 ((rd_T31 t2 (ji13)).f2.f0), .int .i64 ((rd_T31 t2 (ji13)).f2.f1), .int .i64 0, .int .i64 0, .int .i64 0, .int .i64 0, .int .i64 0, .int .i64 0, .int .i64 0, .int .i64 0]) ?_ 4 _ rfl;refine zk_ ?_;refine blk_put (cs:=#[.string ((rd_T31 t2 (ji13)).f0), .string ((rd_T31 t2 (ji13)).f1), .int .i64 ((rd_T31 t2 (ji13)).f2.f0), .int .i64 0, .int .i64 0, .int .i64 0, .int .i64 0, .int .i64 0, .int .i64 0, .int .i64 0, .int .i64 0, .int .i64 0]) ?_ 3 _ rfl;refine zk_ ?_;refine blk_put (cs:=#[.string ((rd_T31 t2 (ji13)).f0), .string ((rd_T31 t2 (ji13)).f1), .int .i64 0, .int .i64 0, .int .i64 0, .int .i64 0, .int .i64 0, .int .i64 0, .int .i64 0, .int .i64 0, .int .i64 0, .int .i64 0]) ?_ 2 _ rfl;refine zk_ ?_;refine blk_put (cs:=#[.string ((rd_T31 t2 (ji13)).f0), .string (⟨#[]⟩:ByteArray), .int .i64 0, .int .i64 0, .int .i64 0, .int .i64 0, .int .i64 0, .int .i64 0, .int .i64 0, .int .i64 0, .int .i64 0, .int .i64 0]) ?_ 1 _ rfl;refine zk_ ?_;refine blk_put (cs:=#[.string (⟨#[]⟩:ByteArray), .string (⟨#[]⟩:ByteArray), .int .i64 0, .int .i64 0, .int .i64 0, .int .i64 0, .int .i64 0, .int .i64 0, .int .i64 0, .int .i64 0, .int .i64 0, .int .i64 0]) ?_ 0 _ rfl;refine zk_ ?_;exact BK7.out) hb);have n2_:=am_ (below_step (zl1_ HB GE7) hb);have n3_:=am_ (hbox);have n4_:=am_ ((zg1_ HB GE7 hg:w.heap.size≤gb8));have n5_:=am_ ((zg1_ HB GE7 hg:w.heap.size≤gb8));have n6_:=am_ ((by rw [hg];exact Nat.ne_of_lt (blk_lt (g:=gb7) (o:= .cells #[.string ((rd_T31 t2 (ji13)).f0), .string ((rd_T31 t2 (ji13)).f1), .int .i64 ((rd_T31 t2 (ji13)).f2.f0), .int .i64 ((rd_T31 t2 (ji13)).f2.f1), .int .i64 ((rd_T31 t2 (ji13)).f2.f2), .int .i64 ((rd_T31 t2 (ji13)).f3.f0), .int .i64 ((rd_T31 t2 (ji13)).f3.f1), .int .i64 ((rd_T31 t2 (ji13)).f3.f2), .int .i64 ((rd_T31 t2 (ji13)).f4.f0), .int .i64 ((rd_T31 t2 (ji13)).f4.f1), .int .i64 ((rd_T31 t2 (ji13)).f4.f2), .int .i64 ((rd_T31 t2 (ji13)).f5)] 31 (0,0)) (by refine zk_ ?_;refine blk_put (cs:=#[.string ((rd_T31 t2 (ji13)).f0), .string ((rd_T31 t2 (ji13)).f1), .int .i64 ((rd_T31 t2 (ji13)).f2.f0), .int .i64 ((rd_T31 t2 (ji13)).f2.f1), .int .i64 ((rd_T31 t2 (ji13)).f2.f2), .int .i64 ((rd_T31 t2 (ji13)).f3.f0), .int .i64 ((rd_T31 t2 (ji13)).f3.f1), .int .i64 ((rd_T31 t2 (ji13)).f3.f2), .int .i64 ((rd_T31 t2 (ji13)).f4.f0), .int .i64 ((rd_T31 t2 (ji13)).f4.f1), .int .i64 ((rd_T31 t2 (ji13)).f4.f2), .int .i64 0]) ?_ 11 _ rfl;refine zk_ ?_;refine blk_put (cs:=#[.string ((rd_T31 t2 (ji13)).f0), .string ((rd_T31 t2 (ji13)).f1), .int .i64 ((rd_T31 t2 (ji13)).f2.f0), .int .i64 ((rd_T31 t2 (ji13)).f2.f1), .int .i64 ((rd_T31 t2 (ji13)).f2.f2), .int .i64 ((rd_T31 t2 (ji13)).f3.f0), .int .i64 ((rd_T31 t2 (ji13)).f3.f1), .int .i64 ((rd_T31 t2 (ji13)).f3.f2), .int .i64 ((rd_T31 t2 (ji13)).f4.f0), .int .i64 ((rd_T31 t2 (ji13)).f4.f1), .int .i64 0, .int .i64 0]) ?_ 10 _ rfl;refine zk_ ?_;refine blk_put (cs:=#[.string ((rd_T31 t2 (ji13)).f0), .string ((rd_T31 t2 (ji13)).f1), .int .i64 ((rd_T31 t2 (ji13)).f2.f0), .int .i64 ((rd_T31 t2 (ji13)).f2.f1), .int .i64 ((rd_T31 t2 (ji13)).f2.f2), .int .i64 ((rd_T31 t2 (ji13)).f3.f0), .int .i64 ((rd_T31 t2 (ji13)).f3.f1), .int .i64 ((rd_T31 t2 (ji13)).f3.f2), .int .i64 ((rd_T31 t2 (ji13)).f4.f0), .int .i64 0, .int .i64 0, .int .i64 0]) ?_ 9 _ rfl;refine zk_ ?_;refine blk_put (cs:=#[.string ((rd_T31 t2 (ji13)).f0), .string ((rd_T31 t2 (ji13)).f1), .int .i64 ((rd_T31 t2 (ji13)).f2.f0), .int .i64 ((rd_T31 t2 (ji13)).f2.f1), .int .i64 ((rd_T31 t2 (ji13)).f2.f2), .int .i64 ((rd_T31 t2 (ji13)).f3.f0), .int .i64 ((rd_T31 t2 (ji13)).f3.f1), .int .i64 ((rd_T31 t2 (ji13)).f3.f2), .int .i64 0, .int .i64 0, .int .i64 0, .int .i64 0]) ?_ 8 _ rfl;refine zk_ ?_;refine blk_put (cs:=#[.string ((rd_T31 t2 (ji13)).f0), .string ((rd_T31 t2 (ji13)).f1), .int .i64 ((rd_T31 t2 (ji13)).f2.f0), .int .i64 ((rd_T31 t2 (ji13)).f2.f1), .int .i64 ((rd_T31 t2 (ji13)).f2.f2), .int .i64 ((rd_T31 t2 (ji13)).f3.f0), .int .i64 ((rd_T31 t2 (ji13)).f3.f1), .int .i64 0, .int .i64 0, .int .i64 0, .int .i64 0, .int .i64 0]) ?_ 7 _ rfl;refine zk_ ?_;refine blk_put (cs:=#[.string ((rd_T31 t2 (ji13)).f0), .string ((rd_T31 t2 (ji13)).f1), .int .i64 ((rd_T31 t2 (ji13)).f2.f0), .int .i64 ((rd_T31 t2 (ji13)).f2.f1), .int .i64 ((rd_T31 t2 (ji13)).f2.f2), .int .i64 ((rd_T31 t2 (ji13)).f3.f0), .int .i64 0, .int .i64 0, .int .i64 0, .int .i64 0, .int .i64 0, .int .i64 0]) ?_ 6 _ rfl;refine zk_ ?_;refine blk_put (cs:=#[.string ((rd_T31 t2 (ji13)).f0), .string ((rd_T31 t2 (ji13)).f1), .int .i64 ((rd_T31 t2 (ji13)).f2.f0), .int .i64 ((rd_T31 t2 (ji13)).f2.f1), .int .i64 ((rd_T31 t2 (ji13)).f2.f2), .int .i64 0, .int .i64 0, .int .i64 0, .int .i64 0, .int .i64 0, .int .i64 0, .int .i64 0]) ?_ 5 _ rfl;refine zk_ ?_;refine blk_put (cs:=#[.string ((rd_T31 t2 (ji13)).f0), .string ((rd_T31 t2 (ji13)).f1), .int .i64 ((rd_T31 t2 (ji13)).f2.f0), .int .i64 ((rd_T31 t2 (ji13)).f2.f1), .int .i64 0, .int .i64 0, .int .i64 0, .int .i64 0, .int .i64 0, .int .i64 0, .int .i64 0, .int .i64 0]) ?_ 4 _ rfl;refine zk_ ?_;refine blk_put (cs:=#[.string ((rd_T31 t2 (ji13)).f0), .string ((rd_T31 t2 (ji13)).f1), .int .i64 ((rd_T31 t2 (ji13)).f2.f0), .int .i64 0, .int .i64 0, .int .i64 0, .int .i64 0, .int .i64 0, .int .i64 0, .int .i64 0, .int .i64 0, .int .i64 0]) ?_ 3 _ rfl;refine zk_ ?_;refine blk_put (cs:=#[.string ((rd_T31 t2 (ji13)).f0), .string ((rd_T31 t2 (ji13)).f1), .int .i64 0, .int .i64 0, .int .i64 0, .int .i64 0, .int .i64 0, .int .i64 0, .int .i64 0, .int .i64 0, .int .i64 0, .int .i64 0]) ?_ 2 _ rfl;refine zk_ ?_;refine blk_put (cs:=#[.string ((rd_T31 t2 (ji13)).f0), .string (⟨#[]⟩:ByteArray), .int .i64 0, .int .i64 0, .int .i64 0, .int .i64 0, .int .i64 0, .int .i64 0, .int .i64 0, .int .i64 0, .int .i64 0, .int .i64 0]) ?_ 1 _ rfl;refine zk_ ?_;refine blk_put (cs:=#[.string (⟨#[]⟩:ByteArray), .string (⟨#[]⟩:ByteArray), .int .i64 0, .int .i64 0, .int .i64 0, .int .i64 0, .int .i64 0, .int .i64 0, .int .i64 0, .int .i64 0, .int .i64 0, .int .i64 0]) ?_ 0 _ rfl;refine zk_ ?_;exact BK7.out)):gb7≠gb8));have n7_:=am_ ((by rw [hg];exact Nat.ne_of_gt (blk_lt (g:=gb7) (o:= .cells #[.string ((rd_T31 t2 (ji13)).f0), .string ((rd_T31 t2 (ji13)).f1), .int .i64 ((rd_T31 t2 (ji13)).f2.f0), .int .i64 ((rd_T31 t2 (ji13)).f2.f1), .int .i64 ((rd_T31 t2 (ji13)).f2.f2), .int .i64 ((rd_T31 t2 (ji13)).f3.f0), .int .i64 ((rd_T31 t2 (ji13)).f3.f1), .int .i64 ((rd_T31 t2 (ji13)).f3.f2), .int .i64 ((rd_T31 t2 (ji13)).f4.f0), .int .i64 ((rd_T31 t2 (ji13)).f4.f1), .int .i64 ((rd_T31 t2 (ji13)).f4.f2), .int .i64 ((rd_T31 t2 (ji13)).f5)] 31 (0,0)) (by refine zk_ ?_;refine blk_put (cs:=#[.string ((rd_T31 t2 (ji13)).f0), .string ((rd_T31 t2 (ji13)).f1), .int .i64 ((rd_T31 t2 (ji13)).f2.f0), .int .i64 ((rd_T31 t2 (ji13)).f2.f1), .int .i64 ((rd_T31 t2 (ji13)).f2.f2), .int .i64 ((rd_T31 t2 (ji13)).f3.f0), .int .i64 ((rd_T31 t2 (ji13)).f3.f1), .int .i64 ((rd_T31 t2 (ji13)).f3.f2), .int .i64 ((rd_T31 t2 (ji13)).f4.f0), .int .i64 ((rd_T31 t2 (ji13)).f4.f1), .int .i64 ((rd_T31 t2 (ji13)).f4.f2), .int .i64 0]) ?_ 11 _ rfl;refine zk_ ?_;refine blk_put (cs:=#[.string ((rd_T31 t2 (ji13)).f0), .string ((rd_T31 t2 (ji13)).f1), .int .i64 ((rd_T31 t2 (ji13)).f2.f0), .int .i64 ((rd_T31 t2 (ji13)).f2.f1), .int .i64 ((rd_T31 t2 (ji13)).f2.f2), .int .i64 ((rd_T31 t2 (ji13)).f3.f0), .int .i64 ((rd_T31 t2 (ji13)).f3.f1), .int .i64 ((rd_T31 t2 (ji13)).f3.f2), .int .i64 ((rd_T31 t2 (ji13)).f4.f0), .int .i64 ((rd_T31 t2 (ji13)).f4.f1), .int .i64 0, .int .i64 0]) ?_ 10 _ rfl;refine zk_ ?_;refine blk_put (cs:=#[.string ((rd_T31 t2 (ji13)).f0), .string ((rd_T31 t2 (ji13)).f1), .int .i64 ((rd_T31 t2 (ji13)).f2.f0), .int .i64 ((rd_T31 t2 (ji13)).f2.f1), .int .i64 ((rd_T31 t2 (ji13)).f2.f2), .int .i64 ((rd_T31 t2 (ji13)).f3.f0), .int .i64 ((rd_T31 t2 (ji13)).f3.f1), .int .i64 ((rd_T31 t2 (ji13)).f3.f2), .int .i64 ((rd_T31 t2 (ji13)).f4.f0), .int .i64 0, .int .i64 0, .int .i64 0]) ?_ 9 _ rfl;refine zk_ ?_;refine blk_put (cs:=#[.string ((rd_T31 t2 (ji13)).f0), .string ((rd_T31 t2 (ji13)).f1), .int .i64 ((rd_T31 t2 (ji13)).f2.f0), .int .i64 ((rd_T31 t2 (ji13)).f2.f1), .int .i64 ((rd_T31 t2 (ji13)).f2.f2), .int .i64 ((rd_T31 t2 (ji13)).f3.f0), .int .i64 ((rd_T31 t2 (ji13)).f3.f1), .int .i64 ((rd_T31 t2 (ji13)).f3.f2), .int .i64 0, .int .i64 0, .int .i64 0, .int .i64 0]) ?_ 8 _ rfl;refine zk_ ?_;refine blk_put (cs:=#[.string ((rd_T31 t2 (ji13)).f0), .string ((rd_T31 t2 (ji13)).f1), .int .i64 ((rd_T31 t2 (ji13)).f2.f0), .int .i64 ((rd_T31 t2 (ji13)).f2.f1), .int .i64 ((rd_T31 t2 (ji13)).f2.f2), .int .i64 ((rd_T31 t2 (ji13)).f3.f0), .int .i64 ((rd_T31 t2 (ji13)).f3.f1), .int .i64 0, .int .i64 0, .int .i64 0, .int .i64 0, .int .i64 0]) ?_ 7 _ rfl;refine zk_ ?_;refine blk_put (cs:=#[.string ((rd_T31 t2 (ji13)).f0), .string ((rd_T31 t2 (ji13)).f1), .int .i64 ((rd_T31 t2 (ji13)).f2.f0), .int .i64 ((rd_T31 t2 (ji13)).f2.f1), .int .i64 ((rd_T31 t2 (ji13)).f2.f2), .int .i64 ((rd_T31 t2 (ji13)).f3.f0), .int .i64 0, .int .i64 0, .int .i64 0, .int .i64 0, .int .i64 0, .int .i64 0]) ?_ 6 _ rfl;refine zk_ ?_;refine blk_put (cs:=#[.string ((rd_T31 t2 (ji13)).f0), .string ((rd_T31 t2 (ji13)).f1), .int .i64 ((rd_T31 t2 (ji13)).f2.f0), .int .i64 ((rd_T31 t2 (ji13)).f2.f1), .int .i64 ((rd_T31 t2 (ji13)).f2.f2), .int .i64 0, .int .i64 0, .int .i64 0, .int .i64 0, .int .i64 0, .int .i64 0, .int .i64 0]) ?_ 5 _ rfl;refine zk_ ?_;refine blk_put (cs:=#[.string ((rd_T31 t2 (ji13)).f0), .string ((rd_T31 t2 (ji13)).f1), .int .i64 ((rd_T31 t2 (ji13)).f2.f0), .int .i64 ((rd_T31 t2 (ji13)).f2.f1), .int .i64 0, .int .i64 0, .int .i64 0, .int .i64 0, .int .i64 0, .int .i64 0, .int .i64 0, .int .i64 0]) ?_ 4 _ rfl;refine zk_ ?_;refine blk_put (cs:=#[.string ((rd_T31 t2 (ji13)).f0), .string ((rd_T31 t2 (ji13)).f1), .int .i64 ((rd_T31 t2 (ji13)).f2.f0), .int .i64 0, .int .i64 0, .int .i64 0, .int .i64 0, .int .i64 0, .int .i64 0, .int .i64 0, .int .i64 0, .int .i64 0]) ?_ 3 _ rfl;refine zk_ ?_;refine blk_put (cs:=#[.string ((rd_T31 t2 (ji13)).f0), .string ((rd_T31 t2 (ji13)).f1), .int .i64 0, .int .i64 0, .int .i64 0, .int .i64 0, .int .i64 0, .int .i64 0, .int .i64 0, .int .i64 0, .int .i64 0, .int .i64 0]) ?_ 2 _ rfl;refine zk_ ?_;refine blk_put (cs:=#[.string ((rd_T31 t2 (ji13)).f0), .string (⟨#[]⟩:ByteArray), .int .i64 0, .int .i64 0, .int .i64 0, .int .i64 0, .int .i64 0, .int .i64 0, .int .i64 0, .int .i64 0, .int .i64 0, .int .i64 0]) ?_ 1 _ rfl;refine zk_ ?_;refine blk_put (cs:=#[.string (⟨#[]⟩:ByteArray), .string (⟨#[]⟩:ByteArray), .int .i64 0, .int .i64 0, .int .i64 0, .int .i64 0, .int .i64 0, .int .i64 0, .int .i64 0, .int .i64 0, .int .i64 0, .int .i64 0]) ?_ 0 _ rfl;refine zk_ ?_;exact BK7.out)):gb8≠gb7));clear HO4;clear BK7;clear HB;have HO4:=n0_;have BK7:=n1_;have HB:=n2_;have BK8:=n3_;have GW8:=n4_;have GE8:=n5_;have NB7_8:=n6_;have NB8_7:=n7_;clear n0_ n1_ n2_ n3_ n4_ n5_ n6_ n7_;clear hb hbox hg;have hnb24:=NB8_7.out;have hnc24:=NB7_8.out;have hcz25_0:w23.cell? ⟨gb8,0,none⟩=some (.int .i64 0):=(blk_cell BK8.out 0).trans rfl;have hcz25_1:w23.cell? ⟨gb8,1,none⟩=some (.int .i64 0):=(blk_cell BK8.out 1).trans rfl;have hcz25_2:w23.cell? ⟨gb8,2,none⟩=some (.int .i64 0):=(blk_cell BK8.out 2).trans rfl;have hfz25_0:=blk_frozen BK8.out 0;have hfz25_1:=blk_frozen BK8.out 1;have hfz25_2:=blk_frozen BK8.out 2;have hcz26_0:w23.cell? ⟨gb7,0,none⟩=some (.string ((rd_T31 t2 (ji13)).f0)):=(blk_cell BK7.out 0).trans rfl;have hcz26_1:w23.cell? ⟨gb7,1,none⟩=some (.string ((rd_T31 t2 (ji13)).f1)):=(blk_cell BK7.out 1).trans rfl;have hcz26_2:w23.cell? ⟨gb7,2,none⟩=some (.int .i64 ((rd_T31 t2 (ji13)).f2.f0)):=(blk_cell BK7.out 2).trans rfl;have hcz26_3:w23.cell? ⟨gb7,3,none⟩=some (.int .i64 ((rd_T31 t2 (ji13)).f2.f1)):=(blk_cell BK7.out 3).trans rfl;have hcz26_4:w23.cell? ⟨gb7,4,none⟩=some (.int .i64 ((rd_T31 t2 (ji13)).f2.f2)):=(blk_cell BK7.out 4).trans rfl;have hcz26_5:w23.cell? ⟨gb7,5,none⟩=some (.int .i64 ((rd_T31 t2 (ji13)).f3.f0)):=(blk_cell BK7.out 5).trans rfl;have hcz26_6:w23.cell? ⟨gb7,6,none⟩=some (.int .i64 ((rd_T31 t2 (ji13)).f3.f1)):=(blk_cell BK7.out 6).trans rfl;have hcz26_7:w23.cell? ⟨gb7,7,none⟩=some (.int .i64 ((rd_T31 t2 (ji13)).f3.f2)):=(blk_cell BK7.out 7).trans rfl;have hcz26_8:w23.cell? ⟨gb7,8,none⟩=some (.int .i64 ((rd_T31 t2 (ji13)).f4.f0)):=(blk_cell BK7.out 8).trans rfl;have hcz26_9:w23.cell? ⟨gb7,9,none⟩=some (.int .i64 ((rd_T31 t2 (ji13)).f4.f1)):=(blk_cell BK7.out 9).trans rfl;have hcz26_10:w23.cell? ⟨gb7,10,none⟩=some (.int .i64 ((rd_T31 t2 (ji13)).f4.f2)):=(blk_cell BK7.out 10).trans rfl;have hcz26_11:w23.cell? ⟨gb7,11,none⟩=some (.int .i64 ((rd_T31 t2 (ji13)).f5)):=(blk_cell BK7.out 11).trans rfl;have hfz26_0:=blk_frozen BK7.out 0;have hfz26_1:=blk_frozen BK7.out 1;have hfz26_2:=blk_frozen BK7.out 2;have hfz26_3:=blk_frozen BK7.out 3;have hfz26_4:=blk_frozen BK7.out 4;have hfz26_5:=blk_frozen BK7.out 5;have hfz26_6:=blk_frozen BK7.out 6;have hfz26_7:=blk_frozen BK7.out 7;have hfz26_8:=blk_frozen BK7.out 8;have hfz26_9:=blk_frozen BK7.out 9;have hfz26_10:=blk_frozen BK7.out 10;have hfz26_11:=blk_frozen BK7.out 11)|((with_reducible refine gate_callee (f:=87) rfl ?_);refine goesL_ (some 52) rfl rfl Try.func87 (by kernel_rfl) rfl #[.slice (some ad6) t2.length co20, .string ((rd_T31 t2 (ji13)).f0), .agg #[.int .i64 (Int.tmod (wrap64 (a2)) 300), .int .i64 ((rd_T31 t2 (ji13)).f4.f1), .int .i64 ((rd_T31 t2 (ji13)).f4.f2)], .int .i64 (-1)] rfl (by (try simp only [List.map_toArray,List.map_cons,List.map_nil]);first|done|(simp only [hji13];rfl)|rfl|(simp only [List.length_drop,List.length_take];rfl)) ?_;(with_reducible refine (shape_Limit.calls _ _ t2 ((rd_T31 t2 (ji13)).f0) (Int.tmod (wrap64 (a2)) 300) ((rd_T31 t2 (ji13)).f4.f1) ((rd_T31 t2 (ji13)).f4.f2) (-1) t9 t12 _ ?side1 ?side2 A16.out).mono ?_);(case side1=>refine (Kd.R_reads' (e:=31) (base:=w.heap.size) (ok:=fun k_=>(True∧k_≠gb7)) (n:=t2.length) (c:=co20) ?_).2.2;exact (by refine zt_ ?_;exact (Kd.R_mono (Kd.R_far (p:=⟨gb8,2,none⟩) (Kd.R_far (p:=⟨gb8,1,none⟩) (Kd.R_far (p:=⟨gb8,0,none⟩) (Kd.R_types HO4.out BK8.out (by decide)) (fun _ hk=>hk.2) (.int .i64 (Int.tmod (wrap64 (a2)) 300))) (fun _ hk=>hk.2) (.int .i64 ((rd_T31 t2 (ji13)).f4.f1))) (fun _ hk=>hk.2) (.int .i64 ((rd_T31 t2 (ji13)).f4.f2))) (fun _ h_=>h_.1))));(case side2=>exact (Kd.R_reads' HO4.out).2.1);rintro e w27 ⟨v10,rfl,ho0,hb⟩;refine ⟨_,rfl, ?_⟩;have n0_:=am_ (Kd.R_elder' (by refine zt_ ?_;exact (Kd.R_mono (Kd.R_far (p:=⟨gb8,2,none⟩) (Kd.R_far (p:=⟨gb8,1,none⟩) (Kd.R_far (p:=⟨gb8,0,none⟩) (Kd.R_types HO4.out BK8.out (by decide)) (fun _ hk=>hk.2) (.int .i64 (Int.tmod (wrap64 (a2)) 300))) (fun _ hk=>hk.2) (.int .i64 ((rd_T31 t2 (ji13)).f4.f1))) (fun _ hk=>hk.2) (.int .i64 ((rd_T31 t2 (ji13)).f4.f2))) (fun _ h_=>h_.1))) (Kd.R_base ho0) hb);have n1_:=am_ (Kd.R_lower (Kd.R_newB (Kd.R_new' ho0 (Kd.R_lt (by refine zt_ ?_;exact (Kd.R_mono (Kd.R_far (p:=⟨gb8,2,none⟩) (Kd.R_far (p:=⟨gb8,1,none⟩) (Kd.R_far (p:=⟨gb8,0,none⟩) (Kd.R_types HO4.out BK8.out (by decide)) (fun _ hk=>hk.2) (.int .i64 (Int.tmod (wrap64 (a2)) 300))) (fun _ hk=>hk.2) (.int .i64 ((rd_T31 t2 (ji13)).f4.f1))) (fun _ hk=>hk.2) (.int .i64 ((rd_T31 t2 (ji13)).f4.f2))) (fun _ h_=>h_.1))))) (g:=gb7) (o:= .cells #[.string ((rd_T31 t2 (ji13)).f0), .string ((rd_T31 t2 (ji13)).f1), .int .i64 ((rd_T31 t2 (ji13)).f2.f0), .int .i64 ((rd_T31 t2 (ji13)).f2.f1), .int .i64 ((rd_T31 t2 (ji13)).f2.f2), .int .i64 ((rd_T31 t2 (ji13)).f3.f0), .int .i64 ((rd_T31 t2 (ji13)).f3.f1), .int .i64 ((rd_T31 t2 (ji13)).f3.f2), .int .i64 ((rd_T31 t2 (ji13)).f4.f0), .int .i64 ((rd_T31 t2 (ji13)).f4.f1), .int .i64 ((rd_T31 t2 (ji13)).f4.f2), .int .i64 ((rd_T31 t2 (ji13)).f5)] 31 (0,0)) (by refine zk_ ?_;refine blk_far ?_ NB7_8.out _;refine zk_ ?_;refine blk_far ?_ NB7_8.out _;refine zk_ ?_;refine blk_far ?_ NB7_8.out _;refine zk_ ?_;exact BK7.out)) (below_size (zl2_ HB GE7 GE8)));have n2_:=am_ (blk_below (g:=gb7) (o:= .cells #[.string ((rd_T31 t2 (ji13)).f0), .string ((rd_T31 t2 (ji13)).f1), .int .i64 ((rd_T31 t2 (ji13)).f2.f0), .int .i64 ((rd_T31 t2 (ji13)).f2.f1), .int .i64 ((rd_T31 t2 (ji13)).f2.f2), .int .i64 ((rd_T31 t2 (ji13)).f3.f0), .int .i64 ((rd_T31 t2 (ji13)).f3.f1), .int .i64 ((rd_T31 t2 (ji13)).f3.f2), .int .i64 ((rd_T31 t2 (ji13)).f4.f0), .int .i64 ((rd_T31 t2 (ji13)).f4.f1), .int .i64 ((rd_T31 t2 (ji13)).f4.f2), .int .i64 ((rd_T31 t2 (ji13)).f5)] 31 (0,0)) (by refine zk_ ?_;refine blk_far ?_ NB7_8.out _;refine zk_ ?_;refine blk_far ?_ NB7_8.out _;refine zk_ ?_;refine blk_far ?_ NB7_8.out _;refine zk_ ?_;exact BK7.out) hb);have n3_:=am_ (blk_below (g:=gb8) (o:= .cells #[.int .i64 (Int.tmod (wrap64 (a2)) 300), .int .i64 ((rd_T31 t2 (ji13)).f4.f1), .int .i64 ((rd_T31 t2 (ji13)).f4.f2)] 27 (0,0)) (by refine zk_ ?_;refine blk_put (cs:=#[.int .i64 (Int.tmod (wrap64 (a2)) 300), .int .i64 ((rd_T31 t2 (ji13)).f4.f1), .int .i64 0]) ?_ 2 _ rfl;refine zk_ ?_;refine blk_put (cs:=#[.int .i64 (Int.tmod (wrap64 (a2)) 300), .int .i64 0, .int .i64 0]) ?_ 1 _ rfl;refine zk_ ?_;refine blk_put (cs:=#[.int .i64 0, .int .i64 0, .int .i64 0]) ?_ 0 _ rfl;refine zk_ ?_;exact BK8.out) hb);have n4_:=am_ (below_step (zl2_ HB GE7 GE8) hb);clear HO4;clear BK7;clear BK8;clear HB;have HO4:=n0_;have HO11:=n1_;have BK7:=n2_;have BK8:=n3_;have HB:=n4_;clear n0_ n1_ n2_ n3_ n4_;(try clear hb);(try clear hb2);(try clear hk);(try clear hi);(try clear ho0);have hcz28_0:w27.cell? ⟨gb7,0,none⟩=some (.string ((rd_T31 t2 (ji13)).f0)):=(blk_cell BK7.out 0).trans rfl;have hcz28_1:w27.cell? ⟨gb7,1,none⟩=some (.string ((rd_T31 t2 (ji13)).f1)):=(blk_cell BK7.out 1).trans rfl;have hcz28_2:w27.cell? ⟨gb7,2,none⟩=some (.int .i64 ((rd_T31 t2 (ji13)).f2.f0)):=(blk_cell BK7.out 2).trans rfl;have hcz28_3:w27.cell? ⟨gb7,3,none⟩=some (.int .i64 ((rd_T31 t2 (ji13)).f2.f1)):=(blk_cell BK7.out 3).trans rfl;have hcz28_4:w27.cell? ⟨gb7,4,none⟩=some (.int .i64 ((rd_T31 t2 (ji13)).f2.f2)):=(blk_cell BK7.out 4).trans rfl;have hcz28_5:w27.cell? ⟨gb7,5,none⟩=some (.int .i64 ((rd_T31 t2 (ji13)).f3.f0)):=(blk_cell BK7.out 5).trans rfl;have hcz28_6:w27.cell? ⟨gb7,6,none⟩=some (.int .i64 ((rd_T31 t2 (ji13)).f3.f1)):=(blk_cell BK7.out 6).trans rfl;have hcz28_7:w27.cell? ⟨gb7,7,none⟩=some (.int .i64 ((rd_T31 t2 (ji13)).f3.f2)):=(blk_cell BK7.out 7).trans rfl;have hcz28_8:w27.cell? ⟨gb7,8,none⟩=some (.int .i64 ((rd_T31 t2 (ji13)).f4.f0)):=(blk_cell BK7.out 8).trans rfl;have hcz28_9:w27.cell? ⟨gb7,9,none⟩=some (.int .i64 ((rd_T31 t2 (ji13)).f4.f1)):=(blk_cell BK7.out 9).trans rfl;have hcz28_10:w27.cell? ⟨gb7,10,none⟩=some (.int .i64 ((rd_T31 t2 (ji13)).f4.f2)):=(blk_cell BK7.out 10).trans rfl;have hcz28_11:w27.cell? ⟨gb7,11,none⟩=some (.int .i64 ((rd_T31 t2 (ji13)).f5)):=(blk_cell BK7.out 11).trans rfl;have hfz28_0:=blk_frozen BK7.out 0;have hfz28_1:=blk_frozen BK7.out 1;have hfz28_2:=blk_frozen BK7.out 2;have hfz28_3:=blk_frozen BK7.out 3;have hfz28_4:=blk_frozen BK7.out 4;have hfz28_5:=blk_frozen BK7.out 5;have hfz28_6:=blk_frozen BK7.out 6;have hfz28_7:=blk_frozen BK7.out 7;have hfz28_8:=blk_frozen BK7.out 8;have hfz28_9:=blk_frozen BK7.out 9;have hfz28_10:=blk_frozen BK7.out 10;have hfz28_11:=blk_frozen BK7.out 11;have hcz29_0:w27.cell? ⟨gb8,0,none⟩=some (.int .i64 (Int.tmod (wrap64 (a2)) 300)):=(blk_cell BK8.out 0).trans rfl;have hcz29_1:w27.cell? ⟨gb8,1,none⟩=some (.int .i64 ((rd_T31 t2 (ji13)).f4.f1)):=(blk_cell BK8.out 1).trans rfl;have hcz29_2:w27.cell? ⟨gb8,2,none⟩=some (.int .i64 ((rd_T31 t2 (ji13)).f4.f2)):=(blk_cell BK8.out 2).trans rfl;have hfz29_0:=blk_frozen BK8.out 0;have hfz29_1:=blk_frozen BK8.out 1;have hfz29_2:=blk_frozen BK8.out 2)|((with_reducible refine gate_callee (f:=87) rfl ?_);refine goesL_ (some 63) rfl rfl Try.func87 (by kernel_rfl) rfl #[.slice (some ad6) t2.length co20, .string ((rd_T31 t2 (ji13)).f0), .agg #[.int .i64 (Int.tmod (wrap64 (a2)) 300), .int .i64 ((rd_T31 t2 (ji13)).f4.f1), .int .i64 ((rd_T31 t2 (ji13)).f4.f2)], .int .i64 (wrap64 (((rd_T31 t2 (ji13)).f5)+1))] rfl (by (try simp only [List.map_toArray,List.map_cons,List.map_nil]);first|done|(simp only [hji13];rfl)|rfl|(simp only [List.length_drop,List.length_take];rfl)) ?_;(with_reducible refine (shape_Limit.calls _ _ t2 ((rd_T31 t2 (ji13)).f0) (Int.tmod (wrap64 (a2)) 300) ((rd_T31 t2 (ji13)).f4.f1) ((rd_T31 t2 (ji13)).f4.f2) (wrap64 (((rd_T31 t2 (ji13)).f5)+1)) t13 t16 _ ?side1 ?side2 A17.out).mono ?_);(case side1=>repeat (first|exact (Kd.R_reads' HO4.out).2.2|(with_reducible refine Kd.C_alloc ?_ _)|(with_reducible refine Kd.C_drewN ?_ _)|(with_reducible refine Kd.C_drew ?_)));(case side2=>exact (Kd.R_reads' HO4.out).2.1);rintro e w30 ⟨v14,rfl,ho0,hb⟩;refine ⟨_,rfl, ?_⟩;have n0_:=am_ (Kd.R_elder' (zr_ HO4) (Kd.R_base ho0) hb);have n1_:=am_ (Kd.R_elder' (zr_ HO11) (Kd.R_base ho0) hb);have n2_:=am_ (Kd.R_lower (Kd.R_newB (Kd.R_new' (Kd.R_new' ho0 (Kd.R_lt (zr_ HO4))) (Kd.R_lt (zr_ HO11))) (g:=gb7) (o:= .cells #[.string ((rd_T31 t2 (ji13)).f0), .string ((rd_T31 t2 (ji13)).f1), .int .i64 ((rd_T31 t2 (ji13)).f2.f0), .int .i64 ((rd_T31 t2 (ji13)).f2.f1), .int .i64 ((rd_T31 t2 (ji13)).f2.f2), .int .i64 ((rd_T31 t2 (ji13)).f3.f0), .int .i64 ((rd_T31 t2 (ji13)).f3.f1), .int .i64 ((rd_T31 t2 (ji13)).f3.f2), .int .i64 ((rd_T31 t2 (ji13)).f4.f0), .int .i64 ((rd_T31 t2 (ji13)).f4.f1), .int .i64 ((rd_T31 t2 (ji13)).f4.f2), .int .i64 ((rd_T31 t2 (ji13)).f5)] 31 (0,0)) (zb_ BK7)) (below_size (zl2_ HB GE7 GE8)));have n3_:=am_ (blk_below (zb_ BK7) hb);have n4_:=am_ (blk_below (zb_ BK8) hb);have n5_:=am_ (below_step (zl2_ HB GE7 GE8) hb);clear HO4;clear HO11;clear BK7;clear BK8;clear HB;have HO4:=n0_;have HO11:=n1_;have HO15:=n2_;have BK7:=n3_;have BK8:=n4_;have HB:=n5_;clear n0_ n1_ n2_ n3_ n4_ n5_;(try clear hb);(try clear hb2);(try clear hk);(try clear hi);(try clear ho0);have hcz31_0:w30.cell? ⟨gb7,0,none⟩=some (.string ((rd_T31 t2 (ji13)).f0)):=(blk_cell BK7.out 0).trans rfl;have hcz31_1:w30.cell? ⟨gb7,1,none⟩=some (.string ((rd_T31 t2 (ji13)).f1)):=(blk_cell BK7.out 1).trans rfl;have hcz31_2:w30.cell? ⟨gb7,2,none⟩=some (.int .i64 ((rd_T31 t2 (ji13)).f2.f0)):=(blk_cell BK7.out 2).trans rfl;have hcz31_3:w30.cell? ⟨gb7,3,none⟩=some (.int .i64 ((rd_T31 t2 (ji13)).f2.f1)):=(blk_cell BK7.out 3).trans rfl;have hcz31_4:w30.cell? ⟨gb7,4,none⟩=some (.int .i64 ((rd_T31 t2 (ji13)).f2.f2)):=(blk_cell BK7.out 4).trans rfl;have hcz31_5:w30.cell? ⟨gb7,5,none⟩=some (.int .i64 ((rd_T31 t2 (ji13)).f3.f0)):=(blk_cell BK7.out 5).trans rfl;have hcz31_6:w30.cell? ⟨gb7,6,none⟩=some (.int .i64 ((rd_T31 t2 (ji13)).f3.f1)):=(blk_cell BK7.out 6).trans rfl;have hcz31_7:w30.cell? ⟨gb7,7,none⟩=some (.int .i64 ((rd_T31 t2 (ji13)).f3.f2)):=(blk_cell BK7.out 7).trans rfl;have hcz31_8:w30.cell? ⟨gb7,8,none⟩=some (.int .i64 ((rd_T31 t2 (ji13)).f4.f0)):=(blk_cell BK7.out 8).trans rfl;have hcz31_9:w30.cell? ⟨gb7,9,none⟩=some (.int .i64 ((rd_T31 t2 (ji13)).f4.f1)):=(blk_cell BK7.out 9).trans rfl;have hcz31_10:w30.cell? ⟨gb7,10,none⟩=some (.int .i64 ((rd_T31 t2 (ji13)).f4.f2)):=(blk_cell BK7.out 10).trans rfl;have hcz31_11:w30.cell? ⟨gb7,11,none⟩=some (.int .i64 ((rd_T31 t2 (ji13)).f5)):=(blk_cell BK7.out 11).trans rfl;have hfz31_0:=blk_frozen BK7.out 0;have hfz31_1:=blk_frozen BK7.out 1;have hfz31_2:=blk_frozen BK7.out 2;have hfz31_3:=blk_frozen BK7.out 3;have hfz31_4:=blk_frozen BK7.out 4;have hfz31_5:=blk_frozen BK7.out 5;have hfz31_6:=blk_frozen BK7.out 6;have hfz31_7:=blk_frozen BK7.out 7;have hfz31_8:=blk_frozen BK7.out 8;have hfz31_9:=blk_frozen BK7.out 9;have hfz31_10:=blk_frozen BK7.out 10;have hfz31_11:=blk_frozen BK7.out 11)|((with_reducible refine gate_callee (f:=86) rfl ?_);refine goesL_ (some 70) rfl rfl Try.func86 (by kernel_rfl) rfl #[.slice (some ad6) t2.length co20, .string ((rd_T31 t2 (ji13)).f0), .int .i64 (-1)] rfl (by (try simp only [List.map_toArray,List.map_cons,List.map_nil]);first|done|(simp only [hji13];rfl)|rfl|(simp only [List.length_drop,List.length_take];rfl)) ?_;(with_reducible refine (shape_Delete.calls k _ _ t2 ((rd_T31 t2 (ji13)).f0) (-1) t17 t18 _ ?side1 ?side2 A18.out).mono ?_);(case side1=>repeat (first|exact (Kd.R_reads' HO4.out).2.2|(with_reducible refine Kd.C_alloc ?_ _)|(with_reducible refine Kd.C_drewN ?_ _)|(with_reducible refine Kd.C_drew ?_)));(case side2=>exact (Kd.R_reads' HO4.out).2.1);rintro e w32 ⟨v19,rfl,ho0,hb⟩;refine ⟨_,rfl, ?_⟩;have n0_:=am_ (Kd.R_elder' (zr_ HO4) (Kd.R_base ho0) hb);have n1_:=am_ (Kd.R_elder' (zr_ HO11) (Kd.R_base ho0) hb);have n2_:=am_ (Kd.R_elder' (zr_ HO15) (Kd.R_base ho0) hb);have n3_:=am_ (Kd.R_lower (Kd.R_newB (Kd.R_new' (Kd.R_new' (Kd.R_new' ho0 (Kd.R_lt (zr_ HO4))) (Kd.R_lt (zr_ HO11))) (Kd.R_lt (zr_ HO15))) (g:=gb7) (o:= .cells #[.string ((rd_T31 t2 (ji13)).f0), .string ((rd_T31 t2 (ji13)).f1), .int .i64 ((rd_T31 t2 (ji13)).f2.f0), .int .i64 ((rd_T31 t2 (ji13)).f2.f1), .int .i64 ((rd_T31 t2 (ji13)).f2.f2), .int .i64 ((rd_T31 t2 (ji13)).f3.f0), .int .i64 ((rd_T31 t2 (ji13)).f3.f1), .int .i64 ((rd_T31 t2 (ji13)).f3.f2), .int .i64 ((rd_T31 t2 (ji13)).f4.f0), .int .i64 ((rd_T31 t2 (ji13)).f4.f1), .int .i64 ((rd_T31 t2 (ji13)).f4.f2), .int .i64 ((rd_T31 t2 (ji13)).f5)] 31 (0,0)) (zb_ BK7)) (below_size (zl2_ HB GE7 GE8)));have n4_:=am_ (blk_below (zb_ BK7) hb);have n5_:=am_ (blk_below (zb_ BK8) hb);have n6_:=am_ (below_step (zl2_ HB GE7 GE8) hb);clear HO4;clear HO11;clear HO15;clear BK7;clear BK8;clear HB;have HO4:=n0_;have HO11:=n1_;have HO15:=n2_;have HO20:=n3_;have BK7:=n4_;have BK8:=n5_;have HB:=n6_;clear n0_ n1_ n2_ n3_ n4_ n5_ n6_;(try clear hb);(try clear hb2);(try clear hk);(try clear hi);(try clear ho0);have hcz33_0:w32.cell? ⟨gb7,0,none⟩=some (.string ((rd_T31 t2 (ji13)).f0)):=(blk_cell BK7.out 0).trans rfl;have hcz33_1:w32.cell? ⟨gb7,1,none⟩=some (.string ((rd_T31 t2 (ji13)).f1)):=(blk_cell BK7.out 1).trans rfl;have hcz33_2:w32.cell? ⟨gb7,2,none⟩=some (.int .i64 ((rd_T31 t2 (ji13)).f2.f0)):=(blk_cell BK7.out 2).trans rfl;have hcz33_3:w32.cell? ⟨gb7,3,none⟩=some (.int .i64 ((rd_T31 t2 (ji13)).f2.f1)):=(blk_cell BK7.out 3).trans rfl;have hcz33_4:w32.cell? ⟨gb7,4,none⟩=some (.int .i64 ((rd_T31 t2 (ji13)).f2.f2)):=(blk_cell BK7.out 4).trans rfl;have hcz33_5:w32.cell? ⟨gb7,5,none⟩=some (.int .i64 ((rd_T31 t2 (ji13)).f3.f0)):=(blk_cell BK7.out 5).trans rfl;have hcz33_6:w32.cell? ⟨gb7,6,none⟩=some (.int .i64 ((rd_T31 t2 (ji13)).f3.f1)):=(blk_cell BK7.out 6).trans rfl;have hcz33_7:w32.cell? ⟨gb7,7,none⟩=some (.int .i64 ((rd_T31 t2 (ji13)).f3.f2)):=(blk_cell BK7.out 7).trans rfl;have hcz33_8:w32.cell? ⟨gb7,8,none⟩=some (.int .i64 ((rd_T31 t2 (ji13)).f4.f0)):=(blk_cell BK7.out 8).trans rfl;have hcz33_9:w32.cell? ⟨gb7,9,none⟩=some (.int .i64 ((rd_T31 t2 (ji13)).f4.f1)):=(blk_cell BK7.out 9).trans rfl;have hcz33_10:w32.cell? ⟨gb7,10,none⟩=some (.int .i64 ((rd_T31 t2 (ji13)).f4.f2)):=(blk_cell BK7.out 10).trans rfl;have hcz33_11:w32.cell? ⟨gb7,11,none⟩=some (.int .i64 ((rd_T31 t2 (ji13)).f5)):=(blk_cell BK7.out 11).trans rfl;have hfz33_0:=blk_frozen BK7.out 0;have hfz33_1:=blk_frozen BK7.out 1;have hfz33_2:=blk_frozen BK7.out 2;have hfz33_3:=blk_frozen BK7.out 3;have hfz33_4:=blk_frozen BK7.out 4;have hfz33_5:=blk_frozen BK7.out 5;have hfz33_6:=blk_frozen BK7.out 6;have hfz33_7:=blk_frozen BK7.out 7;have hfz33_8:=blk_frozen BK7.out 8;have hfz33_9:=blk_frozen BK7.out 9;have hfz33_10:=blk_frozen BK7.out 10;have hfz33_11:=blk_frozen BK7.out 11))
     go_loopg [16,17] k (fun kq v16 v17 w'=> ∃(x16_1:Bool) (x17_1:Int),v16= .bool x16_1∧v17= .int .i64 x17_1∧Aside0 (law15_ShapeLimits.l0 kq t2 t9 t12 t16 t17 t18 x16_1 x17_1 ((rd_T31 t2 (ji13)).f0) ((rd_T31 t2 (ji13)).f1) ((rd_T31 t2 (ji13)).f2.f0) ((rd_T31 t2 (ji13)).f2.f1) ((rd_T31 t2 (ji13)).f2.f2) ((rd_T31 t2 (ji13)).f3.f0) ((rd_T31 t2 (ji13)).f3.f1) ((rd_T31 t2 (ji13)).f3.f2) ((rd_T31 t2 (ji13)).f4.f0) ((rd_T31 t2 (ji13)).f4.f1) ((rd_T31 t2 (ji13)).f4.f2) ((rd_T31 t2 (ji13)).f5) (Int.tmod (wrap64 (a2)) 300) ((rd_T31 t2 (ji13)).f4.f1) ((rd_T31 t2 (ji13)).f4.f2)=some r)∧Aside0 (kq≤k)∧Aside0 (Kd.R k31 31 w' w.heap.size (fun k_=>some k_≠(v10:Value).ownBlock∧some k_≠(v19:Value).ownBlock∧k_≠gb7) (.slice (some ad6) t2.length co20) t2)∧Aside0 (Kd.R k31 31 w' w.heap.size (fun k_=>some k_≠((.slice (some ad6) t2.length co20):Value).ownBlock∧some k_≠(v19:Value).ownBlock∧k_≠gb7) v10 t9)∧Aside0 (Kd.R k31 31 w' w.heap.size (fun k_=>some k_≠((.slice (some ad6) t2.length co20):Value).ownBlock∧some k_≠(v10:Value).ownBlock∧k_≠gb7) v19 t17)∧Aside0 (w'.heap[gb7]?=some (.cells #[.string ((rd_T31 t2 (ji13)).f0), .string ((rd_T31 t2 (ji13)).f1), .int .i64 ((rd_T31 t2 (ji13)).f2.f0), .int .i64 ((rd_T31 t2 (ji13)).f2.f1), .int .i64 ((rd_T31 t2 (ji13)).f2.f2), .int .i64 ((rd_T31 t2 (ji13)).f3.f0), .int .i64 ((rd_T31 t2 (ji13)).f3.f1), .int .i64 ((rd_T31 t2 (ji13)).f3.f2), .int .i64 ((rd_T31 t2 (ji13)).f4.f0), .int .i64 ((rd_T31 t2 (ji13)).f4.f1), .int .i64 ((rd_T31 t2 (ji13)).f4.f2), .int .i64 ((rd_T31 t2 (ji13)).f5)] 31 (0,0)))∧Aside0 (w'.heap[gb8]?=some (.cells #[.int .i64 (Int.tmod (wrap64 (a2)) 300), .int .i64 ((rd_T31 t2 (ji13)).f4.f1), .int .i64 ((rd_T31 t2 (ji13)).f4.f2)] 27 (0,0)))∧Aside0 (Below w.heap.size w w'))
     case atStart=>exact ⟨((!(((rd_T31 t2 (ji13)).f3.f0)==0)||(!(((rd_T31 t2 (ji13)).f3.f1)==0)||(!(((rd_T31 t2 (ji13)).f3.f2)==0))))),(0),(by first|rfl|(simp;done)|(simp only [←hji13]<;>(first|rfl|simp))|(simp [*];done)),(by first|rfl|(simp;done)|(simp [*];done)),H',⟨Nat.le_refl _⟩,⟨by (with_reducible repeat (first|apply Kd.R_alloc|apply Kd.R_drewN|apply Kd.R_drew));exact Kd.R_mono HO4.out (fun _ hk=>⟨hk.1.1.2,⟨hk.2,hk.1.1.1.2⟩⟩)⟩,⟨by (with_reducible repeat (first|apply Kd.R_alloc|apply Kd.R_drewN|apply Kd.R_drew));exact Kd.R_mono HO11.out (fun _ hk=>⟨hk.1.1.1.2,⟨hk.2,hk.1.1.2⟩⟩)⟩,⟨by (with_reducible repeat (first|apply Kd.R_alloc|apply Kd.R_drewN|apply Kd.R_drew));exact Kd.R_mono HO20.out (fun _ hk=>⟨hk.1.1.1.2,⟨hk.1.1.2,hk.2⟩⟩)⟩,⟨by refine zk_ ?_;exact BK7.out⟩,⟨by refine zk_ ?_;exact BK8.out⟩,⟨zl2_ HB GE7 GE8⟩⟩
     case round=>
      clear H'
      try clear c1
      try clear c2
      try clear p2
      try clear c3
      try clear c4
      try clear c4b0
      try clear c4b1
      try clear p6
      try clear q6
      try clear hx6
      try clear c8
      try clear c8b0
      try clear c8b1
      try clear c8b2
      try clear c14
      try clear c14b0
      try clear c15
      try clear c15b0
      try clear c23
      try clear c24
      try clear c32
      try clear hcz22_0
      try clear hcz22_1
      try clear hcz22_10
      try clear hcz22_11
      try clear hcz22_2
      try clear hcz22_3
      try clear hcz22_4
      try clear hcz22_5
      try clear hcz22_6
      try clear hcz22_7
      try clear hcz22_8
      try clear hcz22_9
      try clear hcz25_0
      try clear hcz25_1
      try clear hcz25_2
      try clear hcz26_0
      try clear hcz26_1
      try clear hcz26_10
      try clear hcz26_11
      try clear hcz26_2
      try clear hcz26_3
      try clear hcz26_4
      try clear hcz26_5
      try clear hcz26_6
      try clear hcz26_7
      try clear hcz26_8
      try clear hcz26_9
      try clear hcz28_0
      try clear hcz28_1
      try clear hcz28_10
      try clear hcz28_11
      try clear hcz28_2
      try clear hcz28_3
      try clear hcz28_4
      try clear hcz28_5
      try clear hcz28_6
      try clear hcz28_7
      try clear hcz28_8
      try clear hcz28_9
      try clear hcz29_0
      try clear hcz29_1
      try clear hcz29_2
      try clear hcz31_0
      try clear hcz31_1
      try clear hcz31_10
      try clear hcz31_11
      try clear hcz31_2
      try clear hcz31_3
      try clear hcz31_4
      try clear hcz31_5
      try clear hcz31_6
      try clear hcz31_7
      try clear hcz31_8
      try clear hcz31_9
      try clear hcz33_0
      try clear hcz33_1
      try clear hcz33_10
      try clear hcz33_11
      try clear hcz33_2
      try clear hcz33_3
      try clear hcz33_4
      try clear hcz33_5
      try clear hcz33_6
      try clear hcz33_7
      try clear hcz33_8
      try clear hcz33_9
      try clear hfz22_0
      try clear hfz22_1
      try clear hfz22_10
      try clear hfz22_11
      try clear hfz22_2
      try clear hfz22_3
      try clear hfz22_4
      try clear hfz22_5
      try clear hfz22_6
      try clear hfz22_7
      try clear hfz22_8
      try clear hfz22_9
      try clear hfz25_0
      try clear hfz25_1
      try clear hfz25_2
      try clear hfz26_0
      try clear hfz26_1
      try clear hfz26_10
      try clear hfz26_11
      try clear hfz26_2
      try clear hfz26_3
      try clear hfz26_4
      try clear hfz26_5
      try clear hfz26_6
      try clear hfz26_7
      try clear hfz26_8
      try clear hfz26_9
      try clear hfz28_0
      try clear hfz28_1
      try clear hfz28_10
      try clear hfz28_11
      try clear hfz28_2
      try clear hfz28_3
      try clear hfz28_4
      try clear hfz28_5
      try clear hfz28_6
      try clear hfz28_7
      try clear hfz28_8
      try clear hfz28_9
      try clear hfz29_0
      try clear hfz29_1
      try clear hfz29_2
      try clear hfz31_0
      try clear hfz31_1
      try clear hfz31_10
      try clear hfz31_11
      try clear hfz31_2
      try clear hfz31_3
      try clear hfz31_4
      try clear hfz31_5
      try clear hfz31_6
      try clear hfz31_7
      try clear hfz31_8
      try clear hfz31_9
      try clear hfz33_0
      try clear hfz33_1
      try clear hfz33_10
      try clear hfz33_11
      try clear hfz33_2
      try clear hfz33_3
      try clear hfz33_4
      try clear hfz33_5
      try clear hfz33_6
      try clear hfz33_7
      try clear hfz33_8
      try clear hfz33_9
      try clear hx6_0
      try clear hx6_1
      try clear hx6_10
      try clear hx6_11
      try clear hx6_2
      try clear hx6_3
      try clear hx6_4
      try clear hx6_5
      try clear hx6_6
      try clear hx6_7
      try clear hx6_8
      try clear hx6_9
      try clear p6
      try clear q6
      obtain ⟨x16_1,x17_1,rfl,rfl,HA,HK1,HO_7,HO_10,HO_14,BK7,BK8,HB⟩:=hrel
      cases gk with
      |zero=>exact absurd HA.out (by simp [law15_ShapeLimits.l0])
      |succ k1=>
       have H:=HA.out
       clear HA
       simp only [law15_ShapeLimits.l0] at H
       by_cases c34:x17_1<(t2.length:Int)
       ·rw [if_pos c34] at H
        have c34b0:decide (x17_1<(t2.length:Int))=true:=decide_eq_true c34
        clear c34
        by_cases c35:x16_1=true
        ·subst c35
         have H1:(law15_ShapeLimits.l0 k1 t2 t9 t12 t16 t17 t18 true (wrap64 (x17_1+1)) ((rd_T31 t2 (ji13)).f0) ((rd_T31 t2 (ji13)).f1) ((rd_T31 t2 (ji13)).f2.f0) ((rd_T31 t2 (ji13)).f2.f1) ((rd_T31 t2 (ji13)).f2.f2) ((rd_T31 t2 (ji13)).f3.f0) ((rd_T31 t2 (ji13)).f3.f1) ((rd_T31 t2 (ji13)).f3.f2) ((rd_T31 t2 (ji13)).f4.f0) ((rd_T31 t2 (ji13)).f4.f1) ((rd_T31 t2 (ji13)).f4.f2) ((rd_T31 t2 (ji13)).f5) (Int.tmod (wrap64 (a2)) 300) ((rd_T31 t2 (ji13)).f4.f1) ((rd_T31 t2 (ji13)).f4.f2))=some r:=by rw [if_pos rfl] at H;exact H
         clear H
         have H:=H1
         clear H1
         have H':=Aside0.mk H
         clear H
         try go_wp2
         have n0_:=am_ (Kd.R_drew HO_7.out)
         have n1_:=am_ (Kd.R_drew HO_10.out)
         have n2_:=am_ (Kd.R_drew HO_14.out)
         have n3_:=am_ (blk_drew BK7.out)
         have n4_:=am_ (blk_drew BK8.out)
         have n5_:=am_ (below_drew1 HB.out)
         clear HO_7
         clear HO_10
         clear HO_14
         clear BK7
         clear BK8
         clear HB
         have HO_7:=n0_
         have HO_10:=n1_
         have HO_14:=n2_
         have BK7:=n3_
         have BK8:=n4_
         have HB:=n5_
         clear n0_ n1_ n2_ n3_ n4_ n5_
         refine start_ (n:=12) (S:=fun w'=>True) (ds:=[]) (bt_ 12 0) (by kernel_rfl) rfl rfl trivial (fun hHeld=> ?_);refine with_tabW law15_ShapeLimits.tab15 law15_ShapeLimits.bits15 (fun HT_ HW_=> ?_)
         generalize wr.drew=w36 at HO_7 HO_10 HO_14 BK7 BK8 HB hHeld ⊢
         refine pu_ (i:=0) (N:=some 83) (bt_ 12 1) HT_ ?_
         refine pu_ (i:=1) (N:=some 84) (bt_ 12 3) HT_ ?_
         refine pn_ (i:=2) (N:=some 85) (bt_ 12 7) HT_ ?_
         refine pn_ (i:=3) (N:=some 86) (bt_ 12 15) HT_ ?_
         refine pn_ (i:=4) (N:=some 87) (bt_ 12 31) HT_ ?_
         refine pn_ (i:=5) (N:=some 88) (bt_ 12 63) HT_ ?_
         refine pn_ (i:=6) (N:=some 89) (bt_ 12 127) HT_ ?_
         refine pn_ (i:=7) (N:=some 90) (bt_ 12 255) HT_ ?_
         refine pn_ (i:=8) (N:=some 91) (bt_ 12 511) HT_ ?_
         refine pn_ (i:=9) (N:=some 92) (bt_ 12 1023) HT_ ?_
         refine pu_ (i:=10) (N:=some 93) (bt_ 12 2047) HT_ ?_
         refine pu_ (i:=11) (N:=some 16) (bt_ 12 4095) HT_ ?_
         refine done_ (done_of HT_.out (by kernel_rfl)) ?_
         try go_wp2
         go_roundg k1
         case measure=>have:=HK1.out;omega
         case rel=>exact ⟨(true),(wrap64 (x17_1+1)),(by first|rfl|(simp;done)|(simp [*];done)),(by first|rfl|(simp;done)|(simp [*];done)),H',⟨by have:=HK1.out;omega⟩,⟨by (with_reducible repeat (first|apply Kd.R_alloc|apply Kd.R_drewN|apply Kd.R_drew));exact HO_7.out⟩,⟨by (with_reducible repeat (first|apply Kd.R_alloc|apply Kd.R_drewN|apply Kd.R_drew));exact HO_10.out⟩,⟨by (with_reducible repeat (first|apply Kd.R_alloc|apply Kd.R_drewN|apply Kd.R_drew));exact HO_14.out⟩,⟨by refine zk_ ?_;exact BK7.out⟩,⟨by refine zk_ ?_;exact BK8.out⟩,⟨zl2_ HB GE7 GE8⟩⟩
        ·replace c35:=Bool.eq_false_iff.mpr c35
         subst c35
         have H1:(if 0≤x17_1 then (law15_ShapeLimits.l0 k1 t2 t9 t12 t16 t17 t18 (((rd_T31 t2 x17_1).f1).toList==((rd_T31 t2 (ji13)).f0).toList) (wrap64 (x17_1+1)) ((rd_T31 t2 (ji13)).f0) ((rd_T31 t2 (ji13)).f1) ((rd_T31 t2 (ji13)).f2.f0) ((rd_T31 t2 (ji13)).f2.f1) ((rd_T31 t2 (ji13)).f2.f2) ((rd_T31 t2 (ji13)).f3.f0) ((rd_T31 t2 (ji13)).f3.f1) ((rd_T31 t2 (ji13)).f3.f2) ((rd_T31 t2 (ji13)).f4.f0) ((rd_T31 t2 (ji13)).f4.f1) ((rd_T31 t2 (ji13)).f4.f2) ((rd_T31 t2 (ji13)).f5) (Int.tmod (wrap64 (a2)) 300) ((rd_T31 t2 (ji13)).f4.f1) ((rd_T31 t2 (ji13)).f4.f2)) else (none))=some r:=by rw [if_neg (show¬(false=true) by decide)] at H;exact H
         clear H
         have H:=H1
         clear H1
         by_cases c37:0≤x17_1
         ·rw [if_pos c37] at H
          have c37b0:decide (0≤x17_1)=true:=decide_eq_true c37
          clear c37
          have H':=Aside0.mk H
          clear H
          try go_wp2
          have n0_:=am_ (Kd.R_drew HO_7.out)
          have n1_:=am_ (Kd.R_drew HO_10.out)
          have n2_:=am_ (Kd.R_drew HO_14.out)
          have n3_:=am_ (blk_drew BK7.out)
          have n4_:=am_ (blk_drew BK8.out)
          have n5_:=am_ (below_drew1 HB.out)
          clear HO_7
          clear HO_10
          clear HO_14
          clear BK7
          clear BK8
          clear HB
          have HO_7:=n0_
          have HO_10:=n1_
          have HO_14:=n2_
          have BK7:=n3_
          have BK8:=n4_
          have HB:=n5_
          clear n0_ n1_ n2_ n3_ n4_ n5_
          have p21:0≤(x17_1:Int):=of_decide_eq_true zq_
          have q21:x17_1<(t2.length:Int):=of_decide_eq_true zq_
          obtain ⟨ad21,e21,hx21_0,hx21_1,hx21_2,hx21_3,hx21_4,hx21_5,hx21_6,hx21_7,hx21_8,hx21_9,hx21_10,hx21_11⟩:=at_T31 (Kd.R_reads' HO_7.out).2.2 x17_1 p21 q21
          obtain rfl:ad6=ad21:=(by injection e21)
          replace p21:=eq_true p21
          replace q21:=eq_true q21
          refine start_ (n:=12) (S:=fun w'=>w'.cell? ⟨gb7,0,none⟩=some (.string ((rd_T31 t2 (ji13)).f0))∧w'.cell? ⟨gb7,1,none⟩=some (.string ((rd_T31 t2 (ji13)).f1))∧w'.cell? ⟨gb7,2,none⟩=some (.int .i64 ((rd_T31 t2 (ji13)).f2.f0))∧w'.cell? ⟨gb7,3,none⟩=some (.int .i64 ((rd_T31 t2 (ji13)).f2.f1))∧w'.cell? ⟨gb7,4,none⟩=some (.int .i64 ((rd_T31 t2 (ji13)).f2.f2))∧w'.cell? ⟨gb7,5,none⟩=some (.int .i64 ((rd_T31 t2 (ji13)).f3.f0))∧w'.cell? ⟨gb7,6,none⟩=some (.int .i64 ((rd_T31 t2 (ji13)).f3.f1))∧w'.cell? ⟨gb7,7,none⟩=some (.int .i64 ((rd_T31 t2 (ji13)).f3.f2))∧w'.cell? ⟨gb7,8,none⟩=some (.int .i64 ((rd_T31 t2 (ji13)).f4.f0))∧w'.cell? ⟨gb7,9,none⟩=some (.int .i64 ((rd_T31 t2 (ji13)).f4.f1))∧w'.cell? ⟨gb7,10,none⟩=some (.int .i64 ((rd_T31 t2 (ji13)).f4.f2))∧w'.cell? ⟨gb7,11,none⟩=some (.int .i64 ((rd_T31 t2 (ji13)).f5))∧w'.cell? (ad6.add ((x17_1).toNat*12))=some (.string ((rd_T31 t2 x17_1).f0))∧w'.cell? ⟨(ad6.add ((x17_1).toNat*12)).block,(ad6.add ((x17_1).toNat*12)).off+1,none⟩=some (.string ((rd_T31 t2 x17_1).f1))∧w'.cell? ⟨(ad6.add ((x17_1).toNat*12)).block,(ad6.add ((x17_1).toNat*12)).off+2,none⟩=some (.int .i64 ((rd_T31 t2 x17_1).f2.f0))∧w'.cell? ⟨(ad6.add ((x17_1).toNat*12)).block,(ad6.add ((x17_1).toNat*12)).off+3,none⟩=some (.int .i64 ((rd_T31 t2 x17_1).f2.f1))∧w'.cell? ⟨(ad6.add ((x17_1).toNat*12)).block,(ad6.add ((x17_1).toNat*12)).off+4,none⟩=some (.int .i64 ((rd_T31 t2 x17_1).f2.f2))∧w'.cell? ⟨(ad6.add ((x17_1).toNat*12)).block,(ad6.add ((x17_1).toNat*12)).off+5,none⟩=some (.int .i64 ((rd_T31 t2 x17_1).f3.f0))∧w'.cell? ⟨(ad6.add ((x17_1).toNat*12)).block,(ad6.add ((x17_1).toNat*12)).off+6,none⟩=some (.int .i64 ((rd_T31 t2 x17_1).f3.f1))∧w'.cell? ⟨(ad6.add ((x17_1).toNat*12)).block,(ad6.add ((x17_1).toNat*12)).off+7,none⟩=some (.int .i64 ((rd_T31 t2 x17_1).f3.f2))∧w'.cell? ⟨(ad6.add ((x17_1).toNat*12)).block,(ad6.add ((x17_1).toNat*12)).off+8,none⟩=some (.int .i64 ((rd_T31 t2 x17_1).f4.f0))∧w'.cell? ⟨(ad6.add ((x17_1).toNat*12)).block,(ad6.add ((x17_1).toNat*12)).off+9,none⟩=some (.int .i64 ((rd_T31 t2 x17_1).f4.f1))∧w'.cell? ⟨(ad6.add ((x17_1).toNat*12)).block,(ad6.add ((x17_1).toNat*12)).off+10,none⟩=some (.int .i64 ((rd_T31 t2 x17_1).f4.f2))∧w'.cell? ⟨(ad6.add ((x17_1).toNat*12)).block,(ad6.add ((x17_1).toNat*12)).off+11,none⟩=some (.int .i64 ((rd_T31 t2 x17_1).f5))) (ds:=[]) (bt_ 12 0) (by kernel_rfl) rfl rfl ⟨(blk_cell BK7.out 0).trans rfl,(blk_cell BK7.out 1).trans rfl,(blk_cell BK7.out 2).trans rfl,(blk_cell BK7.out 3).trans rfl,(blk_cell BK7.out 4).trans rfl,(blk_cell BK7.out 5).trans rfl,(blk_cell BK7.out 6).trans rfl,(blk_cell BK7.out 7).trans rfl,(blk_cell BK7.out 8).trans rfl,(blk_cell BK7.out 9).trans rfl,(blk_cell BK7.out 10).trans rfl,(blk_cell BK7.out 11).trans rfl,hx21_0,hx21_1,hx21_2,hx21_3,hx21_4,hx21_5,hx21_6,hx21_7,hx21_8,hx21_9,hx21_10,hx21_11⟩ (fun hHeld=> ?_);refine with_tabW law15_ShapeLimits.tab15 law15_ShapeLimits.bits15 (fun HT_ HW_=> ?_)
          generalize wr.drew=w38 at HO_7 HO_10 HO_14 BK7 BK8 HB hx21_0 hx21_1 hx21_10 hx21_11 hx21_2 hx21_3 hx21_4 hx21_5 hx21_6 hx21_7 hx21_8 hx21_9 hHeld ⊢
          refine pu_ (i:=0) (N:=some 83) (bt_ 12 1) HT_ ?_
          refine pu_ (i:=1) (N:=some 84) (bt_ 12 3) HT_ ?_
          refine pu_ (i:=2) (N:=some 85) (bt_ 12 7) HT_ ?_
          refine pu_ (i:=3) (N:=some 86) (bt_ 12 15) HT_ ?_
          refine pu_ (i:=4) (N:=some 87) (bt_ 12 31) HT_ ?_
          refine pu_ (i:=5) (N:=some 88) (bt_ 12 63) HT_ ?_
          refine pu_ (i:=7) (N:=some 90) (bt_ 12 191) HT_ ?_
          refine tk_ (i:=6) (N:=some 89) (bt_ 12 255) HT_ HW_ hHeld ?_
          refine tk_ (i:=8) (N:=some 91) (bt_ 12 511) HT_ HW_ hHeld ?_
          refine pu_ (i:=9) (N:=some 92) (bt_ 12 1023) HT_ ?_
          refine pu_ (i:=10) (N:=some 93) (bt_ 12 2047) HT_ ?_
          refine pu_ (i:=11) (N:=some 16) (bt_ 12 4095) HT_ ?_
          refine done_ (done_of HT_.out (by kernel_rfl)) ?_
          try go_wp2
          go_roundg k1
          case measure=>have:=HK1.out;omega
          case rel=>exact ⟨((((rd_T31 t2 x17_1).f1).toList==((rd_T31 t2 (ji13)).f0).toList)),(wrap64 (x17_1+1)),(by first|rfl|(simp;done)|(simp only [←hji13]<;>(first|rfl|simp))|(simp [*];done)),(by first|rfl|(simp;done)|(simp [*];done)),H',⟨by have:=HK1.out;omega⟩,⟨by (with_reducible repeat (first|apply Kd.R_alloc|apply Kd.R_drewN|apply Kd.R_drew));exact HO_7.out⟩,⟨by (with_reducible repeat (first|apply Kd.R_alloc|apply Kd.R_drewN|apply Kd.R_drew));exact HO_10.out⟩,⟨by (with_reducible repeat (first|apply Kd.R_alloc|apply Kd.R_drewN|apply Kd.R_drew));exact HO_14.out⟩,⟨by refine zk_ ?_;exact BK7.out⟩,⟨by refine zk_ ?_;exact BK8.out⟩,⟨zl2_ HB GE7 GE8⟩⟩
         ·rw [if_neg c37] at H
          cases H
       ·rw [if_neg c34] at H
        have c34b0:decide (x17_1<(t2.length:Int))=false:=decide_eq_false c34
        clear c34
        have HC39:=Aside0.mk H
        clear H
        go_upto_region 16 with (fail)
        go_cut [142] (fun v142 wc=> ∃(kq:Nat) (x142_38:Bool),v142= .bool x142_38∧Aside0 (law15_ShapeLimits.j1 kq t9 t12 x142_38 ((rd_T31 t2 (ji13)).f0) ((rd_T31 t2 (ji13)).f1) ((rd_T31 t2 (ji13)).f2.f0) ((rd_T31 t2 (ji13)).f2.f1) ((rd_T31 t2 (ji13)).f2.f2) ((rd_T31 t2 (ji13)).f3.f0) ((rd_T31 t2 (ji13)).f3.f1) ((rd_T31 t2 (ji13)).f3.f2) ((rd_T31 t2 (ji13)).f4.f0) ((rd_T31 t2 (ji13)).f4.f1) ((rd_T31 t2 (ji13)).f4.f2) ((rd_T31 t2 (ji13)).f5) (Int.tmod (wrap64 (a2)) 300) ((rd_T31 t2 (ji13)).f4.f1) ((rd_T31 t2 (ji13)).f4.f2)=some r)∧Aside0 (kq≤k1)∧Aside0 (Kd.R k31 31 wc w.heap.size (fun k_=>k_≠gb7) v10 t9)∧Aside0 (wc.heap[gb7]?=some (.cells #[.string ((rd_T31 t2 (ji13)).f0), .string ((rd_T31 t2 (ji13)).f1), .int .i64 ((rd_T31 t2 (ji13)).f2.f0), .int .i64 ((rd_T31 t2 (ji13)).f2.f1), .int .i64 ((rd_T31 t2 (ji13)).f2.f2), .int .i64 ((rd_T31 t2 (ji13)).f3.f0), .int .i64 ((rd_T31 t2 (ji13)).f3.f1), .int .i64 ((rd_T31 t2 (ji13)).f3.f2), .int .i64 ((rd_T31 t2 (ji13)).f4.f0), .int .i64 ((rd_T31 t2 (ji13)).f4.f1), .int .i64 ((rd_T31 t2 (ji13)).f4.f2), .int .i64 ((rd_T31 t2 (ji13)).f5)] 31 (0,0)))∧Aside0 (wc.heap[gb8]?=some (.cells #[.int .i64 (Int.tmod (wrap64 (a2)) 300), .int .i64 ((rd_T31 t2 (ji13)).f4.f1), .int .i64 ((rd_T31 t2 (ji13)).f4.f2)] 27 (0,0)))∧Aside0 (Below w.heap.size w wc))
        case first=>
         have H:=HC39.out
         clear HC39
         replace H:=Option.bind_eq_some_iff.mp H
         obtain ⟨t22,A400,H⟩:=H
         replace H:(if ((t22==0) !=(decide (((rd_T31 t2 (ji13)).f4.f0)≤(Int.tmod (wrap64 (a2)) 300))))=true then (none) else ((law1_Num.f t12).bind fun t23=>(if t23=0 then ((law1_Num.f t16).bind fun t24=>(if t24=14 then ((law1_Num.f t18).bind fun t25=>(if ((t25==13) !=x16_1)=true then (none) else (if x16_1=true then (law15_ShapeLimits.j1 k1 t9 t12 false ((rd_T31 t2 (ji13)).f0) ((rd_T31 t2 (ji13)).f1) ((rd_T31 t2 (ji13)).f2.f0) ((rd_T31 t2 (ji13)).f2.f1) ((rd_T31 t2 (ji13)).f2.f2) ((rd_T31 t2 (ji13)).f3.f0) ((rd_T31 t2 (ji13)).f3.f1) ((rd_T31 t2 (ji13)).f3.f2) ((rd_T31 t2 (ji13)).f4.f0) ((rd_T31 t2 (ji13)).f4.f1) ((rd_T31 t2 (ji13)).f4.f2) ((rd_T31 t2 (ji13)).f5) (Int.tmod (wrap64 (a2)) 300) ((rd_T31 t2 (ji13)).f4.f1) ((rd_T31 t2 (ji13)).f4.f2)) else ((law1_Num.f t18).bind fun t26=>(if t26=0 then (law15_ShapeLimits.j1 k1 t9 t12 ((t17.length:Int) !=(wrap64 ((t2.length:Int) - 1))) ((rd_T31 t2 (ji13)).f0) ((rd_T31 t2 (ji13)).f1) ((rd_T31 t2 (ji13)).f2.f0) ((rd_T31 t2 (ji13)).f2.f1) ((rd_T31 t2 (ji13)).f2.f2) ((rd_T31 t2 (ji13)).f3.f0) ((rd_T31 t2 (ji13)).f3.f1) ((rd_T31 t2 (ji13)).f3.f2) ((rd_T31 t2 (ji13)).f4.f0) ((rd_T31 t2 (ji13)).f4.f1) ((rd_T31 t2 (ji13)).f4.f2) ((rd_T31 t2 (ji13)).f5) (Int.tmod (wrap64 (a2)) 300) ((rd_T31 t2 (ji13)).f4.f1) ((rd_T31 t2 (ji13)).f4.f2)) else (none)))))) else (none))) else ((law1_Num.f t12).bind fun t27=>(if t27=12 then ((law1_Num.f t16).bind fun t28=>(if t28=14 then ((law1_Num.f t18).bind fun t29=>(if ((t29==13) !=x16_1)=true then (none) else (if x16_1=true then (law15_ShapeLimits.j1 k1 t9 t12 false ((rd_T31 t2 (ji13)).f0) ((rd_T31 t2 (ji13)).f1) ((rd_T31 t2 (ji13)).f2.f0) ((rd_T31 t2 (ji13)).f2.f1) ((rd_T31 t2 (ji13)).f2.f2) ((rd_T31 t2 (ji13)).f3.f0) ((rd_T31 t2 (ji13)).f3.f1) ((rd_T31 t2 (ji13)).f3.f2) ((rd_T31 t2 (ji13)).f4.f0) ((rd_T31 t2 (ji13)).f4.f1) ((rd_T31 t2 (ji13)).f4.f2) ((rd_T31 t2 (ji13)).f5) (Int.tmod (wrap64 (a2)) 300) ((rd_T31 t2 (ji13)).f4.f1) ((rd_T31 t2 (ji13)).f4.f2)) else ((law1_Num.f t18).bind fun t30=>(if t30=0 then (law15_ShapeLimits.j1 k1 t9 t12 ((t17.length:Int) !=(wrap64 ((t2.length:Int) - 1))) ((rd_T31 t2 (ji13)).f0) ((rd_T31 t2 (ji13)).f1) ((rd_T31 t2 (ji13)).f2.f0) ((rd_T31 t2 (ji13)).f2.f1) ((rd_T31 t2 (ji13)).f2.f2) ((rd_T31 t2 (ji13)).f3.f0) ((rd_T31 t2 (ji13)).f3.f1) ((rd_T31 t2 (ji13)).f3.f2) ((rd_T31 t2 (ji13)).f4.f0) ((rd_T31 t2 (ji13)).f4.f1) ((rd_T31 t2 (ji13)).f4.f2) ((rd_T31 t2 (ji13)).f5) (Int.tmod (wrap64 (a2)) 300) ((rd_T31 t2 (ji13)).f4.f1) ((rd_T31 t2 (ji13)).f4.f2)) else (none)))))) else (none))) else (none))))))=some r:=H
         have A40:=Aside0.mk A400
         clear A400
         by_cases c41:((t22==0) !=(decide (((rd_T31 t2 (ji13)).f4.f0)≤(Int.tmod (wrap64 (a2)) 300))))=true
         ·rw [if_pos c41] at H
          cases H
         ·rw [if_neg c41] at H
          have c41b0:((t22==0) !=(decide (((rd_T31 t2 (ji13)).f4.f0)≤(Int.tmod (wrap64 (a2)) 300))))=false:=by simpa using c41
          (try (have c41b1:decide ((t22==0)=(decide (((rd_T31 t2 (ji13)).f4.f0)≤(Int.tmod (wrap64 (a2)) 300))))=true:=by simpa using c41))
          (try (have c41b2:((t22==0)==(decide (((rd_T31 t2 (ji13)).f4.f0)≤(Int.tmod (wrap64 (a2)) 300))))=true:=by simpa using c41))
          clear c41
          (first|rw [c41b0]|(simp only [i64_w,i32_w];rw [c41b0])|skip)
          replace H:=Option.bind_eq_some_iff.mp H
          obtain ⟨t23,A430,H⟩:=H
          replace H:(if t23=0 then ((law1_Num.f t16).bind fun t24=>(if t24=14 then ((law1_Num.f t18).bind fun t25=>(if ((t25==13) !=x16_1)=true then (none) else (if x16_1=true then (law15_ShapeLimits.j1 k1 t9 t12 false ((rd_T31 t2 (ji13)).f0) ((rd_T31 t2 (ji13)).f1) ((rd_T31 t2 (ji13)).f2.f0) ((rd_T31 t2 (ji13)).f2.f1) ((rd_T31 t2 (ji13)).f2.f2) ((rd_T31 t2 (ji13)).f3.f0) ((rd_T31 t2 (ji13)).f3.f1) ((rd_T31 t2 (ji13)).f3.f2) ((rd_T31 t2 (ji13)).f4.f0) ((rd_T31 t2 (ji13)).f4.f1) ((rd_T31 t2 (ji13)).f4.f2) ((rd_T31 t2 (ji13)).f5) (Int.tmod (wrap64 (a2)) 300) ((rd_T31 t2 (ji13)).f4.f1) ((rd_T31 t2 (ji13)).f4.f2)) else ((law1_Num.f t18).bind fun t26=>(if t26=0 then (law15_ShapeLimits.j1 k1 t9 t12 ((t17.length:Int) !=(wrap64 ((t2.length:Int) - 1))) ((rd_T31 t2 (ji13)).f0) ((rd_T31 t2 (ji13)).f1) ((rd_T31 t2 (ji13)).f2.f0) ((rd_T31 t2 (ji13)).f2.f1) ((rd_T31 t2 (ji13)).f2.f2) ((rd_T31 t2 (ji13)).f3.f0) ((rd_T31 t2 (ji13)).f3.f1) ((rd_T31 t2 (ji13)).f3.f2) ((rd_T31 t2 (ji13)).f4.f0) ((rd_T31 t2 (ji13)).f4.f1) ((rd_T31 t2 (ji13)).f4.f2) ((rd_T31 t2 (ji13)).f5) (Int.tmod (wrap64 (a2)) 300) ((rd_T31 t2 (ji13)).f4.f1) ((rd_T31 t2 (ji13)).f4.f2)) else (none)))))) else (none))) else ((law1_Num.f t12).bind fun t27=>(if t27=12 then ((law1_Num.f t16).bind fun t28=>(if t28=14 then ((law1_Num.f t18).bind fun t29=>(if ((t29==13) !=x16_1)=true then (none) else (if x16_1=true then (law15_ShapeLimits.j1 k1 t9 t12 false ((rd_T31 t2 (ji13)).f0) ((rd_T31 t2 (ji13)).f1) ((rd_T31 t2 (ji13)).f2.f0) ((rd_T31 t2 (ji13)).f2.f1) ((rd_T31 t2 (ji13)).f2.f2) ((rd_T31 t2 (ji13)).f3.f0) ((rd_T31 t2 (ji13)).f3.f1) ((rd_T31 t2 (ji13)).f3.f2) ((rd_T31 t2 (ji13)).f4.f0) ((rd_T31 t2 (ji13)).f4.f1) ((rd_T31 t2 (ji13)).f4.f2) ((rd_T31 t2 (ji13)).f5) (Int.tmod (wrap64 (a2)) 300) ((rd_T31 t2 (ji13)).f4.f1) ((rd_T31 t2 (ji13)).f4.f2)) else ((law1_Num.f t18).bind fun t30=>(if t30=0 then (law15_ShapeLimits.j1 k1 t9 t12 ((t17.length:Int) !=(wrap64 ((t2.length:Int) - 1))) ((rd_T31 t2 (ji13)).f0) ((rd_T31 t2 (ji13)).f1) ((rd_T31 t2 (ji13)).f2.f0) ((rd_T31 t2 (ji13)).f2.f1) ((rd_T31 t2 (ji13)).f2.f2) ((rd_T31 t2 (ji13)).f3.f0) ((rd_T31 t2 (ji13)).f3.f1) ((rd_T31 t2 (ji13)).f3.f2) ((rd_T31 t2 (ji13)).f4.f0) ((rd_T31 t2 (ji13)).f4.f1) ((rd_T31 t2 (ji13)).f4.f2) ((rd_T31 t2 (ji13)).f5) (Int.tmod (wrap64 (a2)) 300) ((rd_T31 t2 (ji13)).f4.f1) ((rd_T31 t2 (ji13)).f4.f2)) else (none)))))) else (none))) else (none))))=some r:=H
          have A43:=Aside0.mk A430
          clear A430
          obtain rfl:t22=t23:=Option.some.inj (A40.out.symm.trans A43.out)
          by_cases c44:t22=0
          ·rw [if_pos c44] at H
           have c44b0:(t22==0)=true:=beq_iff_eq.mpr c44
           have c44b1:(t22 !=0)=false:=bne_eq_false_iff_eq.mpr c44
           have c41b2:decide (((rd_T31 t2 (ji13)).f4.f0)≤(Int.tmod (wrap64 (a2)) 300))=true:=by simpa [c44b0] using c41b0
           clear c44
           replace H:=Option.bind_eq_some_iff.mp H
           obtain ⟨t24,A450,H⟩:=H
           replace H:(if t24=14 then ((law1_Num.f t18).bind fun t25=>(if ((t25==13) !=x16_1)=true then (none) else (if x16_1=true then (law15_ShapeLimits.j1 k1 t9 t12 false ((rd_T31 t2 (ji13)).f0) ((rd_T31 t2 (ji13)).f1) ((rd_T31 t2 (ji13)).f2.f0) ((rd_T31 t2 (ji13)).f2.f1) ((rd_T31 t2 (ji13)).f2.f2) ((rd_T31 t2 (ji13)).f3.f0) ((rd_T31 t2 (ji13)).f3.f1) ((rd_T31 t2 (ji13)).f3.f2) ((rd_T31 t2 (ji13)).f4.f0) ((rd_T31 t2 (ji13)).f4.f1) ((rd_T31 t2 (ji13)).f4.f2) ((rd_T31 t2 (ji13)).f5) (Int.tmod (wrap64 (a2)) 300) ((rd_T31 t2 (ji13)).f4.f1) ((rd_T31 t2 (ji13)).f4.f2)) else ((law1_Num.f t18).bind fun t26=>(if t26=0 then (law15_ShapeLimits.j1 k1 t9 t12 ((t17.length:Int) !=(wrap64 ((t2.length:Int) - 1))) ((rd_T31 t2 (ji13)).f0) ((rd_T31 t2 (ji13)).f1) ((rd_T31 t2 (ji13)).f2.f0) ((rd_T31 t2 (ji13)).f2.f1) ((rd_T31 t2 (ji13)).f2.f2) ((rd_T31 t2 (ji13)).f3.f0) ((rd_T31 t2 (ji13)).f3.f1) ((rd_T31 t2 (ji13)).f3.f2) ((rd_T31 t2 (ji13)).f4.f0) ((rd_T31 t2 (ji13)).f4.f1) ((rd_T31 t2 (ji13)).f4.f2) ((rd_T31 t2 (ji13)).f5) (Int.tmod (wrap64 (a2)) 300) ((rd_T31 t2 (ji13)).f4.f1) ((rd_T31 t2 (ji13)).f4.f2)) else (none)))))) else (none))=some r:=H
           have A45:=Aside0.mk A450
           clear A450
           by_cases c46:t24=14
           ·rw [if_pos c46] at H
            have c46b0:(t24==14)=true:=beq_iff_eq.mpr c46
            have c46b1:(t24 !=14)=false:=bne_eq_false_iff_eq.mpr c46
            clear c46
            replace H:=Option.bind_eq_some_iff.mp H
            obtain ⟨t25,A470,H⟩:=H
            replace H:(if ((t25==13) !=x16_1)=true then (none) else (if x16_1=true then (law15_ShapeLimits.j1 k1 t9 t12 false ((rd_T31 t2 (ji13)).f0) ((rd_T31 t2 (ji13)).f1) ((rd_T31 t2 (ji13)).f2.f0) ((rd_T31 t2 (ji13)).f2.f1) ((rd_T31 t2 (ji13)).f2.f2) ((rd_T31 t2 (ji13)).f3.f0) ((rd_T31 t2 (ji13)).f3.f1) ((rd_T31 t2 (ji13)).f3.f2) ((rd_T31 t2 (ji13)).f4.f0) ((rd_T31 t2 (ji13)).f4.f1) ((rd_T31 t2 (ji13)).f4.f2) ((rd_T31 t2 (ji13)).f5) (Int.tmod (wrap64 (a2)) 300) ((rd_T31 t2 (ji13)).f4.f1) ((rd_T31 t2 (ji13)).f4.f2)) else ((law1_Num.f t18).bind fun t26=>(if t26=0 then (law15_ShapeLimits.j1 k1 t9 t12 ((t17.length:Int) !=(wrap64 ((t2.length:Int) - 1))) ((rd_T31 t2 (ji13)).f0) ((rd_T31 t2 (ji13)).f1) ((rd_T31 t2 (ji13)).f2.f0) ((rd_T31 t2 (ji13)).f2.f1) ((rd_T31 t2 (ji13)).f2.f2) ((rd_T31 t2 (ji13)).f3.f0) ((rd_T31 t2 (ji13)).f3.f1) ((rd_T31 t2 (ji13)).f3.f2) ((rd_T31 t2 (ji13)).f4.f0) ((rd_T31 t2 (ji13)).f4.f1) ((rd_T31 t2 (ji13)).f4.f2) ((rd_T31 t2 (ji13)).f5) (Int.tmod (wrap64 (a2)) 300) ((rd_T31 t2 (ji13)).f4.f1) ((rd_T31 t2 (ji13)).f4.f2)) else (none)))))=some r:=H
            have A47:=Aside0.mk A470
            clear A470
            by_cases c48:((t25==13) !=x16_1)=true
            ·rw [if_pos c48] at H
             cases H
            ·rw [if_neg c48] at H
             have c48b0:((t25==13) !=x16_1)=false:=by simpa using c48
             (try (have c48b1:decide ((t25==13)=x16_1)=true:=by simpa using c48))
             (try (have c48b2:((t25==13)==x16_1)=true:=by simpa using c48))
             clear c48
             by_cases c50:x16_1=true
             ·subst c50
              have c48b2:(t25==13)=true:=by simpa using c48b0
              have H1:(law15_ShapeLimits.j1 k1 t9 t12 false ((rd_T31 t2 (ji13)).f0) ((rd_T31 t2 (ji13)).f1) ((rd_T31 t2 (ji13)).f2.f0) ((rd_T31 t2 (ji13)).f2.f1) ((rd_T31 t2 (ji13)).f2.f2) ((rd_T31 t2 (ji13)).f3.f0) ((rd_T31 t2 (ji13)).f3.f1) ((rd_T31 t2 (ji13)).f3.f2) ((rd_T31 t2 (ji13)).f4.f0) ((rd_T31 t2 (ji13)).f4.f1) ((rd_T31 t2 (ji13)).f4.f2) ((rd_T31 t2 (ji13)).f5) (Int.tmod (wrap64 (a2)) 300) ((rd_T31 t2 (ji13)).f4.f1) ((rd_T31 t2 (ji13)).f4.f2))=some r:=by rw [if_pos rfl] at H;exact H
              clear H
              have H:=H1
              clear H1
              have H':=Aside0.mk H
              clear H
              try go_wp2
              have n0_:=am_ (Kd.R_drew HO_7.out)
              have n1_:=am_ (Kd.R_drew HO_10.out)
              have n2_:=am_ (Kd.R_drew HO_14.out)
              have n3_:=am_ (blk_drew BK7.out)
              have n4_:=am_ (blk_drew BK8.out)
              have n5_:=am_ (below_drew1 HB.out)
              clear HO_7
              clear HO_10
              clear HO_14
              clear BK7
              clear BK8
              clear HB
              have HO_7:=n0_
              have HO_10:=n1_
              have HO_14:=n2_
              have BK7:=n3_
              have BK8:=n4_
              have HB:=n5_
              clear n0_ n1_ n2_ n3_ n4_ n5_
              refine start_ (n:=49) (S:=fun w'=>w'.cell? ⟨gb7,0,none⟩=some (.string ((rd_T31 t2 (ji13)).f0))∧w'.cell? ⟨gb7,1,none⟩=some (.string ((rd_T31 t2 (ji13)).f1))∧w'.cell? ⟨gb7,2,none⟩=some (.int .i64 ((rd_T31 t2 (ji13)).f2.f0))∧w'.cell? ⟨gb7,3,none⟩=some (.int .i64 ((rd_T31 t2 (ji13)).f2.f1))∧w'.cell? ⟨gb7,4,none⟩=some (.int .i64 ((rd_T31 t2 (ji13)).f2.f2))∧w'.cell? ⟨gb7,5,none⟩=some (.int .i64 ((rd_T31 t2 (ji13)).f3.f0))∧w'.cell? ⟨gb7,6,none⟩=some (.int .i64 ((rd_T31 t2 (ji13)).f3.f1))∧w'.cell? ⟨gb7,7,none⟩=some (.int .i64 ((rd_T31 t2 (ji13)).f3.f2))∧w'.cell? ⟨gb7,8,none⟩=some (.int .i64 ((rd_T31 t2 (ji13)).f4.f0))∧w'.cell? ⟨gb7,9,none⟩=some (.int .i64 ((rd_T31 t2 (ji13)).f4.f1))∧w'.cell? ⟨gb7,10,none⟩=some (.int .i64 ((rd_T31 t2 (ji13)).f4.f2))∧w'.cell? ⟨gb7,11,none⟩=some (.int .i64 ((rd_T31 t2 (ji13)).f5))∧w'.cell? ⟨gb8,0,none⟩=some (.int .i64 (Int.tmod (wrap64 (a2)) 300))∧w'.cell? ⟨gb8,1,none⟩=some (.int .i64 ((rd_T31 t2 (ji13)).f4.f1))∧w'.cell? ⟨gb8,2,none⟩=some (.int .i64 ((rd_T31 t2 (ji13)).f4.f2))) (ds:=[]) (bt_ 49 0) (by kernel_rfl) rfl rfl ⟨(blk_cell BK7.out 0).trans rfl,(blk_cell BK7.out 1).trans rfl,(blk_cell BK7.out 2).trans rfl,(blk_cell BK7.out 3).trans rfl,(blk_cell BK7.out 4).trans rfl,(blk_cell BK7.out 5).trans rfl,(blk_cell BK7.out 6).trans rfl,(blk_cell BK7.out 7).trans rfl,(blk_cell BK7.out 8).trans rfl,(blk_cell BK7.out 9).trans rfl,(blk_cell BK7.out 10).trans rfl,(blk_cell BK7.out 11).trans rfl,(blk_cell BK8.out 0).trans rfl,(blk_cell BK8.out 1).trans rfl,(blk_cell BK8.out 2).trans rfl⟩ (fun hHeld=> ?_);refine with_tabW law15_ShapeLimits.tab16 law15_ShapeLimits.bits16 (fun HT_ HW_=> ?_)
              generalize wr.drew=w51 at HO_7 HO_10 HO_14 BK7 BK8 HB hHeld ⊢
              refine pu_ (i:=0) (N:=some 94) (bt_ 49 1) HT_ ?_
              refine pu_ (i:=3) (N:=some 97) (bt_ 49 9) HT_ ?_
              refine pu_ (i:=4) (N:=some 98) (bt_ 49 25) HT_ ?_
              refine pu_ (i:=6) (N:=some 100) (bt_ 49 89) HT_ ?_
              refine tk_ (i:=5) (N:=some 99) (bt_ 49 121) HT_ HW_ hHeld ?_
              refine tk_ (i:=7) (N:=some 101) (bt_ 49 249) HT_ HW_ hHeld ?_
              refine pu_ (i:=8) (N:=some 102) (bt_ 49 505) HT_ ?_
              refine one_ (i:=1) (N:=some 95) (bt_ 49 507) rfl rfl (one_of HT_.out (by kernel_rfl)) (by decide) (fun K hK=> ?_)
              refine goes_ Try.func61 (by kernel_rfl) rfl #[.int .i64 t12] (by rfl) rfl rfl zs_ ?_
              with_reducible refine (law1_Num.calls t12 t22 _ A40.out).mono ?_
              rintro e w' ⟨rfl,⟨nd,rfl⟩⟩
              refine ⟨_,rfl, ?_⟩
              refine hK.out _ _ ⟨(blk_cell BK7.out 0).trans rfl,(blk_cell BK7.out 1).trans rfl,(blk_cell BK7.out 2).trans rfl,(blk_cell BK7.out 3).trans rfl,(blk_cell BK7.out 4).trans rfl,(blk_cell BK7.out 5).trans rfl,(blk_cell BK7.out 6).trans rfl,(blk_cell BK7.out 7).trans rfl,(blk_cell BK7.out 8).trans rfl,(blk_cell BK7.out 9).trans rfl,(blk_cell BK7.out 10).trans rfl,(blk_cell BK7.out 11).trans rfl,(blk_cell BK8.out 0).trans rfl,(blk_cell BK8.out 1).trans rfl,(blk_cell BK8.out 2).trans rfl⟩ (fun hHeld=> ?_)
              clear hK K
              refine no_ (N:=some 95) ?_
              refine pu_ (i:=2) (N:=some 96) (bt_ 49 511) HT_ ?_
              refine pu_ (i:=9) (N:=some 103) (bt_ 49 1023) HT_ ?_
              refine pu_ (i:=10) (N:=some 104) (bt_ 49 2047) HT_ ?_
              refine pu_ (i:=11) (N:=some 105) (bt_ 49 4095) HT_ ?_
              refine one_ (i:=12) (N:=some 106) (bt_ 49 8191) rfl rfl (one_of HT_.out (by kernel_rfl)) (by decide) (fun K hK=> ?_)
              refine goes_ Try.func61 (by kernel_rfl) rfl #[.int .i64 t12] (by rfl) rfl rfl zs_ ?_
              with_reducible refine (law1_Num.calls t12 t22 _ A43.out).mono ?_
              rintro e w' ⟨rfl,⟨nd,rfl⟩⟩
              refine ⟨_,rfl, ?_⟩
              refine hK.out _ _ ⟨(blk_cell BK7.out 0).trans rfl,(blk_cell BK7.out 1).trans rfl,(blk_cell BK7.out 2).trans rfl,(blk_cell BK7.out 3).trans rfl,(blk_cell BK7.out 4).trans rfl,(blk_cell BK7.out 5).trans rfl,(blk_cell BK7.out 6).trans rfl,(blk_cell BK7.out 7).trans rfl,(blk_cell BK7.out 8).trans rfl,(blk_cell BK7.out 9).trans rfl,(blk_cell BK7.out 10).trans rfl,(blk_cell BK7.out 11).trans rfl,(blk_cell BK8.out 0).trans rfl,(blk_cell BK8.out 1).trans rfl,(blk_cell BK8.out 2).trans rfl⟩ (fun hHeld=> ?_)
              clear hK K
              refine no_ (N:=some 106) ?_
              refine pu_ (i:=13) (N:=some 107) (bt_ 49 16383) HT_ ?_
              refine pu_ (i:=14) (N:=some 108) (bt_ 49 32767) HT_ ?_
              refine pn_ (i:=15) (N:=some 109) (bt_ 49 65535) HT_ ?_
              refine pn_ (i:=16) (N:=some 110) (bt_ 49 131071) HT_ ?_
              refine pn_ (i:=17) (N:=some 111) (bt_ 49 262143) HT_ ?_
              refine pu_ (i:=18) (N:=some 112) (bt_ 49 524287) HT_ ?_
              refine pu_ (i:=19) (N:=some 113) (bt_ 49 1048575) HT_ ?_
              refine pu_ (i:=20) (N:=some 114) (bt_ 49 2097151) HT_ ?_
              refine pu_ (i:=21) (N:=some 115) (bt_ 49 4194303) HT_ ?_
              refine one_ (i:=22) (N:=some 116) (bt_ 49 8388607) rfl rfl (one_of HT_.out (by kernel_rfl)) (by decide) (fun K hK=> ?_)
              refine goes_ Try.func61 (by kernel_rfl) rfl #[.int .i64 t16] (by rfl) rfl rfl zs_ ?_
              with_reducible refine (law1_Num.calls t16 t24 _ A45.out).mono ?_
              rintro e w' ⟨rfl,⟨nd,rfl⟩⟩
              refine ⟨_,rfl, ?_⟩
              refine hK.out _ _ ⟨(blk_cell BK7.out 0).trans rfl,(blk_cell BK7.out 1).trans rfl,(blk_cell BK7.out 2).trans rfl,(blk_cell BK7.out 3).trans rfl,(blk_cell BK7.out 4).trans rfl,(blk_cell BK7.out 5).trans rfl,(blk_cell BK7.out 6).trans rfl,(blk_cell BK7.out 7).trans rfl,(blk_cell BK7.out 8).trans rfl,(blk_cell BK7.out 9).trans rfl,(blk_cell BK7.out 10).trans rfl,(blk_cell BK7.out 11).trans rfl,(blk_cell BK8.out 0).trans rfl,(blk_cell BK8.out 1).trans rfl,(blk_cell BK8.out 2).trans rfl⟩ (fun hHeld=> ?_)
              clear hK K
              refine no_ (N:=some 116) ?_
              refine pu_ (i:=23) (N:=some 117) (bt_ 49 16777215) HT_ ?_
              refine pu_ (i:=24) (N:=some 118) (bt_ 49 33554431) HT_ ?_
              refine pu_ (i:=25) (N:=some 119) (bt_ 49 67108863) HT_ ?_
              refine pu_ (i:=26) (N:=some 120) (bt_ 49 134217727) HT_ ?_
              refine pu_ (i:=29) (N:=some 123) (bt_ 49 671088639) HT_ ?_
              refine one_ (i:=27) (N:=some 121) (bt_ 49 805306367) rfl rfl (one_of HT_.out (by kernel_rfl)) (by decide) (fun K hK=> ?_)
              refine goes_ Try.func61 (by kernel_rfl) rfl #[.int .i64 t18] (by rfl) rfl rfl zs_ ?_
              with_reducible refine (law1_Num.calls t18 t25 _ A47.out).mono ?_
              rintro e w' ⟨rfl,⟨nd,rfl⟩⟩
              refine ⟨_,rfl, ?_⟩
              refine hK.out _ _ ⟨(blk_cell BK7.out 0).trans rfl,(blk_cell BK7.out 1).trans rfl,(blk_cell BK7.out 2).trans rfl,(blk_cell BK7.out 3).trans rfl,(blk_cell BK7.out 4).trans rfl,(blk_cell BK7.out 5).trans rfl,(blk_cell BK7.out 6).trans rfl,(blk_cell BK7.out 7).trans rfl,(blk_cell BK7.out 8).trans rfl,(blk_cell BK7.out 9).trans rfl,(blk_cell BK7.out 10).trans rfl,(blk_cell BK7.out 11).trans rfl,(blk_cell BK8.out 0).trans rfl,(blk_cell BK8.out 1).trans rfl,(blk_cell BK8.out 2).trans rfl⟩ (fun hHeld=> ?_)
              clear hK K
              refine no_ (N:=some 121) ?_
              refine pu_ (i:=28) (N:=some 122) (bt_ 49 1073741823) HT_ ?_
              refine pu_ (i:=30) (N:=some 124) (bt_ 49 2147483647) HT_ ?_
              refine pu_ (i:=31) (N:=some 125) (bt_ 49 4294967295) HT_ ?_
              refine pu_ (i:=32) (N:=some 126) (bt_ 49 8589934591) HT_ ?_
              refine pu_ (i:=33) (N:=some 127) (bt_ 49 17179869183) HT_ ?_
              refine pu_ (i:=34) (N:=some 128) (bt_ 49 34359738367) HT_ ?_
              refine pu_ (i:=35) (N:=some 129) (bt_ 49 68719476735) HT_ ?_
              refine pn_ (i:=36) (N:=some 130) (bt_ 49 137438953471) HT_ ?_
              refine pn_ (i:=37) (N:=some 131) (bt_ 49 274877906943) HT_ ?_
              refine pn_ (i:=38) (N:=some 132) (bt_ 49 549755813887) HT_ ?_
              refine pn_ (i:=39) (N:=some 133) (bt_ 49 1099511627775) HT_ ?_
              refine pn_ (i:=40) (N:=some 134) (bt_ 49 2199023255551) HT_ ?_
              refine pn_ (i:=41) (N:=some 135) (bt_ 49 4398046511103) HT_ ?_
              refine pn_ (i:=42) (N:=some 136) (bt_ 49 8796093022207) HT_ ?_
              refine pn_ (i:=43) (N:=some 137) (bt_ 49 17592186044415) HT_ ?_
              refine pn_ (i:=44) (N:=some 138) (bt_ 49 35184372088831) HT_ ?_
              refine pn_ (i:=45) (N:=some 139) (bt_ 49 70368744177663) HT_ ?_
              refine pn_ (i:=46) (N:=some 140) (bt_ 49 140737488355327) HT_ ?_
              refine pu_ (i:=47) (N:=some 141) (bt_ 49 281474976710655) HT_ ?_
              refine pu_ (i:=48) (N:=some 142) (bt_ 49 562949953421311) HT_ ?_
              refine done_ (done_of HT_.out (by kernel_rfl)) ?_
              try go_wp2
              go_meet
              case rel=>exact ⟨_,(false),(by first|rfl|(simp;done)|(simp [*];done)),H',⟨by have:=HK1.out;first|omega|exact Nat.le_refl _⟩,⟨by (with_reducible repeat (first|apply Kd.R_alloc|apply Kd.R_drewN|apply Kd.R_drew));exact Kd.R_mono HO_10.out (fun _ hk=>hk.2.2)⟩,⟨by refine zk_ ?_;exact BK7.out⟩,⟨by refine zk_ ?_;exact BK8.out⟩,⟨zl2_ HB GE7 GE8⟩⟩
             ·replace c50:=Bool.eq_false_iff.mpr c50
              subst c50
              have c48b2:(t25==13)=false:=by simpa using c48b0
              have H1:((law1_Num.f t18).bind fun t26=>(if t26=0 then (law15_ShapeLimits.j1 k1 t9 t12 ((t17.length:Int) !=(wrap64 ((t2.length:Int) - 1))) ((rd_T31 t2 (ji13)).f0) ((rd_T31 t2 (ji13)).f1) ((rd_T31 t2 (ji13)).f2.f0) ((rd_T31 t2 (ji13)).f2.f1) ((rd_T31 t2 (ji13)).f2.f2) ((rd_T31 t2 (ji13)).f3.f0) ((rd_T31 t2 (ji13)).f3.f1) ((rd_T31 t2 (ji13)).f3.f2) ((rd_T31 t2 (ji13)).f4.f0) ((rd_T31 t2 (ji13)).f4.f1) ((rd_T31 t2 (ji13)).f4.f2) ((rd_T31 t2 (ji13)).f5) (Int.tmod (wrap64 (a2)) 300) ((rd_T31 t2 (ji13)).f4.f1) ((rd_T31 t2 (ji13)).f4.f2)) else (none)))=some r:=by rw [if_neg (show¬(false=true) by decide)] at H;exact H
              clear H
              have H:=H1
              clear H1
              replace H:=Option.bind_eq_some_iff.mp H
              obtain ⟨t26,A520,H⟩:=H
              replace H:(if t26=0 then (law15_ShapeLimits.j1 k1 t9 t12 ((t17.length:Int) !=(wrap64 ((t2.length:Int) - 1))) ((rd_T31 t2 (ji13)).f0) ((rd_T31 t2 (ji13)).f1) ((rd_T31 t2 (ji13)).f2.f0) ((rd_T31 t2 (ji13)).f2.f1) ((rd_T31 t2 (ji13)).f2.f2) ((rd_T31 t2 (ji13)).f3.f0) ((rd_T31 t2 (ji13)).f3.f1) ((rd_T31 t2 (ji13)).f3.f2) ((rd_T31 t2 (ji13)).f4.f0) ((rd_T31 t2 (ji13)).f4.f1) ((rd_T31 t2 (ji13)).f4.f2) ((rd_T31 t2 (ji13)).f5) (Int.tmod (wrap64 (a2)) 300) ((rd_T31 t2 (ji13)).f4.f1) ((rd_T31 t2 (ji13)).f4.f2)) else (none))=some r:=H
              have A52:=Aside0.mk A520
              clear A520
              obtain rfl:t25=t26:=Option.some.inj (A47.out.symm.trans A52.out)
              by_cases c53:t25=0
              ·rw [if_pos c53] at H
               have c53b0:(t25==0)=true:=beq_iff_eq.mpr c53
               have c53b1:(t25 !=0)=false:=bne_eq_false_iff_eq.mpr c53
               clear c53
               have H':=Aside0.mk H
               clear H
               try go_wp2
               have n0_:=am_ (Kd.R_drew HO_7.out)
               have n1_:=am_ (Kd.R_drew HO_10.out)
               have n2_:=am_ (Kd.R_drew HO_14.out)
               have n3_:=am_ (blk_drew BK7.out)
               have n4_:=am_ (blk_drew BK8.out)
               have n5_:=am_ (below_drew1 HB.out)
               clear HO_7
               clear HO_10
               clear HO_14
               clear BK7
               clear BK8
               clear HB
               have HO_7:=n0_
               have HO_10:=n1_
               have HO_14:=n2_
               have BK7:=n3_
               have BK8:=n4_
               have HB:=n5_
               clear n0_ n1_ n2_ n3_ n4_ n5_
               refine start_ (n:=49) (S:=fun w'=>w'.cell? ⟨gb7,0,none⟩=some (.string ((rd_T31 t2 (ji13)).f0))∧w'.cell? ⟨gb7,1,none⟩=some (.string ((rd_T31 t2 (ji13)).f1))∧w'.cell? ⟨gb7,2,none⟩=some (.int .i64 ((rd_T31 t2 (ji13)).f2.f0))∧w'.cell? ⟨gb7,3,none⟩=some (.int .i64 ((rd_T31 t2 (ji13)).f2.f1))∧w'.cell? ⟨gb7,4,none⟩=some (.int .i64 ((rd_T31 t2 (ji13)).f2.f2))∧w'.cell? ⟨gb7,5,none⟩=some (.int .i64 ((rd_T31 t2 (ji13)).f3.f0))∧w'.cell? ⟨gb7,6,none⟩=some (.int .i64 ((rd_T31 t2 (ji13)).f3.f1))∧w'.cell? ⟨gb7,7,none⟩=some (.int .i64 ((rd_T31 t2 (ji13)).f3.f2))∧w'.cell? ⟨gb7,8,none⟩=some (.int .i64 ((rd_T31 t2 (ji13)).f4.f0))∧w'.cell? ⟨gb7,9,none⟩=some (.int .i64 ((rd_T31 t2 (ji13)).f4.f1))∧w'.cell? ⟨gb7,10,none⟩=some (.int .i64 ((rd_T31 t2 (ji13)).f4.f2))∧w'.cell? ⟨gb7,11,none⟩=some (.int .i64 ((rd_T31 t2 (ji13)).f5))∧w'.cell? ⟨gb8,0,none⟩=some (.int .i64 (Int.tmod (wrap64 (a2)) 300))∧w'.cell? ⟨gb8,1,none⟩=some (.int .i64 ((rd_T31 t2 (ji13)).f4.f1))∧w'.cell? ⟨gb8,2,none⟩=some (.int .i64 ((rd_T31 t2 (ji13)).f4.f2))) (ds:=[]) (bt_ 49 0) (by kernel_rfl) rfl rfl ⟨(blk_cell BK7.out 0).trans rfl,(blk_cell BK7.out 1).trans rfl,(blk_cell BK7.out 2).trans rfl,(blk_cell BK7.out 3).trans rfl,(blk_cell BK7.out 4).trans rfl,(blk_cell BK7.out 5).trans rfl,(blk_cell BK7.out 6).trans rfl,(blk_cell BK7.out 7).trans rfl,(blk_cell BK7.out 8).trans rfl,(blk_cell BK7.out 9).trans rfl,(blk_cell BK7.out 10).trans rfl,(blk_cell BK7.out 11).trans rfl,(blk_cell BK8.out 0).trans rfl,(blk_cell BK8.out 1).trans rfl,(blk_cell BK8.out 2).trans rfl⟩ (fun hHeld=> ?_);refine with_tabW law15_ShapeLimits.tab16 law15_ShapeLimits.bits16 (fun HT_ HW_=> ?_)
               generalize wr.drew=w54 at HO_7 HO_10 HO_14 BK7 BK8 HB hHeld ⊢
               refine pu_ (i:=0) (N:=some 94) (bt_ 49 1) HT_ ?_
               refine pu_ (i:=3) (N:=some 97) (bt_ 49 9) HT_ ?_
               refine pu_ (i:=4) (N:=some 98) (bt_ 49 25) HT_ ?_
               refine pu_ (i:=6) (N:=some 100) (bt_ 49 89) HT_ ?_
               refine tk_ (i:=5) (N:=some 99) (bt_ 49 121) HT_ HW_ hHeld ?_
               refine tk_ (i:=7) (N:=some 101) (bt_ 49 249) HT_ HW_ hHeld ?_
               refine pu_ (i:=8) (N:=some 102) (bt_ 49 505) HT_ ?_
               refine one_ (i:=1) (N:=some 95) (bt_ 49 507) rfl rfl (one_of HT_.out (by kernel_rfl)) (by decide) (fun K hK=> ?_)
               refine goes_ Try.func61 (by kernel_rfl) rfl #[.int .i64 t12] (by rfl) rfl rfl zs_ ?_
               with_reducible refine (law1_Num.calls t12 t22 _ A40.out).mono ?_
               rintro e w' ⟨rfl,⟨nd,rfl⟩⟩
               refine ⟨_,rfl, ?_⟩
               refine hK.out _ _ ⟨(blk_cell BK7.out 0).trans rfl,(blk_cell BK7.out 1).trans rfl,(blk_cell BK7.out 2).trans rfl,(blk_cell BK7.out 3).trans rfl,(blk_cell BK7.out 4).trans rfl,(blk_cell BK7.out 5).trans rfl,(blk_cell BK7.out 6).trans rfl,(blk_cell BK7.out 7).trans rfl,(blk_cell BK7.out 8).trans rfl,(blk_cell BK7.out 9).trans rfl,(blk_cell BK7.out 10).trans rfl,(blk_cell BK7.out 11).trans rfl,(blk_cell BK8.out 0).trans rfl,(blk_cell BK8.out 1).trans rfl,(blk_cell BK8.out 2).trans rfl⟩ (fun hHeld=> ?_)
               clear hK K
               refine no_ (N:=some 95) ?_
               refine pu_ (i:=2) (N:=some 96) (bt_ 49 511) HT_ ?_
               refine pu_ (i:=9) (N:=some 103) (bt_ 49 1023) HT_ ?_
               refine pu_ (i:=10) (N:=some 104) (bt_ 49 2047) HT_ ?_
               refine pu_ (i:=11) (N:=some 105) (bt_ 49 4095) HT_ ?_
               refine one_ (i:=12) (N:=some 106) (bt_ 49 8191) rfl rfl (one_of HT_.out (by kernel_rfl)) (by decide) (fun K hK=> ?_)
               refine goes_ Try.func61 (by kernel_rfl) rfl #[.int .i64 t12] (by rfl) rfl rfl zs_ ?_
               with_reducible refine (law1_Num.calls t12 t22 _ A43.out).mono ?_
               rintro e w' ⟨rfl,⟨nd,rfl⟩⟩
               refine ⟨_,rfl, ?_⟩
               refine hK.out _ _ ⟨(blk_cell BK7.out 0).trans rfl,(blk_cell BK7.out 1).trans rfl,(blk_cell BK7.out 2).trans rfl,(blk_cell BK7.out 3).trans rfl,(blk_cell BK7.out 4).trans rfl,(blk_cell BK7.out 5).trans rfl,(blk_cell BK7.out 6).trans rfl,(blk_cell BK7.out 7).trans rfl,(blk_cell BK7.out 8).trans rfl,(blk_cell BK7.out 9).trans rfl,(blk_cell BK7.out 10).trans rfl,(blk_cell BK7.out 11).trans rfl,(blk_cell BK8.out 0).trans rfl,(blk_cell BK8.out 1).trans rfl,(blk_cell BK8.out 2).trans rfl⟩ (fun hHeld=> ?_)
               clear hK K
               refine no_ (N:=some 106) ?_
               refine pu_ (i:=13) (N:=some 107) (bt_ 49 16383) HT_ ?_
               refine pu_ (i:=14) (N:=some 108) (bt_ 49 32767) HT_ ?_
               refine pn_ (i:=15) (N:=some 109) (bt_ 49 65535) HT_ ?_
               refine pn_ (i:=16) (N:=some 110) (bt_ 49 131071) HT_ ?_
               refine pn_ (i:=17) (N:=some 111) (bt_ 49 262143) HT_ ?_
               refine pu_ (i:=18) (N:=some 112) (bt_ 49 524287) HT_ ?_
               refine pu_ (i:=19) (N:=some 113) (bt_ 49 1048575) HT_ ?_
               refine pu_ (i:=20) (N:=some 114) (bt_ 49 2097151) HT_ ?_
               refine pu_ (i:=21) (N:=some 115) (bt_ 49 4194303) HT_ ?_
               refine one_ (i:=22) (N:=some 116) (bt_ 49 8388607) rfl rfl (one_of HT_.out (by kernel_rfl)) (by decide) (fun K hK=> ?_)
               refine goes_ Try.func61 (by kernel_rfl) rfl #[.int .i64 t16] (by rfl) rfl rfl zs_ ?_
               with_reducible refine (law1_Num.calls t16 t24 _ A45.out).mono ?_
               rintro e w' ⟨rfl,⟨nd,rfl⟩⟩
               refine ⟨_,rfl, ?_⟩
               refine hK.out _ _ ⟨(blk_cell BK7.out 0).trans rfl,(blk_cell BK7.out 1).trans rfl,(blk_cell BK7.out 2).trans rfl,(blk_cell BK7.out 3).trans rfl,(blk_cell BK7.out 4).trans rfl,(blk_cell BK7.out 5).trans rfl,(blk_cell BK7.out 6).trans rfl,(blk_cell BK7.out 7).trans rfl,(blk_cell BK7.out 8).trans rfl,(blk_cell BK7.out 9).trans rfl,(blk_cell BK7.out 10).trans rfl,(blk_cell BK7.out 11).trans rfl,(blk_cell BK8.out 0).trans rfl,(blk_cell BK8.out 1).trans rfl,(blk_cell BK8.out 2).trans rfl⟩ (fun hHeld=> ?_)
               clear hK K
               refine no_ (N:=some 116) ?_
               refine pu_ (i:=23) (N:=some 117) (bt_ 49 16777215) HT_ ?_
               refine pu_ (i:=24) (N:=some 118) (bt_ 49 33554431) HT_ ?_
               refine pu_ (i:=25) (N:=some 119) (bt_ 49 67108863) HT_ ?_
               refine pu_ (i:=26) (N:=some 120) (bt_ 49 134217727) HT_ ?_
               refine pu_ (i:=29) (N:=some 123) (bt_ 49 671088639) HT_ ?_
               refine one_ (i:=27) (N:=some 121) (bt_ 49 805306367) rfl rfl (one_of HT_.out (by kernel_rfl)) (by decide) (fun K hK=> ?_)
               refine goes_ Try.func61 (by kernel_rfl) rfl #[.int .i64 t18] (by rfl) rfl rfl zs_ ?_
               with_reducible refine (law1_Num.calls t18 t25 _ A47.out).mono ?_
               rintro e w' ⟨rfl,⟨nd,rfl⟩⟩
               refine ⟨_,rfl, ?_⟩
               refine hK.out _ _ ⟨(blk_cell BK7.out 0).trans rfl,(blk_cell BK7.out 1).trans rfl,(blk_cell BK7.out 2).trans rfl,(blk_cell BK7.out 3).trans rfl,(blk_cell BK7.out 4).trans rfl,(blk_cell BK7.out 5).trans rfl,(blk_cell BK7.out 6).trans rfl,(blk_cell BK7.out 7).trans rfl,(blk_cell BK7.out 8).trans rfl,(blk_cell BK7.out 9).trans rfl,(blk_cell BK7.out 10).trans rfl,(blk_cell BK7.out 11).trans rfl,(blk_cell BK8.out 0).trans rfl,(blk_cell BK8.out 1).trans rfl,(blk_cell BK8.out 2).trans rfl⟩ (fun hHeld=> ?_)
               clear hK K
               refine no_ (N:=some 121) ?_
               refine pu_ (i:=28) (N:=some 122) (bt_ 49 1073741823) HT_ ?_
               refine pu_ (i:=30) (N:=some 124) (bt_ 49 2147483647) HT_ ?_
               refine pu_ (i:=31) (N:=some 125) (bt_ 49 4294967295) HT_ ?_
               refine pu_ (i:=32) (N:=some 126) (bt_ 49 8589934591) HT_ ?_
               refine pu_ (i:=33) (N:=some 127) (bt_ 49 17179869183) HT_ ?_
               refine pu_ (i:=34) (N:=some 128) (bt_ 49 34359738367) HT_ ?_
               refine pu_ (i:=35) (N:=some 129) (bt_ 49 68719476735) HT_ ?_
               refine pu_ (i:=36) (N:=some 130) (bt_ 49 137438953471) HT_ ?_
               refine one_ (i:=37) (N:=some 131) (bt_ 49 274877906943) rfl rfl (one_of HT_.out (by kernel_rfl)) (by decide) (fun K hK=> ?_)
               refine goes_ Try.func61 (by kernel_rfl) rfl #[.int .i64 t18] (by rfl) rfl rfl zs_ ?_
               with_reducible refine (law1_Num.calls t18 t25 _ A52.out).mono ?_
               rintro e w' ⟨rfl,⟨nd,rfl⟩⟩
               refine ⟨_,rfl, ?_⟩
               obtain ⟨Ao55,co55,eo55⟩:=Kd.R_slice HO_14.out
               (first|subst eo55|(injection eo55 with f1_ f2_ f3_;have f4_:=f1_.symm;have f5_:=f3_.symm;clear f1_ f2_ f3_;subst f4_;subst f5_))
               refine hK.out _ _ ⟨(blk_cell BK7.out 0).trans rfl,(blk_cell BK7.out 1).trans rfl,(blk_cell BK7.out 2).trans rfl,(blk_cell BK7.out 3).trans rfl,(blk_cell BK7.out 4).trans rfl,(blk_cell BK7.out 5).trans rfl,(blk_cell BK7.out 6).trans rfl,(blk_cell BK7.out 7).trans rfl,(blk_cell BK7.out 8).trans rfl,(blk_cell BK7.out 9).trans rfl,(blk_cell BK7.out 10).trans rfl,(blk_cell BK7.out 11).trans rfl,(blk_cell BK8.out 0).trans rfl,(blk_cell BK8.out 1).trans rfl,(blk_cell BK8.out 2).trans rfl⟩ (fun hHeld=> ?_)
               clear hK K
               refine no_ (N:=some 131) ?_
               refine pu_ (i:=38) (N:=some 132) (bt_ 49 549755813887) HT_ ?_
               refine pu_ (i:=39) (N:=some 133) (bt_ 49 1099511627775) HT_ ?_
               refine pu_ (i:=40) (N:=some 134) (bt_ 49 2199023255551) HT_ ?_
               refine pu_ (i:=41) (N:=some 135) (bt_ 49 4398046511103) HT_ ?_
               refine pu_ (i:=42) (N:=some 136) (bt_ 49 8796093022207) HT_ ?_
               refine pu_ (i:=43) (N:=some 137) (bt_ 49 17592186044415) HT_ ?_
               refine pu_ (i:=44) (N:=some 138) (bt_ 49 35184372088831) HT_ ?_
               refine pu_ (i:=45) (N:=some 139) (bt_ 49 70368744177663) HT_ ?_
               refine pu_ (i:=46) (N:=some 140) (bt_ 49 140737488355327) HT_ ?_
               refine pu_ (i:=47) (N:=some 141) (bt_ 49 281474976710655) HT_ ?_
               refine pu_ (i:=48) (N:=some 142) (bt_ 49 562949953421311) HT_ ?_
               refine done_ (done_of HT_.out (by kernel_rfl)) ?_
               try go_wp2
               go_meet
               case rel=>exact ⟨_,(((t17.length:Int) !=(wrap64 ((t2.length:Int) - 1)))),(by first|rfl|(simp;done)|(simp [*];done)),H',⟨by have:=HK1.out;first|omega|exact Nat.le_refl _⟩,⟨by (with_reducible repeat (first|apply Kd.R_alloc|apply Kd.R_drewN|apply Kd.R_drew));exact Kd.R_mono HO_10.out (fun _ hk=>hk.2.2)⟩,⟨by refine zk_ ?_;exact BK7.out⟩,⟨by refine zk_ ?_;exact BK8.out⟩,⟨zl2_ HB GE7 GE8⟩⟩
              ·rw [if_neg c53] at H
               cases H
           ·rw [if_neg c46] at H
            cases H
          ·rw [if_neg c44] at H
           have c44b0:(t22==0)=false:=beq_eq_false_iff_ne.mpr c44
           have c44b1:(t22 !=0)=true:=bne_iff_ne.mpr c44
           have c41b2:decide (((rd_T31 t2 (ji13)).f4.f0)≤(Int.tmod (wrap64 (a2)) 300))=false:=by simpa [c44b0] using c41b0
           replace H:=Option.bind_eq_some_iff.mp H
           obtain ⟨t27,A580,H⟩:=H
           replace H:(if t27=12 then ((law1_Num.f t16).bind fun t28=>(if t28=14 then ((law1_Num.f t18).bind fun t29=>(if ((t29==13) !=x16_1)=true then (none) else (if x16_1=true then (law15_ShapeLimits.j1 k1 t9 t12 false ((rd_T31 t2 (ji13)).f0) ((rd_T31 t2 (ji13)).f1) ((rd_T31 t2 (ji13)).f2.f0) ((rd_T31 t2 (ji13)).f2.f1) ((rd_T31 t2 (ji13)).f2.f2) ((rd_T31 t2 (ji13)).f3.f0) ((rd_T31 t2 (ji13)).f3.f1) ((rd_T31 t2 (ji13)).f3.f2) ((rd_T31 t2 (ji13)).f4.f0) ((rd_T31 t2 (ji13)).f4.f1) ((rd_T31 t2 (ji13)).f4.f2) ((rd_T31 t2 (ji13)).f5) (Int.tmod (wrap64 (a2)) 300) ((rd_T31 t2 (ji13)).f4.f1) ((rd_T31 t2 (ji13)).f4.f2)) else ((law1_Num.f t18).bind fun t30=>(if t30=0 then (law15_ShapeLimits.j1 k1 t9 t12 ((t17.length:Int) !=(wrap64 ((t2.length:Int) - 1))) ((rd_T31 t2 (ji13)).f0) ((rd_T31 t2 (ji13)).f1) ((rd_T31 t2 (ji13)).f2.f0) ((rd_T31 t2 (ji13)).f2.f1) ((rd_T31 t2 (ji13)).f2.f2) ((rd_T31 t2 (ji13)).f3.f0) ((rd_T31 t2 (ji13)).f3.f1) ((rd_T31 t2 (ji13)).f3.f2) ((rd_T31 t2 (ji13)).f4.f0) ((rd_T31 t2 (ji13)).f4.f1) ((rd_T31 t2 (ji13)).f4.f2) ((rd_T31 t2 (ji13)).f5) (Int.tmod (wrap64 (a2)) 300) ((rd_T31 t2 (ji13)).f4.f1) ((rd_T31 t2 (ji13)).f4.f2)) else (none)))))) else (none))) else (none))=some r:=H
           have A58:=Aside0.mk A580
           clear A580
           obtain rfl:t22=t27:=Option.some.inj (A40.out.symm.trans A58.out)
           by_cases c59:t22=12
           ·rw [if_pos c59] at H
            have c59b0:(t22==12)=true:=beq_iff_eq.mpr c59
            have c59b1:(t22 !=12)=false:=bne_eq_false_iff_eq.mpr c59
            clear c59
            replace H:=Option.bind_eq_some_iff.mp H
            obtain ⟨t28,A600,H⟩:=H
            replace H:(if t28=14 then ((law1_Num.f t18).bind fun t29=>(if ((t29==13) !=x16_1)=true then (none) else (if x16_1=true then (law15_ShapeLimits.j1 k1 t9 t12 false ((rd_T31 t2 (ji13)).f0) ((rd_T31 t2 (ji13)).f1) ((rd_T31 t2 (ji13)).f2.f0) ((rd_T31 t2 (ji13)).f2.f1) ((rd_T31 t2 (ji13)).f2.f2) ((rd_T31 t2 (ji13)).f3.f0) ((rd_T31 t2 (ji13)).f3.f1) ((rd_T31 t2 (ji13)).f3.f2) ((rd_T31 t2 (ji13)).f4.f0) ((rd_T31 t2 (ji13)).f4.f1) ((rd_T31 t2 (ji13)).f4.f2) ((rd_T31 t2 (ji13)).f5) (Int.tmod (wrap64 (a2)) 300) ((rd_T31 t2 (ji13)).f4.f1) ((rd_T31 t2 (ji13)).f4.f2)) else ((law1_Num.f t18).bind fun t30=>(if t30=0 then (law15_ShapeLimits.j1 k1 t9 t12 ((t17.length:Int) !=(wrap64 ((t2.length:Int) - 1))) ((rd_T31 t2 (ji13)).f0) ((rd_T31 t2 (ji13)).f1) ((rd_T31 t2 (ji13)).f2.f0) ((rd_T31 t2 (ji13)).f2.f1) ((rd_T31 t2 (ji13)).f2.f2) ((rd_T31 t2 (ji13)).f3.f0) ((rd_T31 t2 (ji13)).f3.f1) ((rd_T31 t2 (ji13)).f3.f2) ((rd_T31 t2 (ji13)).f4.f0) ((rd_T31 t2 (ji13)).f4.f1) ((rd_T31 t2 (ji13)).f4.f2) ((rd_T31 t2 (ji13)).f5) (Int.tmod (wrap64 (a2)) 300) ((rd_T31 t2 (ji13)).f4.f1) ((rd_T31 t2 (ji13)).f4.f2)) else (none)))))) else (none))=some r:=H
            have A60:=Aside0.mk A600
            clear A600
            by_cases c61:t28=14
            ·rw [if_pos c61] at H
             have c61b0:(t28==14)=true:=beq_iff_eq.mpr c61
             have c61b1:(t28 !=14)=false:=bne_eq_false_iff_eq.mpr c61
             clear c61
             replace H:=Option.bind_eq_some_iff.mp H
             obtain ⟨t29,A620,H⟩:=H
             replace H:(if ((t29==13) !=x16_1)=true then (none) else (if x16_1=true then (law15_ShapeLimits.j1 k1 t9 t12 false ((rd_T31 t2 (ji13)).f0) ((rd_T31 t2 (ji13)).f1) ((rd_T31 t2 (ji13)).f2.f0) ((rd_T31 t2 (ji13)).f2.f1) ((rd_T31 t2 (ji13)).f2.f2) ((rd_T31 t2 (ji13)).f3.f0) ((rd_T31 t2 (ji13)).f3.f1) ((rd_T31 t2 (ji13)).f3.f2) ((rd_T31 t2 (ji13)).f4.f0) ((rd_T31 t2 (ji13)).f4.f1) ((rd_T31 t2 (ji13)).f4.f2) ((rd_T31 t2 (ji13)).f5) (Int.tmod (wrap64 (a2)) 300) ((rd_T31 t2 (ji13)).f4.f1) ((rd_T31 t2 (ji13)).f4.f2)) else ((law1_Num.f t18).bind fun t30=>(if t30=0 then (law15_ShapeLimits.j1 k1 t9 t12 ((t17.length:Int) !=(wrap64 ((t2.length:Int) - 1))) ((rd_T31 t2 (ji13)).f0) ((rd_T31 t2 (ji13)).f1) ((rd_T31 t2 (ji13)).f2.f0) ((rd_T31 t2 (ji13)).f2.f1) ((rd_T31 t2 (ji13)).f2.f2) ((rd_T31 t2 (ji13)).f3.f0) ((rd_T31 t2 (ji13)).f3.f1) ((rd_T31 t2 (ji13)).f3.f2) ((rd_T31 t2 (ji13)).f4.f0) ((rd_T31 t2 (ji13)).f4.f1) ((rd_T31 t2 (ji13)).f4.f2) ((rd_T31 t2 (ji13)).f5) (Int.tmod (wrap64 (a2)) 300) ((rd_T31 t2 (ji13)).f4.f1) ((rd_T31 t2 (ji13)).f4.f2)) else (none)))))=some r:=H
             have A62:=Aside0.mk A620
             clear A620
             by_cases c63:((t29==13) !=x16_1)=true
             ·rw [if_pos c63] at H
              cases H
             ·rw [if_neg c63] at H
              have c63b0:((t29==13) !=x16_1)=false:=by simpa using c63
              (try (have c63b1:decide ((t29==13)=x16_1)=true:=by simpa using c63))
              (try (have c63b2:((t29==13)==x16_1)=true:=by simpa using c63))
              clear c63
              by_cases c65:x16_1=true
              ·subst c65
               have c63b2:(t29==13)=true:=by simpa using c63b0
               have H1:(law15_ShapeLimits.j1 k1 t9 t12 false ((rd_T31 t2 (ji13)).f0) ((rd_T31 t2 (ji13)).f1) ((rd_T31 t2 (ji13)).f2.f0) ((rd_T31 t2 (ji13)).f2.f1) ((rd_T31 t2 (ji13)).f2.f2) ((rd_T31 t2 (ji13)).f3.f0) ((rd_T31 t2 (ji13)).f3.f1) ((rd_T31 t2 (ji13)).f3.f2) ((rd_T31 t2 (ji13)).f4.f0) ((rd_T31 t2 (ji13)).f4.f1) ((rd_T31 t2 (ji13)).f4.f2) ((rd_T31 t2 (ji13)).f5) (Int.tmod (wrap64 (a2)) 300) ((rd_T31 t2 (ji13)).f4.f1) ((rd_T31 t2 (ji13)).f4.f2))=some r:=by rw [if_pos rfl] at H;exact H
               clear H
               have H:=H1
               clear H1
               have H':=Aside0.mk H
               clear H
               try go_wp2
               have n0_:=am_ (Kd.R_drew HO_7.out)
               have n1_:=am_ (Kd.R_drew HO_10.out)
               have n2_:=am_ (Kd.R_drew HO_14.out)
               have n3_:=am_ (blk_drew BK7.out)
               have n4_:=am_ (blk_drew BK8.out)
               have n5_:=am_ (below_drew1 HB.out)
               clear HO_7
               clear HO_10
               clear HO_14
               clear BK7
               clear BK8
               clear HB
               have HO_7:=n0_
               have HO_10:=n1_
               have HO_14:=n2_
               have BK7:=n3_
               have BK8:=n4_
               have HB:=n5_
               clear n0_ n1_ n2_ n3_ n4_ n5_
               refine start_ (n:=49) (S:=fun w'=>w'.cell? ⟨gb7,0,none⟩=some (.string ((rd_T31 t2 (ji13)).f0))∧w'.cell? ⟨gb7,1,none⟩=some (.string ((rd_T31 t2 (ji13)).f1))∧w'.cell? ⟨gb7,2,none⟩=some (.int .i64 ((rd_T31 t2 (ji13)).f2.f0))∧w'.cell? ⟨gb7,3,none⟩=some (.int .i64 ((rd_T31 t2 (ji13)).f2.f1))∧w'.cell? ⟨gb7,4,none⟩=some (.int .i64 ((rd_T31 t2 (ji13)).f2.f2))∧w'.cell? ⟨gb7,5,none⟩=some (.int .i64 ((rd_T31 t2 (ji13)).f3.f0))∧w'.cell? ⟨gb7,6,none⟩=some (.int .i64 ((rd_T31 t2 (ji13)).f3.f1))∧w'.cell? ⟨gb7,7,none⟩=some (.int .i64 ((rd_T31 t2 (ji13)).f3.f2))∧w'.cell? ⟨gb7,8,none⟩=some (.int .i64 ((rd_T31 t2 (ji13)).f4.f0))∧w'.cell? ⟨gb7,9,none⟩=some (.int .i64 ((rd_T31 t2 (ji13)).f4.f1))∧w'.cell? ⟨gb7,10,none⟩=some (.int .i64 ((rd_T31 t2 (ji13)).f4.f2))∧w'.cell? ⟨gb7,11,none⟩=some (.int .i64 ((rd_T31 t2 (ji13)).f5))∧w'.cell? ⟨gb8,0,none⟩=some (.int .i64 (Int.tmod (wrap64 (a2)) 300))∧w'.cell? ⟨gb8,1,none⟩=some (.int .i64 ((rd_T31 t2 (ji13)).f4.f1))∧w'.cell? ⟨gb8,2,none⟩=some (.int .i64 ((rd_T31 t2 (ji13)).f4.f2))) (ds:=[]) (bt_ 49 0) (by kernel_rfl) rfl rfl ⟨(blk_cell BK7.out 0).trans rfl,(blk_cell BK7.out 1).trans rfl,(blk_cell BK7.out 2).trans rfl,(blk_cell BK7.out 3).trans rfl,(blk_cell BK7.out 4).trans rfl,(blk_cell BK7.out 5).trans rfl,(blk_cell BK7.out 6).trans rfl,(blk_cell BK7.out 7).trans rfl,(blk_cell BK7.out 8).trans rfl,(blk_cell BK7.out 9).trans rfl,(blk_cell BK7.out 10).trans rfl,(blk_cell BK7.out 11).trans rfl,(blk_cell BK8.out 0).trans rfl,(blk_cell BK8.out 1).trans rfl,(blk_cell BK8.out 2).trans rfl⟩ (fun hHeld=> ?_);refine with_tabW law15_ShapeLimits.tab16 law15_ShapeLimits.bits16 (fun HT_ HW_=> ?_)
               generalize wr.drew=w66 at HO_7 HO_10 HO_14 BK7 BK8 HB hHeld ⊢
               refine pu_ (i:=0) (N:=some 94) (bt_ 49 1) HT_ ?_
               refine pu_ (i:=3) (N:=some 97) (bt_ 49 9) HT_ ?_
               refine pu_ (i:=4) (N:=some 98) (bt_ 49 25) HT_ ?_
               refine pu_ (i:=6) (N:=some 100) (bt_ 49 89) HT_ ?_
               refine tk_ (i:=5) (N:=some 99) (bt_ 49 121) HT_ HW_ hHeld ?_
               refine tk_ (i:=7) (N:=some 101) (bt_ 49 249) HT_ HW_ hHeld ?_
               refine pu_ (i:=8) (N:=some 102) (bt_ 49 505) HT_ ?_
               refine one_ (i:=1) (N:=some 95) (bt_ 49 507) rfl rfl (one_of HT_.out (by kernel_rfl)) (by decide) (fun K hK=> ?_)
               refine goes_ Try.func61 (by kernel_rfl) rfl #[.int .i64 t12] (by rfl) rfl rfl zs_ ?_
               with_reducible refine (law1_Num.calls t12 t22 _ A40.out).mono ?_
               rintro e w' ⟨rfl,⟨nd,rfl⟩⟩
               refine ⟨_,rfl, ?_⟩
               refine hK.out _ _ ⟨(blk_cell BK7.out 0).trans rfl,(blk_cell BK7.out 1).trans rfl,(blk_cell BK7.out 2).trans rfl,(blk_cell BK7.out 3).trans rfl,(blk_cell BK7.out 4).trans rfl,(blk_cell BK7.out 5).trans rfl,(blk_cell BK7.out 6).trans rfl,(blk_cell BK7.out 7).trans rfl,(blk_cell BK7.out 8).trans rfl,(blk_cell BK7.out 9).trans rfl,(blk_cell BK7.out 10).trans rfl,(blk_cell BK7.out 11).trans rfl,(blk_cell BK8.out 0).trans rfl,(blk_cell BK8.out 1).trans rfl,(blk_cell BK8.out 2).trans rfl⟩ (fun hHeld=> ?_)
               clear hK K
               refine no_ (N:=some 95) ?_
               refine pu_ (i:=2) (N:=some 96) (bt_ 49 511) HT_ ?_
               refine pu_ (i:=9) (N:=some 103) (bt_ 49 1023) HT_ ?_
               refine pu_ (i:=10) (N:=some 104) (bt_ 49 2047) HT_ ?_
               refine pu_ (i:=11) (N:=some 105) (bt_ 49 4095) HT_ ?_
               refine one_ (i:=12) (N:=some 106) (bt_ 49 8191) rfl rfl (one_of HT_.out (by kernel_rfl)) (by decide) (fun K hK=> ?_)
               refine goes_ Try.func61 (by kernel_rfl) rfl #[.int .i64 t12] (by rfl) rfl rfl zs_ ?_
               with_reducible refine (law1_Num.calls t12 t22 _ A43.out).mono ?_
               rintro e w' ⟨rfl,⟨nd,rfl⟩⟩
               refine ⟨_,rfl, ?_⟩
               refine hK.out _ _ ⟨(blk_cell BK7.out 0).trans rfl,(blk_cell BK7.out 1).trans rfl,(blk_cell BK7.out 2).trans rfl,(blk_cell BK7.out 3).trans rfl,(blk_cell BK7.out 4).trans rfl,(blk_cell BK7.out 5).trans rfl,(blk_cell BK7.out 6).trans rfl,(blk_cell BK7.out 7).trans rfl,(blk_cell BK7.out 8).trans rfl,(blk_cell BK7.out 9).trans rfl,(blk_cell BK7.out 10).trans rfl,(blk_cell BK7.out 11).trans rfl,(blk_cell BK8.out 0).trans rfl,(blk_cell BK8.out 1).trans rfl,(blk_cell BK8.out 2).trans rfl⟩ (fun hHeld=> ?_)
               clear hK K
               refine no_ (N:=some 106) ?_
               refine pu_ (i:=13) (N:=some 107) (bt_ 49 16383) HT_ ?_
               refine pu_ (i:=14) (N:=some 108) (bt_ 49 32767) HT_ ?_
               refine pu_ (i:=15) (N:=some 109) (bt_ 49 65535) HT_ ?_
               refine one_ (i:=16) (N:=some 110) (bt_ 49 131071) rfl rfl (one_of HT_.out (by kernel_rfl)) (by decide) (fun K hK=> ?_)
               refine goes_ Try.func61 (by kernel_rfl) rfl #[.int .i64 t12] (by rfl) rfl rfl zs_ ?_
               with_reducible refine (law1_Num.calls t12 t22 _ A58.out).mono ?_
               rintro e w' ⟨rfl,⟨nd,rfl⟩⟩
               refine ⟨_,rfl, ?_⟩
               refine hK.out _ _ ⟨(blk_cell BK7.out 0).trans rfl,(blk_cell BK7.out 1).trans rfl,(blk_cell BK7.out 2).trans rfl,(blk_cell BK7.out 3).trans rfl,(blk_cell BK7.out 4).trans rfl,(blk_cell BK7.out 5).trans rfl,(blk_cell BK7.out 6).trans rfl,(blk_cell BK7.out 7).trans rfl,(blk_cell BK7.out 8).trans rfl,(blk_cell BK7.out 9).trans rfl,(blk_cell BK7.out 10).trans rfl,(blk_cell BK7.out 11).trans rfl,(blk_cell BK8.out 0).trans rfl,(blk_cell BK8.out 1).trans rfl,(blk_cell BK8.out 2).trans rfl⟩ (fun hHeld=> ?_)
               clear hK K
               refine no_ (N:=some 110) ?_
               refine pu_ (i:=17) (N:=some 111) (bt_ 49 262143) HT_ ?_
               refine pu_ (i:=18) (N:=some 112) (bt_ 49 524287) HT_ ?_
               refine pu_ (i:=19) (N:=some 113) (bt_ 49 1048575) HT_ ?_
               refine pu_ (i:=20) (N:=some 114) (bt_ 49 2097151) HT_ ?_
               refine pu_ (i:=21) (N:=some 115) (bt_ 49 4194303) HT_ ?_
               refine one_ (i:=22) (N:=some 116) (bt_ 49 8388607) rfl rfl (one_of HT_.out (by kernel_rfl)) (by decide) (fun K hK=> ?_)
               refine goes_ Try.func61 (by kernel_rfl) rfl #[.int .i64 t16] (by rfl) rfl rfl zs_ ?_
               with_reducible refine (law1_Num.calls t16 t28 _ A60.out).mono ?_
               rintro e w' ⟨rfl,⟨nd,rfl⟩⟩
               refine ⟨_,rfl, ?_⟩
               refine hK.out _ _ ⟨(blk_cell BK7.out 0).trans rfl,(blk_cell BK7.out 1).trans rfl,(blk_cell BK7.out 2).trans rfl,(blk_cell BK7.out 3).trans rfl,(blk_cell BK7.out 4).trans rfl,(blk_cell BK7.out 5).trans rfl,(blk_cell BK7.out 6).trans rfl,(blk_cell BK7.out 7).trans rfl,(blk_cell BK7.out 8).trans rfl,(blk_cell BK7.out 9).trans rfl,(blk_cell BK7.out 10).trans rfl,(blk_cell BK7.out 11).trans rfl,(blk_cell BK8.out 0).trans rfl,(blk_cell BK8.out 1).trans rfl,(blk_cell BK8.out 2).trans rfl⟩ (fun hHeld=> ?_)
               clear hK K
               refine no_ (N:=some 116) ?_
               refine pu_ (i:=23) (N:=some 117) (bt_ 49 16777215) HT_ ?_
               refine pu_ (i:=24) (N:=some 118) (bt_ 49 33554431) HT_ ?_
               refine pu_ (i:=25) (N:=some 119) (bt_ 49 67108863) HT_ ?_
               refine pu_ (i:=26) (N:=some 120) (bt_ 49 134217727) HT_ ?_
               refine pu_ (i:=29) (N:=some 123) (bt_ 49 671088639) HT_ ?_
               refine one_ (i:=27) (N:=some 121) (bt_ 49 805306367) rfl rfl (one_of HT_.out (by kernel_rfl)) (by decide) (fun K hK=> ?_)
               refine goes_ Try.func61 (by kernel_rfl) rfl #[.int .i64 t18] (by rfl) rfl rfl zs_ ?_
               with_reducible refine (law1_Num.calls t18 t29 _ A62.out).mono ?_
               rintro e w' ⟨rfl,⟨nd,rfl⟩⟩
               refine ⟨_,rfl, ?_⟩
               refine hK.out _ _ ⟨(blk_cell BK7.out 0).trans rfl,(blk_cell BK7.out 1).trans rfl,(blk_cell BK7.out 2).trans rfl,(blk_cell BK7.out 3).trans rfl,(blk_cell BK7.out 4).trans rfl,(blk_cell BK7.out 5).trans rfl,(blk_cell BK7.out 6).trans rfl,(blk_cell BK7.out 7).trans rfl,(blk_cell BK7.out 8).trans rfl,(blk_cell BK7.out 9).trans rfl,(blk_cell BK7.out 10).trans rfl,(blk_cell BK7.out 11).trans rfl,(blk_cell BK8.out 0).trans rfl,(blk_cell BK8.out 1).trans rfl,(blk_cell BK8.out 2).trans rfl⟩ (fun hHeld=> ?_)
               clear hK K
               refine no_ (N:=some 121) ?_
               refine pu_ (i:=28) (N:=some 122) (bt_ 49 1073741823) HT_ ?_
               refine pu_ (i:=30) (N:=some 124) (bt_ 49 2147483647) HT_ ?_
               refine pu_ (i:=31) (N:=some 125) (bt_ 49 4294967295) HT_ ?_
               refine pu_ (i:=32) (N:=some 126) (bt_ 49 8589934591) HT_ ?_
               refine pu_ (i:=33) (N:=some 127) (bt_ 49 17179869183) HT_ ?_
               refine pu_ (i:=34) (N:=some 128) (bt_ 49 34359738367) HT_ ?_
               refine pu_ (i:=35) (N:=some 129) (bt_ 49 68719476735) HT_ ?_
               refine pn_ (i:=36) (N:=some 130) (bt_ 49 137438953471) HT_ ?_
               refine pn_ (i:=37) (N:=some 131) (bt_ 49 274877906943) HT_ ?_
               refine pn_ (i:=38) (N:=some 132) (bt_ 49 549755813887) HT_ ?_
               refine pn_ (i:=39) (N:=some 133) (bt_ 49 1099511627775) HT_ ?_
               refine pn_ (i:=40) (N:=some 134) (bt_ 49 2199023255551) HT_ ?_
               refine pn_ (i:=41) (N:=some 135) (bt_ 49 4398046511103) HT_ ?_
               refine pn_ (i:=42) (N:=some 136) (bt_ 49 8796093022207) HT_ ?_
               refine pn_ (i:=43) (N:=some 137) (bt_ 49 17592186044415) HT_ ?_
               refine pn_ (i:=44) (N:=some 138) (bt_ 49 35184372088831) HT_ ?_
               refine pn_ (i:=45) (N:=some 139) (bt_ 49 70368744177663) HT_ ?_
               refine pn_ (i:=46) (N:=some 140) (bt_ 49 140737488355327) HT_ ?_
               refine pu_ (i:=47) (N:=some 141) (bt_ 49 281474976710655) HT_ ?_
               refine pu_ (i:=48) (N:=some 142) (bt_ 49 562949953421311) HT_ ?_
               refine done_ (done_of HT_.out (by kernel_rfl)) ?_
               try go_wp2
               go_meet
               case rel=>exact ⟨_,(false),(by first|rfl|(simp;done)|(simp [*];done)),H',⟨by have:=HK1.out;first|omega|exact Nat.le_refl _⟩,⟨by (with_reducible repeat (first|apply Kd.R_alloc|apply Kd.R_drewN|apply Kd.R_drew));exact Kd.R_mono HO_10.out (fun _ hk=>hk.2.2)⟩,⟨by refine zk_ ?_;exact BK7.out⟩,⟨by refine zk_ ?_;exact BK8.out⟩,⟨zl2_ HB GE7 GE8⟩⟩
              ·replace c65:=Bool.eq_false_iff.mpr c65
               subst c65
               have c63b2:(t29==13)=false:=by simpa using c63b0
               have H1:((law1_Num.f t18).bind fun t30=>(if t30=0 then (law15_ShapeLimits.j1 k1 t9 t12 ((t17.length:Int) !=(wrap64 ((t2.length:Int) - 1))) ((rd_T31 t2 (ji13)).f0) ((rd_T31 t2 (ji13)).f1) ((rd_T31 t2 (ji13)).f2.f0) ((rd_T31 t2 (ji13)).f2.f1) ((rd_T31 t2 (ji13)).f2.f2) ((rd_T31 t2 (ji13)).f3.f0) ((rd_T31 t2 (ji13)).f3.f1) ((rd_T31 t2 (ji13)).f3.f2) ((rd_T31 t2 (ji13)).f4.f0) ((rd_T31 t2 (ji13)).f4.f1) ((rd_T31 t2 (ji13)).f4.f2) ((rd_T31 t2 (ji13)).f5) (Int.tmod (wrap64 (a2)) 300) ((rd_T31 t2 (ji13)).f4.f1) ((rd_T31 t2 (ji13)).f4.f2)) else (none)))=some r:=by rw [if_neg (show¬(false=true) by decide)] at H;exact H
               clear H
               have H:=H1
               clear H1
               replace H:=Option.bind_eq_some_iff.mp H
               obtain ⟨t30,A670,H⟩:=H
               replace H:(if t30=0 then (law15_ShapeLimits.j1 k1 t9 t12 ((t17.length:Int) !=(wrap64 ((t2.length:Int) - 1))) ((rd_T31 t2 (ji13)).f0) ((rd_T31 t2 (ji13)).f1) ((rd_T31 t2 (ji13)).f2.f0) ((rd_T31 t2 (ji13)).f2.f1) ((rd_T31 t2 (ji13)).f2.f2) ((rd_T31 t2 (ji13)).f3.f0) ((rd_T31 t2 (ji13)).f3.f1) ((rd_T31 t2 (ji13)).f3.f2) ((rd_T31 t2 (ji13)).f4.f0) ((rd_T31 t2 (ji13)).f4.f1) ((rd_T31 t2 (ji13)).f4.f2) ((rd_T31 t2 (ji13)).f5) (Int.tmod (wrap64 (a2)) 300) ((rd_T31 t2 (ji13)).f4.f1) ((rd_T31 t2 (ji13)).f4.f2)) else (none))=some r:=H
               have A67:=Aside0.mk A670
               clear A670
               obtain rfl:t29=t30:=Option.some.inj (A62.out.symm.trans A67.out)
               by_cases c68:t29=0
               ·rw [if_pos c68] at H
                have c68b0:(t29==0)=true:=beq_iff_eq.mpr c68
                have c68b1:(t29 !=0)=false:=bne_eq_false_iff_eq.mpr c68
                clear c68
                have H':=Aside0.mk H
                clear H
                try go_wp2
                have n0_:=am_ (Kd.R_drew HO_7.out)
                have n1_:=am_ (Kd.R_drew HO_10.out)
                have n2_:=am_ (Kd.R_drew HO_14.out)
                have n3_:=am_ (blk_drew BK7.out)
                have n4_:=am_ (blk_drew BK8.out)
                have n5_:=am_ (below_drew1 HB.out)
                clear HO_7
                clear HO_10
                clear HO_14
                clear BK7
                clear BK8
                clear HB
                have HO_7:=n0_
                have HO_10:=n1_
                have HO_14:=n2_
                have BK7:=n3_
                have BK8:=n4_
                have HB:=n5_
                clear n0_ n1_ n2_ n3_ n4_ n5_
                refine start_ (n:=49) (S:=fun w'=>w'.cell? ⟨gb7,0,none⟩=some (.string ((rd_T31 t2 (ji13)).f0))∧w'.cell? ⟨gb7,1,none⟩=some (.string ((rd_T31 t2 (ji13)).f1))∧w'.cell? ⟨gb7,2,none⟩=some (.int .i64 ((rd_T31 t2 (ji13)).f2.f0))∧w'.cell? ⟨gb7,3,none⟩=some (.int .i64 ((rd_T31 t2 (ji13)).f2.f1))∧w'.cell? ⟨gb7,4,none⟩=some (.int .i64 ((rd_T31 t2 (ji13)).f2.f2))∧w'.cell? ⟨gb7,5,none⟩=some (.int .i64 ((rd_T31 t2 (ji13)).f3.f0))∧w'.cell? ⟨gb7,6,none⟩=some (.int .i64 ((rd_T31 t2 (ji13)).f3.f1))∧w'.cell? ⟨gb7,7,none⟩=some (.int .i64 ((rd_T31 t2 (ji13)).f3.f2))∧w'.cell? ⟨gb7,8,none⟩=some (.int .i64 ((rd_T31 t2 (ji13)).f4.f0))∧w'.cell? ⟨gb7,9,none⟩=some (.int .i64 ((rd_T31 t2 (ji13)).f4.f1))∧w'.cell? ⟨gb7,10,none⟩=some (.int .i64 ((rd_T31 t2 (ji13)).f4.f2))∧w'.cell? ⟨gb7,11,none⟩=some (.int .i64 ((rd_T31 t2 (ji13)).f5))∧w'.cell? ⟨gb8,0,none⟩=some (.int .i64 (Int.tmod (wrap64 (a2)) 300))∧w'.cell? ⟨gb8,1,none⟩=some (.int .i64 ((rd_T31 t2 (ji13)).f4.f1))∧w'.cell? ⟨gb8,2,none⟩=some (.int .i64 ((rd_T31 t2 (ji13)).f4.f2))) (ds:=[]) (bt_ 49 0) (by kernel_rfl) rfl rfl ⟨(blk_cell BK7.out 0).trans rfl,(blk_cell BK7.out 1).trans rfl,(blk_cell BK7.out 2).trans rfl,(blk_cell BK7.out 3).trans rfl,(blk_cell BK7.out 4).trans rfl,(blk_cell BK7.out 5).trans rfl,(blk_cell BK7.out 6).trans rfl,(blk_cell BK7.out 7).trans rfl,(blk_cell BK7.out 8).trans rfl,(blk_cell BK7.out 9).trans rfl,(blk_cell BK7.out 10).trans rfl,(blk_cell BK7.out 11).trans rfl,(blk_cell BK8.out 0).trans rfl,(blk_cell BK8.out 1).trans rfl,(blk_cell BK8.out 2).trans rfl⟩ (fun hHeld=> ?_);refine with_tabW law15_ShapeLimits.tab16 law15_ShapeLimits.bits16 (fun HT_ HW_=> ?_)
                generalize wr.drew=w69 at HO_7 HO_10 HO_14 BK7 BK8 HB hHeld ⊢
                refine pu_ (i:=0) (N:=some 94) (bt_ 49 1) HT_ ?_
                refine pu_ (i:=3) (N:=some 97) (bt_ 49 9) HT_ ?_
                refine pu_ (i:=4) (N:=some 98) (bt_ 49 25) HT_ ?_
                refine pu_ (i:=6) (N:=some 100) (bt_ 49 89) HT_ ?_
                refine tk_ (i:=5) (N:=some 99) (bt_ 49 121) HT_ HW_ hHeld ?_
                refine tk_ (i:=7) (N:=some 101) (bt_ 49 249) HT_ HW_ hHeld ?_
                refine pu_ (i:=8) (N:=some 102) (bt_ 49 505) HT_ ?_
                refine one_ (i:=1) (N:=some 95) (bt_ 49 507) rfl rfl (one_of HT_.out (by kernel_rfl)) (by decide) (fun K hK=> ?_)
                refine goes_ Try.func61 (by kernel_rfl) rfl #[.int .i64 t12] (by rfl) rfl rfl zs_ ?_
                with_reducible refine (law1_Num.calls t12 t22 _ A40.out).mono ?_
                rintro e w' ⟨rfl,⟨nd,rfl⟩⟩
                refine ⟨_,rfl, ?_⟩
                refine hK.out _ _ ⟨(blk_cell BK7.out 0).trans rfl,(blk_cell BK7.out 1).trans rfl,(blk_cell BK7.out 2).trans rfl,(blk_cell BK7.out 3).trans rfl,(blk_cell BK7.out 4).trans rfl,(blk_cell BK7.out 5).trans rfl,(blk_cell BK7.out 6).trans rfl,(blk_cell BK7.out 7).trans rfl,(blk_cell BK7.out 8).trans rfl,(blk_cell BK7.out 9).trans rfl,(blk_cell BK7.out 10).trans rfl,(blk_cell BK7.out 11).trans rfl,(blk_cell BK8.out 0).trans rfl,(blk_cell BK8.out 1).trans rfl,(blk_cell BK8.out 2).trans rfl⟩ (fun hHeld=> ?_)
                clear hK K
                refine no_ (N:=some 95) ?_
                refine pu_ (i:=2) (N:=some 96) (bt_ 49 511) HT_ ?_
                refine pu_ (i:=9) (N:=some 103) (bt_ 49 1023) HT_ ?_
                refine pu_ (i:=10) (N:=some 104) (bt_ 49 2047) HT_ ?_
                refine pu_ (i:=11) (N:=some 105) (bt_ 49 4095) HT_ ?_
                refine one_ (i:=12) (N:=some 106) (bt_ 49 8191) rfl rfl (one_of HT_.out (by kernel_rfl)) (by decide) (fun K hK=> ?_)
                refine goes_ Try.func61 (by kernel_rfl) rfl #[.int .i64 t12] (by rfl) rfl rfl zs_ ?_
                with_reducible refine (law1_Num.calls t12 t22 _ A43.out).mono ?_
                rintro e w' ⟨rfl,⟨nd,rfl⟩⟩
                refine ⟨_,rfl, ?_⟩
                refine hK.out _ _ ⟨(blk_cell BK7.out 0).trans rfl,(blk_cell BK7.out 1).trans rfl,(blk_cell BK7.out 2).trans rfl,(blk_cell BK7.out 3).trans rfl,(blk_cell BK7.out 4).trans rfl,(blk_cell BK7.out 5).trans rfl,(blk_cell BK7.out 6).trans rfl,(blk_cell BK7.out 7).trans rfl,(blk_cell BK7.out 8).trans rfl,(blk_cell BK7.out 9).trans rfl,(blk_cell BK7.out 10).trans rfl,(blk_cell BK7.out 11).trans rfl,(blk_cell BK8.out 0).trans rfl,(blk_cell BK8.out 1).trans rfl,(blk_cell BK8.out 2).trans rfl⟩ (fun hHeld=> ?_)
                clear hK K
                refine no_ (N:=some 106) ?_
                refine pu_ (i:=13) (N:=some 107) (bt_ 49 16383) HT_ ?_
                refine pu_ (i:=14) (N:=some 108) (bt_ 49 32767) HT_ ?_
                refine pu_ (i:=15) (N:=some 109) (bt_ 49 65535) HT_ ?_
                refine one_ (i:=16) (N:=some 110) (bt_ 49 131071) rfl rfl (one_of HT_.out (by kernel_rfl)) (by decide) (fun K hK=> ?_)
                refine goes_ Try.func61 (by kernel_rfl) rfl #[.int .i64 t12] (by rfl) rfl rfl zs_ ?_
                with_reducible refine (law1_Num.calls t12 t22 _ A58.out).mono ?_
                rintro e w' ⟨rfl,⟨nd,rfl⟩⟩
                refine ⟨_,rfl, ?_⟩
                refine hK.out _ _ ⟨(blk_cell BK7.out 0).trans rfl,(blk_cell BK7.out 1).trans rfl,(blk_cell BK7.out 2).trans rfl,(blk_cell BK7.out 3).trans rfl,(blk_cell BK7.out 4).trans rfl,(blk_cell BK7.out 5).trans rfl,(blk_cell BK7.out 6).trans rfl,(blk_cell BK7.out 7).trans rfl,(blk_cell BK7.out 8).trans rfl,(blk_cell BK7.out 9).trans rfl,(blk_cell BK7.out 10).trans rfl,(blk_cell BK7.out 11).trans rfl,(blk_cell BK8.out 0).trans rfl,(blk_cell BK8.out 1).trans rfl,(blk_cell BK8.out 2).trans rfl⟩ (fun hHeld=> ?_)
                clear hK K
                refine no_ (N:=some 110) ?_
                refine pu_ (i:=17) (N:=some 111) (bt_ 49 262143) HT_ ?_
                refine pu_ (i:=18) (N:=some 112) (bt_ 49 524287) HT_ ?_
                refine pu_ (i:=19) (N:=some 113) (bt_ 49 1048575) HT_ ?_
                refine pu_ (i:=20) (N:=some 114) (bt_ 49 2097151) HT_ ?_
                refine pu_ (i:=21) (N:=some 115) (bt_ 49 4194303) HT_ ?_
                refine one_ (i:=22) (N:=some 116) (bt_ 49 8388607) rfl rfl (one_of HT_.out (by kernel_rfl)) (by decide) (fun K hK=> ?_)
                refine goes_ Try.func61 (by kernel_rfl) rfl #[.int .i64 t16] (by rfl) rfl rfl zs_ ?_
                with_reducible refine (law1_Num.calls t16 t28 _ A60.out).mono ?_
                rintro e w' ⟨rfl,⟨nd,rfl⟩⟩
                refine ⟨_,rfl, ?_⟩
                refine hK.out _ _ ⟨(blk_cell BK7.out 0).trans rfl,(blk_cell BK7.out 1).trans rfl,(blk_cell BK7.out 2).trans rfl,(blk_cell BK7.out 3).trans rfl,(blk_cell BK7.out 4).trans rfl,(blk_cell BK7.out 5).trans rfl,(blk_cell BK7.out 6).trans rfl,(blk_cell BK7.out 7).trans rfl,(blk_cell BK7.out 8).trans rfl,(blk_cell BK7.out 9).trans rfl,(blk_cell BK7.out 10).trans rfl,(blk_cell BK7.out 11).trans rfl,(blk_cell BK8.out 0).trans rfl,(blk_cell BK8.out 1).trans rfl,(blk_cell BK8.out 2).trans rfl⟩ (fun hHeld=> ?_)
                clear hK K
                refine no_ (N:=some 116) ?_
                refine pu_ (i:=23) (N:=some 117) (bt_ 49 16777215) HT_ ?_
                refine pu_ (i:=24) (N:=some 118) (bt_ 49 33554431) HT_ ?_
                refine pu_ (i:=25) (N:=some 119) (bt_ 49 67108863) HT_ ?_
                refine pu_ (i:=26) (N:=some 120) (bt_ 49 134217727) HT_ ?_
                refine pu_ (i:=29) (N:=some 123) (bt_ 49 671088639) HT_ ?_
                refine one_ (i:=27) (N:=some 121) (bt_ 49 805306367) rfl rfl (one_of HT_.out (by kernel_rfl)) (by decide) (fun K hK=> ?_)
                refine goes_ Try.func61 (by kernel_rfl) rfl #[.int .i64 t18] (by rfl) rfl rfl zs_ ?_
                with_reducible refine (law1_Num.calls t18 t29 _ A62.out).mono ?_
                rintro e w' ⟨rfl,⟨nd,rfl⟩⟩
                refine ⟨_,rfl, ?_⟩
                refine hK.out _ _ ⟨(blk_cell BK7.out 0).trans rfl,(blk_cell BK7.out 1).trans rfl,(blk_cell BK7.out 2).trans rfl,(blk_cell BK7.out 3).trans rfl,(blk_cell BK7.out 4).trans rfl,(blk_cell BK7.out 5).trans rfl,(blk_cell BK7.out 6).trans rfl,(blk_cell BK7.out 7).trans rfl,(blk_cell BK7.out 8).trans rfl,(blk_cell BK7.out 9).trans rfl,(blk_cell BK7.out 10).trans rfl,(blk_cell BK7.out 11).trans rfl,(blk_cell BK8.out 0).trans rfl,(blk_cell BK8.out 1).trans rfl,(blk_cell BK8.out 2).trans rfl⟩ (fun hHeld=> ?_)
                clear hK K
                refine no_ (N:=some 121) ?_
                refine pu_ (i:=28) (N:=some 122) (bt_ 49 1073741823) HT_ ?_
                refine pu_ (i:=30) (N:=some 124) (bt_ 49 2147483647) HT_ ?_
                refine pu_ (i:=31) (N:=some 125) (bt_ 49 4294967295) HT_ ?_
                refine pu_ (i:=32) (N:=some 126) (bt_ 49 8589934591) HT_ ?_
                refine pu_ (i:=33) (N:=some 127) (bt_ 49 17179869183) HT_ ?_
                refine pu_ (i:=34) (N:=some 128) (bt_ 49 34359738367) HT_ ?_
                refine pu_ (i:=35) (N:=some 129) (bt_ 49 68719476735) HT_ ?_
                refine pu_ (i:=36) (N:=some 130) (bt_ 49 137438953471) HT_ ?_
                refine one_ (i:=37) (N:=some 131) (bt_ 49 274877906943) rfl rfl (one_of HT_.out (by kernel_rfl)) (by decide) (fun K hK=> ?_)
                refine goes_ Try.func61 (by kernel_rfl) rfl #[.int .i64 t18] (by rfl) rfl rfl zs_ ?_
                with_reducible refine (law1_Num.calls t18 t29 _ A67.out).mono ?_
                rintro e w' ⟨rfl,⟨nd,rfl⟩⟩
                refine ⟨_,rfl, ?_⟩
                obtain ⟨Ao70,co70,eo70⟩:=Kd.R_slice HO_14.out
                (first|subst eo70|(injection eo70 with f1_ f2_ f3_;have f4_:=f1_.symm;have f5_:=f3_.symm;clear f1_ f2_ f3_;subst f4_;subst f5_))
                refine hK.out _ _ ⟨(blk_cell BK7.out 0).trans rfl,(blk_cell BK7.out 1).trans rfl,(blk_cell BK7.out 2).trans rfl,(blk_cell BK7.out 3).trans rfl,(blk_cell BK7.out 4).trans rfl,(blk_cell BK7.out 5).trans rfl,(blk_cell BK7.out 6).trans rfl,(blk_cell BK7.out 7).trans rfl,(blk_cell BK7.out 8).trans rfl,(blk_cell BK7.out 9).trans rfl,(blk_cell BK7.out 10).trans rfl,(blk_cell BK7.out 11).trans rfl,(blk_cell BK8.out 0).trans rfl,(blk_cell BK8.out 1).trans rfl,(blk_cell BK8.out 2).trans rfl⟩ (fun hHeld=> ?_)
                clear hK K
                refine no_ (N:=some 131) ?_
                refine pu_ (i:=38) (N:=some 132) (bt_ 49 549755813887) HT_ ?_
                refine pu_ (i:=39) (N:=some 133) (bt_ 49 1099511627775) HT_ ?_
                refine pu_ (i:=40) (N:=some 134) (bt_ 49 2199023255551) HT_ ?_
                refine pu_ (i:=41) (N:=some 135) (bt_ 49 4398046511103) HT_ ?_
                refine pu_ (i:=42) (N:=some 136) (bt_ 49 8796093022207) HT_ ?_
                refine pu_ (i:=43) (N:=some 137) (bt_ 49 17592186044415) HT_ ?_
                refine pu_ (i:=44) (N:=some 138) (bt_ 49 35184372088831) HT_ ?_
                refine pu_ (i:=45) (N:=some 139) (bt_ 49 70368744177663) HT_ ?_
                refine pu_ (i:=46) (N:=some 140) (bt_ 49 140737488355327) HT_ ?_
                refine pu_ (i:=47) (N:=some 141) (bt_ 49 281474976710655) HT_ ?_
                refine pu_ (i:=48) (N:=some 142) (bt_ 49 562949953421311) HT_ ?_
                refine done_ (done_of HT_.out (by kernel_rfl)) ?_
                try go_wp2
                go_meet
                case rel=>exact ⟨_,(((t17.length:Int) !=(wrap64 ((t2.length:Int) - 1)))),(by first|rfl|(simp;done)|(simp [*];done)),H',⟨by have:=HK1.out;first|omega|exact Nat.le_refl _⟩,⟨by (with_reducible repeat (first|apply Kd.R_alloc|apply Kd.R_drewN|apply Kd.R_drew));exact Kd.R_mono HO_10.out (fun _ hk=>hk.2.2)⟩,⟨by refine zk_ ?_;exact BK7.out⟩,⟨by refine zk_ ?_;exact BK8.out⟩,⟨zl2_ HB GE7 GE8⟩⟩
               ·rw [if_neg c68] at H
                cases H
            ·rw [if_neg c61] at H
             cases H
           ·rw [if_neg c59] at H
            cases H
        case rest=>
         clear HC39
         try clear p2
         try clear c5
         try clear c6
         try clear p6
         try clear c59
         try clear c59b0
         try clear c59b1
         try clear c61
         try clear p64
         obtain ⟨kq,x142_38,rfl,HA,HJ38,HO_10,BK7,BK8,HB⟩:=hcut
         cases kq with
         |zero=>exact absurd HA.out (by simp [law15_ShapeLimits.j1])
         |succ kj38=>
          have H:=HA.out
          clear HA
          simp only [law15_ShapeLimits.j1] at H
          by_cases c74:x142_38=true
          ·subst c74
           have H1:(none)=some r:=by rw [if_pos rfl] at H;exact H
           cases H1
          ·replace c74:=Bool.eq_false_iff.mpr c74
           subst c74
           have H1:((law1_Num.f t12).bind fun t31=>(if t31=0 then ((r10_Find.f kj38 t9 ((rd_T31 t2 (ji13)).f0)).bind fun t32=>(if t32<0 then (none) else (if 0≤t32 then (if t32<(t9.length:Int) then (if (!(((rd_T31 t9 t32).f2.f0)==(Int.tmod (wrap64 (a2)) 300))||(!(((rd_T31 t9 t32).f2.f1)==((rd_T31 t2 (ji13)).f4.f1))||(!(((rd_T31 t9 t32).f2.f2)==((rd_T31 t2 (ji13)).f4.f2)))))=true then (none) else (if ((rd_T31 t9 t32).f5)=(wrap64 (((rd_T31 t2 (ji13)).f5)+1)) then ((law15_awake.f).bind fun t35=>(some t35)) else (none))) else (none)) else (none)))) else ((law15_awake.f).bind fun t36=>(some t36))))=some r:=by rw [if_neg (show¬(false=true) by decide)] at H;exact H
           clear H
           have H:=H1
           clear H1
           replace H:=Option.bind_eq_some_iff.mp H
           obtain ⟨t31,A750,H⟩:=H
           replace H:(if t31=0 then ((r10_Find.f kj38 t9 ((rd_T31 t2 (ji13)).f0)).bind fun t32=>(if t32<0 then (none) else (if 0≤t32 then (if t32<(t9.length:Int) then (if (!(((rd_T31 t9 t32).f2.f0)==(Int.tmod (wrap64 (a2)) 300))||(!(((rd_T31 t9 t32).f2.f1)==((rd_T31 t2 (ji13)).f4.f1))||(!(((rd_T31 t9 t32).f2.f2)==((rd_T31 t2 (ji13)).f4.f2)))))=true then (none) else (if ((rd_T31 t9 t32).f5)=(wrap64 (((rd_T31 t2 (ji13)).f5)+1)) then ((law15_awake.f).bind fun t35=>(some t35)) else (none))) else (none)) else (none)))) else ((law15_awake.f).bind fun t36=>(some t36)))=some r:=H
           have A75:=Aside0.mk A750
           clear A750
           by_cases c76:t31=0
           ·rw [if_pos c76] at H
            have c76b0:(t31==0)=true:=beq_iff_eq.mpr c76
            have c76b1:(t31 !=0)=false:=bne_eq_false_iff_eq.mpr c76
            clear c76
            replace H:=Option.bind_eq_some_iff.mp H
            obtain ⟨t32,A770,H⟩:=H
            replace H:(if t32<0 then (none) else (if 0≤t32 then (if t32<(t9.length:Int) then (if (!(((rd_T31 t9 t32).f2.f0)==(Int.tmod (wrap64 (a2)) 300))||(!(((rd_T31 t9 t32).f2.f1)==((rd_T31 t2 (ji13)).f4.f1))||(!(((rd_T31 t9 t32).f2.f2)==((rd_T31 t2 (ji13)).f4.f2)))))=true then (none) else (if ((rd_T31 t9 t32).f5)=(wrap64 (((rd_T31 t2 (ji13)).f5)+1)) then ((law15_awake.f).bind fun t35=>(some t35)) else (none))) else (none)) else (none)))=some r:=H
            have A77:=Aside0.mk A770
            clear A770
            by_cases c78:t32<0
            ·rw [if_pos c78] at H
             cases H
            ·rw [if_neg c78] at H
             have c78b0:decide (t32<0)=false:=decide_eq_false c78
             clear c78
             by_cases c83:0≤t32
             ·rw [if_pos c83] at H
              have c83b0:decide (0≤t32)=true:=decide_eq_true c83
              clear c83
              by_cases c84:t32<(t9.length:Int)
              ·rw [if_pos c84] at H
               have c84b0:decide (t32<(t9.length:Int))=true:=decide_eq_true c84
               clear c84
               by_cases c85:(!(((rd_T31 t9 t32).f2.f0)==(Int.tmod (wrap64 (a2)) 300))||(!(((rd_T31 t9 t32).f2.f1)==((rd_T31 t2 (ji13)).f4.f1))||(!(((rd_T31 t9 t32).f2.f2)==((rd_T31 t2 (ji13)).f4.f2)))))=true
               ·rw [if_pos c85] at H
                cases H
               ·rw [if_neg c85] at H
                have c85b0:(!(((rd_T31 t9 t32).f2.f0)==(Int.tmod (wrap64 (a2)) 300))||(!(((rd_T31 t9 t32).f2.f1)==((rd_T31 t2 (ji13)).f4.f1))||(!(((rd_T31 t9 t32).f2.f2)==((rd_T31 t2 (ji13)).f4.f2)))))=false:=by simpa using c85
                clear c85
                by_cases c90:((rd_T31 t9 t32).f5)=(wrap64 (((rd_T31 t2 (ji13)).f5)+1))
                ·rw [if_pos c90] at H
                 have c90b0:(((rd_T31 t9 t32).f5)==(wrap64 (((rd_T31 t2 (ji13)).f5)+1)))=true:=beq_iff_eq.mpr c90
                 have c90b1:(((rd_T31 t9 t32).f5) !=(wrap64 (((rd_T31 t2 (ji13)).f5)+1)))=false:=bne_eq_false_iff_eq.mpr c90
                 clear c90
                 replace H:=Option.bind_eq_some_iff.mp H
                 obtain ⟨t35,A910,H⟩:=H
                 replace H:(some t35)=some r:=H
                 have A91:=Aside0.mk A910
                 clear A910
                 obtain rfl:=Option.some.inj H
                 try go_wp2_with (first|((with_reducible refine gate_callee (f:=61) rfl ?_);refine goesL_ (some 144) rfl rfl Try.func61 (by kernel_rfl) rfl #[.int .i64 t12] rfl zs_ ?_;(with_reducible refine (law1_Num.calls t12 t31 _ A75.out).mono ?_);rintro e w' ⟨rfl,⟨nd,rfl⟩⟩;refine ⟨_,rfl, ?_⟩;have hnb92:=NB7_8.out;have hnc92:=NB8_7.out;have hcz93_0:wc.cell? ⟨gb7,0,none⟩=some (.string ((rd_T31 t2 (ji13)).f0)):=(blk_cell BK7.out 0).trans rfl;have hcz93_1:wc.cell? ⟨gb7,1,none⟩=some (.string ((rd_T31 t2 (ji13)).f1)):=(blk_cell BK7.out 1).trans rfl;have hcz93_2:wc.cell? ⟨gb7,2,none⟩=some (.int .i64 ((rd_T31 t2 (ji13)).f2.f0)):=(blk_cell BK7.out 2).trans rfl;have hcz93_3:wc.cell? ⟨gb7,3,none⟩=some (.int .i64 ((rd_T31 t2 (ji13)).f2.f1)):=(blk_cell BK7.out 3).trans rfl;have hcz93_4:wc.cell? ⟨gb7,4,none⟩=some (.int .i64 ((rd_T31 t2 (ji13)).f2.f2)):=(blk_cell BK7.out 4).trans rfl;have hcz93_5:wc.cell? ⟨gb7,5,none⟩=some (.int .i64 ((rd_T31 t2 (ji13)).f3.f0)):=(blk_cell BK7.out 5).trans rfl;have hcz93_6:wc.cell? ⟨gb7,6,none⟩=some (.int .i64 ((rd_T31 t2 (ji13)).f3.f1)):=(blk_cell BK7.out 6).trans rfl;have hcz93_7:wc.cell? ⟨gb7,7,none⟩=some (.int .i64 ((rd_T31 t2 (ji13)).f3.f2)):=(blk_cell BK7.out 7).trans rfl;have hcz93_8:wc.cell? ⟨gb7,8,none⟩=some (.int .i64 ((rd_T31 t2 (ji13)).f4.f0)):=(blk_cell BK7.out 8).trans rfl;have hcz93_9:wc.cell? ⟨gb7,9,none⟩=some (.int .i64 ((rd_T31 t2 (ji13)).f4.f1)):=(blk_cell BK7.out 9).trans rfl;have hcz93_10:wc.cell? ⟨gb7,10,none⟩=some (.int .i64 ((rd_T31 t2 (ji13)).f4.f2)):=(blk_cell BK7.out 10).trans rfl;have hcz93_11:wc.cell? ⟨gb7,11,none⟩=some (.int .i64 ((rd_T31 t2 (ji13)).f5)):=(blk_cell BK7.out 11).trans rfl;have hfz93_0:=blk_frozen BK7.out 0;have hfz93_1:=blk_frozen BK7.out 1;have hfz93_2:=blk_frozen BK7.out 2;have hfz93_3:=blk_frozen BK7.out 3;have hfz93_4:=blk_frozen BK7.out 4;have hfz93_5:=blk_frozen BK7.out 5;have hfz93_6:=blk_frozen BK7.out 6;have hfz93_7:=blk_frozen BK7.out 7;have hfz93_8:=blk_frozen BK7.out 8;have hfz93_9:=blk_frozen BK7.out 9;have hfz93_10:=blk_frozen BK7.out 10;have hfz93_11:=blk_frozen BK7.out 11;obtain ⟨Ao94,co94,eo94⟩:=Kd.R_slice HO_10.out;subst eo94)|((with_reducible refine gate_callee (f:=50) rfl ?_);refine goesL_ (some 149) rfl rfl Try.func50 (by kernel_rfl) rfl #[.slice Ao94 t9.length co94, .string ((rd_T31 t2 (ji13)).f0)] rfl (by (try simp only [List.map_toArray,List.map_cons,List.map_nil]);first|done|(simp only [hji13];rfl)|rfl|(simp only [List.length_drop,List.length_take];rfl)) ?_;(with_reducible refine (r10_Find.calls kj38 _ _ t9 ((rd_T31 t2 (ji13)).f0) t32 _ ?side1 ?side2 A77.out).mono ?_);(case side1=>repeat (first|exact (Kd.R_reads' HO_10.out).2.2|(with_reducible refine Kd.C_alloc ?_ _)|(with_reducible refine Kd.C_drewN ?_ _)|(with_reducible refine Kd.C_drew ?_)));(case side2=>exact (Kd.R_reads' HO_10.out).2.1);rintro e w' ⟨rfl,⟨nd,rfl⟩⟩;refine ⟨_,rfl, ?_⟩))
                 (try (rw [drewN_self wc];generalize hq_:World.drewN wc _=wc;have n0_:Aside0 (Kd.R k31 31 wc w.heap.size (fun k_=>k_≠gb7) (.slice Ao94 t9.length co94) t9):=⟨by rw [←hq_];exact (zr_ HO_10)⟩;have n1_:Aside0 (wc.heap[gb7]?=some (.cells #[.string ((rd_T31 t2 (ji13)).f0), .string ((rd_T31 t2 (ji13)).f1), .int .i64 ((rd_T31 t2 (ji13)).f2.f0), .int .i64 ((rd_T31 t2 (ji13)).f2.f1), .int .i64 ((rd_T31 t2 (ji13)).f2.f2), .int .i64 ((rd_T31 t2 (ji13)).f3.f0), .int .i64 ((rd_T31 t2 (ji13)).f3.f1), .int .i64 ((rd_T31 t2 (ji13)).f3.f2), .int .i64 ((rd_T31 t2 (ji13)).f4.f0), .int .i64 ((rd_T31 t2 (ji13)).f4.f1), .int .i64 ((rd_T31 t2 (ji13)).f4.f2), .int .i64 ((rd_T31 t2 (ji13)).f5)] 31 (0,0))):=⟨by rw [←hq_];exact (zb_ BK7)⟩;have n2_:Aside0 (wc.heap[gb8]?=some (.cells #[.int .i64 (Int.tmod (wrap64 (a2)) 300), .int .i64 ((rd_T31 t2 (ji13)).f4.f1), .int .i64 ((rd_T31 t2 (ji13)).f4.f2)] 27 (0,0))):=⟨by rw [←hq_];exact (zb_ BK8)⟩;have n3_:Aside0 (Below w.heap.size w wc):=⟨by rw [←hq_];exact (zl2_ HB GE7 GE8)⟩;clear HO_10 BK7 BK8 HB hq_;have HO_10:=n0_;have BK7:=n1_;have BK8:=n2_;have HB:=n3_;clear n0_ n1_ n2_ n3_))
                 have n0_:=am_ (Kd.R_drew HO_10.out)
                 have n1_:=am_ (blk_drew BK7.out)
                 have n2_:=am_ (blk_drew BK8.out)
                 have n3_:=am_ (below_drew1 HB.out)
                 clear HO_10
                 clear BK7
                 clear BK8
                 clear HB
                 have HO_10:=n0_
                 have BK7:=n1_
                 have BK8:=n2_
                 have HB:=n3_
                 clear n0_ n1_ n2_ n3_
                 have p33:0≤(t32:Int):=of_decide_eq_true zq_
                 have q33:t32<(t9.length:Int):=of_decide_eq_true zq_
                 obtain ⟨ad33,e33,hx33_0,hx33_1,hx33_2,hx33_3,hx33_4,hx33_5,hx33_6,hx33_7,hx33_8,hx33_9,hx33_10,hx33_11⟩:=at_T31 (Kd.R_reads' HO_10.out).2.2 t32 p33 q33
                 cases e33
                 replace p33:=eq_true p33
                 replace q33:=eq_true q33
                 have p34:0≤(t32:Int):=of_decide_eq_true zq_
                 have q34:t32<(t9.length:Int):=of_decide_eq_true zq_
                 obtain ⟨ad34,e34,hx34_0,hx34_1,hx34_2,hx34_3,hx34_4,hx34_5,hx34_6,hx34_7,hx34_8,hx34_9,hx34_10,hx34_11⟩:=at_T31 (Kd.R_reads' HO_10.out).2.2 t32 p34 q34
                 obtain rfl:ad33=ad34:=(by injection e34)
                 replace p34:=eq_true p34
                 replace q34:=eq_true q34
                 refine start_ (n:=22) (S:=fun w'=>w'.cell? ⟨gb8,0,none⟩=some (.int .i64 (Int.tmod (wrap64 (a2)) 300))∧w'.cell? ⟨gb8,1,none⟩=some (.int .i64 ((rd_T31 t2 (ji13)).f4.f1))∧w'.cell? ⟨gb8,2,none⟩=some (.int .i64 ((rd_T31 t2 (ji13)).f4.f2))∧w'.cell? ⟨gb7,0,none⟩=some (.string ((rd_T31 t2 (ji13)).f0))∧w'.cell? ⟨gb7,1,none⟩=some (.string ((rd_T31 t2 (ji13)).f1))∧w'.cell? ⟨gb7,2,none⟩=some (.int .i64 ((rd_T31 t2 (ji13)).f2.f0))∧w'.cell? ⟨gb7,3,none⟩=some (.int .i64 ((rd_T31 t2 (ji13)).f2.f1))∧w'.cell? ⟨gb7,4,none⟩=some (.int .i64 ((rd_T31 t2 (ji13)).f2.f2))∧w'.cell? ⟨gb7,5,none⟩=some (.int .i64 ((rd_T31 t2 (ji13)).f3.f0))∧w'.cell? ⟨gb7,6,none⟩=some (.int .i64 ((rd_T31 t2 (ji13)).f3.f1))∧w'.cell? ⟨gb7,7,none⟩=some (.int .i64 ((rd_T31 t2 (ji13)).f3.f2))∧w'.cell? ⟨gb7,8,none⟩=some (.int .i64 ((rd_T31 t2 (ji13)).f4.f0))∧w'.cell? ⟨gb7,9,none⟩=some (.int .i64 ((rd_T31 t2 (ji13)).f4.f1))∧w'.cell? ⟨gb7,10,none⟩=some (.int .i64 ((rd_T31 t2 (ji13)).f4.f2))∧w'.cell? ⟨gb7,11,none⟩=some (.int .i64 ((rd_T31 t2 (ji13)).f5))∧w'.cell? (ad33.add ((t32).toNat*12))=some (.string ((rd_T31 t9 t32).f0))∧w'.cell? ⟨(ad33.add ((t32).toNat*12)).block,(ad33.add ((t32).toNat*12)).off+1,none⟩=some (.string ((rd_T31 t9 t32).f1))∧w'.cell? ⟨(ad33.add ((t32).toNat*12)).block,(ad33.add ((t32).toNat*12)).off+2,none⟩=some (.int .i64 ((rd_T31 t9 t32).f2.f0))∧w'.cell? ⟨(ad33.add ((t32).toNat*12)).block,(ad33.add ((t32).toNat*12)).off+3,none⟩=some (.int .i64 ((rd_T31 t9 t32).f2.f1))∧w'.cell? ⟨(ad33.add ((t32).toNat*12)).block,(ad33.add ((t32).toNat*12)).off+4,none⟩=some (.int .i64 ((rd_T31 t9 t32).f2.f2))∧w'.cell? ⟨(ad33.add ((t32).toNat*12)).block,(ad33.add ((t32).toNat*12)).off+5,none⟩=some (.int .i64 ((rd_T31 t9 t32).f3.f0))∧w'.cell? ⟨(ad33.add ((t32).toNat*12)).block,(ad33.add ((t32).toNat*12)).off+6,none⟩=some (.int .i64 ((rd_T31 t9 t32).f3.f1))∧w'.cell? ⟨(ad33.add ((t32).toNat*12)).block,(ad33.add ((t32).toNat*12)).off+7,none⟩=some (.int .i64 ((rd_T31 t9 t32).f3.f2))∧w'.cell? ⟨(ad33.add ((t32).toNat*12)).block,(ad33.add ((t32).toNat*12)).off+8,none⟩=some (.int .i64 ((rd_T31 t9 t32).f4.f0))∧w'.cell? ⟨(ad33.add ((t32).toNat*12)).block,(ad33.add ((t32).toNat*12)).off+9,none⟩=some (.int .i64 ((rd_T31 t9 t32).f4.f1))∧w'.cell? ⟨(ad33.add ((t32).toNat*12)).block,(ad33.add ((t32).toNat*12)).off+10,none⟩=some (.int .i64 ((rd_T31 t9 t32).f4.f2))∧w'.cell? ⟨(ad33.add ((t32).toNat*12)).block,(ad33.add ((t32).toNat*12)).off+11,none⟩=some (.int .i64 ((rd_T31 t9 t32).f5))∧w'.cell? (ad33.add ((t32).toNat*12))=some (.string ((rd_T31 t9 t32).f0))∧w'.cell? ⟨(ad33.add ((t32).toNat*12)).block,(ad33.add ((t32).toNat*12)).off+1,none⟩=some (.string ((rd_T31 t9 t32).f1))∧w'.cell? ⟨(ad33.add ((t32).toNat*12)).block,(ad33.add ((t32).toNat*12)).off+2,none⟩=some (.int .i64 ((rd_T31 t9 t32).f2.f0))∧w'.cell? ⟨(ad33.add ((t32).toNat*12)).block,(ad33.add ((t32).toNat*12)).off+3,none⟩=some (.int .i64 ((rd_T31 t9 t32).f2.f1))∧w'.cell? ⟨(ad33.add ((t32).toNat*12)).block,(ad33.add ((t32).toNat*12)).off+4,none⟩=some (.int .i64 ((rd_T31 t9 t32).f2.f2))∧w'.cell? ⟨(ad33.add ((t32).toNat*12)).block,(ad33.add ((t32).toNat*12)).off+5,none⟩=some (.int .i64 ((rd_T31 t9 t32).f3.f0))∧w'.cell? ⟨(ad33.add ((t32).toNat*12)).block,(ad33.add ((t32).toNat*12)).off+6,none⟩=some (.int .i64 ((rd_T31 t9 t32).f3.f1))∧w'.cell? ⟨(ad33.add ((t32).toNat*12)).block,(ad33.add ((t32).toNat*12)).off+7,none⟩=some (.int .i64 ((rd_T31 t9 t32).f3.f2))∧w'.cell? ⟨(ad33.add ((t32).toNat*12)).block,(ad33.add ((t32).toNat*12)).off+8,none⟩=some (.int .i64 ((rd_T31 t9 t32).f4.f0))∧w'.cell? ⟨(ad33.add ((t32).toNat*12)).block,(ad33.add ((t32).toNat*12)).off+9,none⟩=some (.int .i64 ((rd_T31 t9 t32).f4.f1))∧w'.cell? ⟨(ad33.add ((t32).toNat*12)).block,(ad33.add ((t32).toNat*12)).off+10,none⟩=some (.int .i64 ((rd_T31 t9 t32).f4.f2))∧w'.cell? ⟨(ad33.add ((t32).toNat*12)).block,(ad33.add ((t32).toNat*12)).off+11,none⟩=some (.int .i64 ((rd_T31 t9 t32).f5))) (ds:=[]) (bt_ 22 0) (by kernel_rfl) rfl rfl ⟨(blk_cell BK8.out 0).trans rfl,(blk_cell BK8.out 1).trans rfl,(blk_cell BK8.out 2).trans rfl,(blk_cell BK7.out 0).trans rfl,(blk_cell BK7.out 1).trans rfl,(blk_cell BK7.out 2).trans rfl,(blk_cell BK7.out 3).trans rfl,(blk_cell BK7.out 4).trans rfl,(blk_cell BK7.out 5).trans rfl,(blk_cell BK7.out 6).trans rfl,(blk_cell BK7.out 7).trans rfl,(blk_cell BK7.out 8).trans rfl,(blk_cell BK7.out 9).trans rfl,(blk_cell BK7.out 10).trans rfl,(blk_cell BK7.out 11).trans rfl,hx33_0,hx33_1,hx33_2,hx33_3,hx33_4,hx33_5,hx33_6,hx33_7,hx33_8,hx33_9,hx33_10,hx33_11,hx34_0,hx34_1,hx34_2,hx34_3,hx34_4,hx34_5,hx34_6,hx34_7,hx34_8,hx34_9,hx34_10,hx34_11⟩ (fun hHeld=> ?_);refine with_tabW law15_ShapeLimits.tab20 law15_ShapeLimits.bits20 (fun HT_ HW_=> ?_)
                 generalize wc.drew=w95 at HO_10 BK7 BK8 HB hx33_0 hx33_1 hx33_10 hx33_11 hx33_2 hx33_3 hx33_4 hx33_5 hx33_6 hx33_7 hx33_8 hx33_9 hx34_0 hx34_1 hx34_10 hx34_11 hx34_2 hx34_3 hx34_4 hx34_5 hx34_6 hx34_7 hx34_8 hx34_9 hHeld ⊢
                 refine pu_ (i:=0) (N:=some 150) (bt_ 22 1) HT_ ?_
                 refine pu_ (i:=1) (N:=some 151) (bt_ 22 3) HT_ ?_
                 refine pu_ (i:=2) (N:=some 152) (bt_ 22 7) HT_ ?_
                 refine pu_ (i:=3) (N:=some 153) (bt_ 22 15) HT_ ?_
                 refine pu_ (i:=4) (N:=some 154) (bt_ 22 31) HT_ ?_
                 refine pu_ (i:=5) (N:=some 155) (bt_ 22 63) HT_ ?_
                 refine pu_ (i:=6) (N:=some 156) (bt_ 22 127) HT_ ?_
                 refine tk_ (i:=7) (N:=some 157) (bt_ 22 255) HT_ HW_ hHeld ?_
                 refine tk_ (i:=8) (N:=some 158) (bt_ 22 511) HT_ HW_ hHeld ?_
                 refine pu_ (i:=9) (N:=some 159) (bt_ 22 1023) HT_ ?_
                 refine pu_ (i:=10) (N:=some 160) (bt_ 22 2047) HT_ ?_
                 refine pu_ (i:=11) (N:=some 161) (bt_ 22 4095) HT_ ?_
                 refine pu_ (i:=12) (N:=some 162) (bt_ 22 8191) HT_ ?_
                 refine pu_ (i:=13) (N:=some 163) (bt_ 22 16383) HT_ ?_
                 refine pu_ (i:=14) (N:=some 164) (bt_ 22 32767) HT_ ?_
                 refine pu_ (i:=15) (N:=some 165) (bt_ 22 65535) HT_ ?_
                 refine pu_ (i:=17) (N:=some 167) (bt_ 22 196607) HT_ ?_
                 refine tk_ (i:=16) (N:=some 166) (bt_ 22 262143) HT_ HW_ hHeld ?_
                 refine tk_ (i:=18) (N:=some 168) (bt_ 22 524287) HT_ HW_ hHeld ?_
                 refine pu_ (i:=19) (N:=some 169) (bt_ 22 1048575) HT_ ?_
                 refine pu_ (i:=20) (N:=some 170) (bt_ 22 2097151) HT_ ?_
                 refine pu_ (i:=21) (N:=some 171) (bt_ 22 4194303) HT_ ?_
                 refine done_ (done_of HT_.out (by kernel_rfl)) ?_
                 try go_wp2_with (first|((with_reducible refine gate_callee (f:=85) rfl ?_);refine goesL_ (some 172) rfl rfl Try.func85 (by kernel_rfl) rfl #[] rfl zs_ ?_;(with_reducible refine (law15_awake.calls t35 _ A91.out).mono ?_);rintro e w96 ⟨rfl,hb⟩;refine ⟨_,rfl, ?_⟩;have n0_:=am_ (Kd.R_below (zr_ HO_10) hb);have n1_:=am_ (blk_below (zb_ BK7) hb);have n2_:=am_ (blk_below (zb_ BK8) hb);have n3_:=am_ (below_step (zl2_ HB GE7 GE8) hb);clear HO_10;clear BK7;clear BK8;clear HB;have HO_10:=n0_;have BK7:=n1_;have BK8:=n2_;have HB:=n3_;clear n0_ n1_ n2_ n3_;(try clear hb);(try clear hb2);(try clear hk);(try clear hi)))
                 go_ret
                 exact ⟨by first|rfl|(simp [errW_none,errW_some]<;>rfl)|(simp only [←hji13];first|rfl|(simp [errW_none,errW_some]<;>rfl))|(simp [*,errW_none,errW_some]<;>rfl),zl2_ HB GE7 GE8⟩
                ·rw [if_neg c90] at H
                 cases H
              ·rw [if_neg c84] at H
               cases H
             ·rw [if_neg c83] at H
              cases H
           ·rw [if_neg c76] at H
            have c76b0:(t31==0)=false:=beq_eq_false_iff_ne.mpr c76
            have c76b1:(t31 !=0)=true:=bne_iff_ne.mpr c76
            replace H:=Option.bind_eq_some_iff.mp H
            obtain ⟨t36,A1010,H⟩:=H
            replace H:(some t36)=some r:=H
            have A101:=Aside0.mk A1010
            clear A1010
            obtain rfl:=Option.some.inj H
            go_wp2_with (first|((with_reducible refine gate_callee (f:=61) rfl ?_);refine goesL_ (some 144) rfl rfl Try.func61 (by kernel_rfl) rfl #[.int .i64 t12] rfl zs_ ?_;(with_reducible refine (law1_Num.calls t12 t31 _ A75.out).mono ?_);rintro e w' ⟨rfl,⟨nd,rfl⟩⟩;refine ⟨_,rfl, ?_⟩)|((with_reducible refine gate_callee (f:=85) rfl ?_);refine goesL_ (some 172) rfl rfl Try.func85 (by kernel_rfl) rfl #[] rfl zs_ ?_;(with_reducible refine (law15_awake.calls t36 _ A101.out).mono ?_);rintro e w102 ⟨rfl,hb⟩;refine ⟨_,rfl, ?_⟩;have n0_:=am_ (Kd.R_below (zr_ HO_10) hb);have n1_:=am_ (blk_below (zb_ BK7) hb);have n2_:=am_ (blk_below (zb_ BK8) hb);have n3_:=am_ (below_step (zl2_ HB GE7 GE8) hb);clear HO_10;clear BK7;clear BK8;clear HB;have HO_10:=n0_;have BK7:=n1_;have BK8:=n2_;have HB:=n3_;clear n0_ n1_ n2_ n3_;(try clear hb);(try clear hb2);(try clear hk);(try clear hi)))
            go_ret
            exact ⟨by first|rfl|(simp [errW_none,errW_some]<;>rfl)|(simp only [←hji13];first|rfl|(simp [errW_none,errW_some]<;>rfl))|(simp [*,errW_none,errW_some]<;>rfl),zl2_ HB GE7 GE8⟩
    ·rw [if_neg c15] at H
     cases H
   ·rw [if_neg c14] at H
    cases H
def law15_ShapeLimits.Pure:Prop:= ∀(l0:List Int) (a1:Int) (a2:Int),l0.length≤maxLen→l0.length*1≤140737488351232→(∀x∈l0,(Lit.int .u8 x).wf=true)→(Lit.int .u8 a1).wf=true→(Lit.int .u16 a2).wf=true→ ∃k,law15_ShapeLimits.f k l0 a1 a2=some true
theorem law15_ShapeLimits.walk (P:law15_ShapeLimits.Pure) (a0:Option Addr) (len0 cap0:Nat) (z0:List Int) (a1:Int) (a2:Int) (w:World) (w0:(a0=none∧len0=0∧cap0=0∧z0=[])∨ ∃x,a0=some x∧len0≤cap0∧cap0≤maxLen∧z0.length=cap0∧(∀i,i<z0.length→w.cell? (x.add i)=some (.int .u8 (z0.getD i 0)))∧ ∀n∈z0,(Lit.int .u8 n).wf=true) (y0:len0*1≤140737488351232) (w1:(Lit.int .u8 a1).wf=true) (w2:(Lit.int .u16 a2).wf=true):
  Calls Try.prog 23 #[.slice a0 len0 cap0, .int .u8 a1, .int .u16 a2] w fun e w'=>e= .returned (.bool true)∧Below w.heap.size w w':=by
 obtain ⟨l0,rfl,hr0,hm0,hw0,hc0⟩:=ReadsInt.ofRowC w0
 obtain ⟨k,h⟩:=P l0 a1 a2 hm0 y0 hw0 w1 w2
 refine (law15_ShapeLimits.calls k _ _ l0 a1 a2 true w (Kd.C_of_reads (d:=(0:Int)) (h1:=fun _=>rfl) hr0) hc0 h).mono ?_
 rintro e w' ⟨rfl,hd⟩
 exact ⟨rfl,hd⟩

end Go.Proofs.Ytcgefpklljclgaa.Print

namespace Go.Proofs.Ytcgefpklljclgaa.Print
open Go.RowKit Go.Proofs.YtcgefpklljclgaaW.PrintWords Go.Proofs.YtcgefpklljclgaaW.PrintLast
set_option linter.unusedVariables false
set_option linter.unusedSimpArgs false
abbrev Item:=S31
abbrev Vec:=S27
abbrev zItem:Item:=z31
theorem rd_item (l:List Item) (i:Int):rd_T31 l i=l.getD i.toNat zItem:=rfl
instance baLawful:LawfulBEq ByteArray where
 eq_of_beq {a b} h:=by
  obtain ⟨a⟩:=a
  obtain ⟨b⟩:=b
  have:(a==b)=true:=h
  rw [eq_of_beq this]
 rfl {a}:=by
  obtain ⟨a⟩:=a
  show (a==a)=true
  exact beq_self_eq_true a
theorem nm_inj {a b:ByteArray}:a.toList=b.toList↔a=b:=by
  constructor
  · intro h
    rw [ByteArray.toList_eq,ByteArray.toList_eq] at h
    exact ByteArray.ext (Array.toList_inj.1 h)
  · rintro rfl;rfl
theorem nm_beq (a b:ByteArray):(a.toList==b.toList)=decide (a=b):=by
 rw [Bool.eq_iff_iff,beq_iff_eq,nm_inj,decide_eq_true_iff]
theorem nm_empty {a:ByteArray}:a.toList=([]:List UInt8)↔a=⟨#[]⟩:=by
 rw [←nm_inj];rw [show (ByteArray.mk #[]).toList=[] from by rw [ByteArray.toList_eq]]
theorem Ev.const {α:Type} {g:Option α} {r:α} (h:g=some r):Ev (fun _=>g) r:=⟨0,fun _ _=>h⟩
theorem w64 {n:Int} (h0: -9223372036854775808≤n) (h1:n≤9223372036854775807):wrap64 n=n:=by unfold wrap64;omega
def look (l:List Item) (n:ByteArray):Option Item:=l.find? (fun x=>x.f0=n)
def fnd (l:List Item) (n:ByteArray):Int:=fidx (fun x:Item=>x.f0.toList==n.toList) l 0
theorem fidx_none {α:Type} {p:α→Bool}: ∀{l:List α} {i:Int},(∀x∈l,p x=false)→fidx p l i= -1
  |[],_,_=>rfl
  | x :: l, i, h => by
    unfold fidx
    rw [if_neg (by rw [h x (by simp)];simp)]
    exact fidx_none (fun y hy=>h y (by simp [hy]))
theorem fidx_some {α:Type} {p:α→Bool} (z:α): ∀{l:List α} {i:Int} {x:α},l.find? p=some x→ ∃j:Nat,j<l.length∧fidx p l i=i+j∧l.getD j z=x∧p x=true∧ ∀m,m<j→p (l.getD m z)=false
  |[],_,_,h=>by simp at h
  | y :: l, i, x, h => by
    unfold fidx
    by_cases hy:p y=true
    · rw [if_pos hy]
      simp only [List.find?_cons,hy] at h
      obtain rfl:=Option.some.inj h
      exact ⟨0,by simp,by simp,by simp,hy,fun m hm=>by omega⟩
    · rw [if_neg hy]
      have hy':p y=false:=by simpa using hy
      simp only [List.find?_cons,hy'] at h
      obtain ⟨j,hj,h1,h2,h3,h4⟩:=fidx_some z (i:=i+1) h
      refine ⟨j+1,by simp;omega,by rw [h1];omega,by simpa using h2,h3,fun m hm=> ?_⟩
      cases m with
      |zero=>simpa using hy'
      |succ m=>simpa using h4 m (by omega)
theorem look_pred (n:ByteArray):(fun x:Item=>x.f0.toList==n.toList)=(fun x:Item=>decide (x.f0=n)):=by
 funext x;exact nm_beq _ _
theorem look_mem {l:List Item} {n:ByteArray} {x:Item} (h:look l n=some x):x∈l∧x.f0=n:=by
 unfold look at h
 exact ⟨List.mem_of_find?_eq_some h,by simpa using List.find?_some h⟩
theorem look_none {l:List Item} {n:ByteArray}:look l n=none↔ ∀x∈l,x.f0≠n:=by
 unfold look
 simp
theorem fnd_none {l:List Item} {n:ByteArray} (h:look l n=none):fnd l n= -1:=by
 unfold fnd
 refine fidx_none fun x hx=> ?_
 rw [nm_beq]
 simpa using look_none.1 h x hx
theorem fnd_some {l:List Item} {n:ByteArray} {x:Item} (h:look l n=some x): ∃j:Nat,j<l.length∧fnd l n=j∧l.getD j zItem=x∧x.f0=n∧ ∀m,m<j→(l.getD m zItem).f0≠n:=by
 have h':l.find? (fun x:Item=>x.f0.toList==n.toList)=some x:=by rw [look_pred];exact h
 obtain ⟨j,h1,h2,h3,h4,h5⟩:=fidx_some zItem (i:=0) h'
 refine ⟨j,h1,by unfold fnd;rw [h2];omega,h3,by simpa [nm_beq] using h4,fun m hm=> ?_⟩
 simpa [nm_beq] using h5 m hm
theorem fnd_lt (l:List Item) (n:ByteArray):fnd l n<l.length:=by
 cases h:look l n with
 |none=>rw [fnd_none h];omega
 |some x=>obtain ⟨j,h1,h2,_⟩:=fnd_some h;omega
theorem fnd_neg {l:List Item} {n:ByteArray}:fnd l n<0↔look l n=none:=by
 cases h:look l n with
 |none=>rw [fnd_none h];simp
 |some x=>obtain ⟨j,h1,h2,_⟩:=fnd_some h;simp;omega
theorem fnd_ge {l:List Item} {n:ByteArray}:0≤fnd l n↔ ∃x,look l n=some x:=by
 cases h:look l n with
 |none=>rw [fnd_none h];simp
 |some x=>obtain ⟨j,h1,h2,_⟩:=fnd_some h;simp;omega
theorem fnd_rd {l:List Item} {n:ByteArray} {x:Item} (h:look l n=some x):rd_T31 l (fnd l n)=x:=by
 obtain ⟨j,h1,h2,h3,_⟩:=fnd_some h
 rw [rd_item,h2,Int.toNat_natCast];exact h3
inductive Chain (l:List Item):ByteArray→List ByteArray→Prop where
 |nil {n:ByteArray}:look l n=none→Chain l n []
 |cons {n:ByteArray} {x:Item} {us:List ByteArray}:look l n=some x→Chain l x.f1 us→Chain l n (n::us)
def upGo (l:List Item):Nat→ByteArray→List ByteArray
  |0,_=> []
  | m + 1, n => match look l n with
    |none=> []
    |some x=>n::upGo l m x.f1
def up (l:List Item) (n:ByteArray):List ByteArray:=upGo l (l.length+1) n
theorem upGo_none {l:List Item} {n:ByteArray} (h:look l n=none) (m:Nat):upGo l m n=[]:=by
 cases m with
 |zero=>rfl
 |succ m=>unfold upGo;rw [h]
theorem upGo_some {l:List Item} {n:ByteArray} {x:Item} (h:look l n=some x) (m:Nat):upGo l (m+1) n=n::upGo l m x.f1:=by
 rw [upGo.eq_2,h]
theorem Chain.det {l:List Item} {n:ByteArray} {us:List ByteArray} (h:Chain l n us): ∀{vs:List ByteArray},Chain l n vs→us=vs:=by
  induction h with
  | nil h =>
    intro vs k
    cases k with
    |nil _=>rfl
    |cons k _=>rw [h] at k;cases k
  | cons h _ ih =>
    intro vs k
    cases k with
    |nil k=>rw [h] at k;cases k
    | cons k k2 =>
      rw [h] at k
      cases k
      rw [ih k2]
theorem Chain.upGo {l:List Item} {n:ByteArray} {us:List ByteArray} (h:Chain l n us): ∀m,us.length≤m→upGo l m n=us:=by
  induction h with
  |nil h=>intro m _;exact upGo_none h m
  | cons h _ ih =>
    intro m hm
    cases m with
    |zero=>simp at hm
    | succ m =>
      rw [upGo_some h,ih m (by simpa using hm)]
theorem Chain.suffix {l:List Item} {n:ByteArray} {us:List ByteArray} (h:Chain l n us): ∀{m:ByteArray},m∈us→ ∃vs ws,us=ws++vs∧Chain l m vs∧ ∃vt,vs=m::vt:=by
  induction h with
  |nil _=>intro m hm;cases hm
  | @cons n x us h k ih =>
    intro m hm
    rcases List.mem_cons.1 hm with rfl|hm
    · exact ⟨_,[],rfl, .cons h k,_,rfl⟩
    · obtain ⟨vs, ws, e, hc, he⟩ := ih hm
      exact ⟨vs,n::ws,by rw [e];rfl,hc,he⟩
theorem Chain.mem_look {l:List Item} {n:ByteArray} {us:List ByteArray} (h:Chain l n us) {m:ByteArray} (hm:m∈us): ∃x,look l m=some x:=by
 obtain ⟨vs,ws,_,hc,vt,rfl⟩:=h.suffix hm
 cases hc with
 |cons h _=>exact ⟨_,h⟩
theorem Chain.nodup {l:List Item} {n:ByteArray} {us:List ByteArray} (h:Chain l n us):us.Nodup:=by
  induction h with
  |nil _=>simp
  | @cons n x us h k ih =>
    rw [List.nodup_cons]
    refine ⟨fun hm=> ?_,ih⟩
    obtain ⟨vs,ws,e,hc,_⟩:=k.suffix hm
    have:=hc.det (.cons h k)
    rw [this] at e
    have:=congrArg List.length e
    simp at this
    omega
theorem Chain.len {l:List Item} {n:ByteArray} {us:List ByteArray} (h:Chain l n us):us.length≤l.length:=by
 have:=h.nodup.length_le_of_subset (l₂:=l.map (·.f0)) (fun m hm=>by
  obtain ⟨x,hx⟩:=h.mem_look hm
  obtain ⟨h1,rfl⟩:=look_mem hx
  exact List.mem_map_of_mem h1)
 simpa using this
theorem Chain.up {l:List Item} {n:ByteArray} {us:List ByteArray} (h:Chain l n us):up l n=us:=h.upGo _ (by have:=h.len;omega)
def lt (a b:ByteArray):Bool:=Op.bytesLess a.toList b.toList
theorem bl_irrefl: ∀a:List UInt8,Op.bytesLess a a=false
 |[]=>rfl
 |x::a=>by unfold Op.bytesLess;simp [bl_irrefl a]
theorem bl_trans: ∀{a b c:List UInt8},Op.bytesLess a b=true→Op.bytesLess b c=true→Op.bytesLess a c=true
  |[],[],_,h,_=>by simp [Op.bytesLess] at h
  |[],_::_,[],_,k=>by simp [Op.bytesLess] at k
  |[],_::_,_::_,_,_=>by simp [Op.bytesLess]
  |_::_,[],_,h,_=>by simp [Op.bytesLess] at h
  |_::_,_::_,[],_,k=>by simp [Op.bytesLess] at k
  | x :: a, y :: b, z :: c, h, k => by
    simp only [Op.bytesLess,Bool.or_eq_true,Bool.and_eq_true,decide_eq_true_eq,beq_iff_eq] at h k ⊢
    rcases h with h|⟨rfl,h⟩
    · rcases k with k | ⟨rfl, k⟩
      · exact .inl (UInt8.lt_trans h k)
      · exact .inl h
    · rcases k with k | ⟨rfl, k⟩
      · exact .inl k
      · exact .inr ⟨rfl,bl_trans h k⟩
theorem bl_total: ∀{a b:List UInt8},Op.bytesLess a b=false→a≠b→Op.bytesLess b a=true
  |[],[],_,h=>absurd rfl h
  |[],_::_,h,_=>by simp [Op.bytesLess] at h
  |_::_,[],_,_=>by simp [Op.bytesLess]
  | x :: a, y :: b, h, k => by
    simp only [Op.bytesLess,Bool.or_eq_true,Bool.or_eq_false_iff,Bool.and_eq_false_iff,Bool.and_eq_true,decide_eq_true_eq,decide_eq_false_iff_not,beq_iff_eq,beq_eq_false_iff_ne] at h ⊢
    obtain ⟨h1,h2⟩:=h
    by_cases e:x=y
    · subst e
      rcases h2 with h2|h2
      · exact absurd rfl h2
      · exact .inr ⟨rfl,bl_total h2 (fun e=>k (by rw [e]))⟩
    · left
      have h3: ¬x.toNat<y.toNat:=by rwa [←UInt8.lt_iff_toNat_lt]
      have h4:x.toNat≠y.toNat:=fun q=>e (UInt8.toNat_inj.1 q)
      rw [UInt8.lt_iff_toNat_lt];omega
theorem lt_irrefl (a:ByteArray):lt a a=false:=bl_irrefl _
theorem lt_trans {a b c:ByteArray} (h:lt a b=true) (k:lt b c=true):lt a c=true:=bl_trans h k
theorem lt_total {a b:ByteArray} (h:lt a b=false) (k:a≠b):lt b a=true:=bl_total h (fun e=>k (nm_inj.1 e))
theorem lt_ne {a b:ByteArray} (h:lt a b=true):a≠b:=by rintro rfl;rw [lt_irrefl] at h;cases h
inductive Comp where|cpu|mem|pods
def Comp.of:Comp→Vec→Int| .cpu,v=>v.f0| .mem,v=>v.f1| .pods,v=>v.f2
def vadd (a b:Vec):Vec:=⟨a.f0+b.f0,a.f1+b.f1,a.f2+b.f2⟩
theorem of_vadd (c:Comp) (a b:Vec):c.of (vadd a b)=c.of a+c.of b:=by cases c<;>rfl
def MayP (v:Vec):Prop:= ∀c:Comp,0≤c.of v∧c.of v≤1099511627776
def LeP (a b:Vec):Prop:= ∀c:Comp,c.of a≤c.of b
theorem comp_all {p:Comp→Prop}:(∀c,p c)↔p .cpu∧p .mem∧p .pods:=
 ⟨fun h=>⟨h _,h _,h _⟩,fun ⟨a,b,d⟩ c=>by cases c<;>assumption⟩
instance (v:Vec):Decidable (MayP v):=decidable_of_iff _ comp_all.symm
instance (a b:Vec):Decidable (LeP a b):=decidable_of_iff _ comp_all.symm
theorem mayP_iff {a b d:Int}:MayP ⟨a,b,d⟩↔(0≤a∧a≤1099511627776)∧(0≤b∧b≤1099511627776)∧(0≤d∧d≤1099511627776):=comp_all
theorem leP_iff {a b d a' b' d':Int}:LeP ⟨a,b,d⟩ ⟨a',b',d'⟩↔a≤a'∧b≤b'∧d≤d':=comp_all
def sumBy (g:Item→Int) (l:List Item):Int:=(l.map g).sum
theorem sumBy_nil (g:Item→Int):sumBy g []=0:=rfl
theorem sumBy_cons (g:Item→Int) (x:Item) (l:List Item):sumBy g (x::l)=g x+sumBy g l:=by simp [sumBy]
theorem sumBy_append (g:Item→Int) (l m:List Item):sumBy g (l++m)=sumBy g l+sumBy g m:=by simp [sumBy]
theorem sumBy_congr {g h:Item→Int}: ∀{l:List Item},(∀x∈l,g x=h x)→sumBy g l=sumBy h l
 |[],_=>rfl
 |x::l,e=>by rw [sumBy_cons,sumBy_cons,e x (by simp),sumBy_congr (fun y hy=>e y (by simp [hy]))]
theorem sumBy_add (g h:Item→Int): ∀l:List Item,sumBy (fun x=>g x+h x) l=sumBy g l+sumBy h l
 |[]=>rfl
 |x::l=>by rw [sumBy_cons,sumBy_cons,sumBy_cons,sumBy_add g h l];omega
theorem sumBy_map (g:Item→Int) (f:Item→Item): ∀l:List Item,sumBy g (l.map f)=sumBy (fun x=>g (f x)) l
 |[]=>rfl
 |x::l=>by rw [List.map_cons,sumBy_cons,sumBy_cons,sumBy_map g f l]
theorem sumBy_zero {g:Item→Int}: ∀{l:List Item},(∀x∈l,g x=0)→sumBy g l=0
 |[],_=>rfl
 |x::l,e=>by rw [sumBy_cons,e x (by simp),sumBy_zero (fun y hy=>e y (by simp [hy]))];rfl
theorem sumBy_nonneg {g:Item→Int}: ∀{l:List Item},(∀x∈l,0≤g x)→0≤sumBy g l
 |[],_=>by simp [sumBy_nil]
 |x::l,e=>by rw [sumBy_cons];have:=e x (by simp);have:=sumBy_nonneg (l:=l) (fun y hy=>e y (by simp [hy]));omega
theorem sumBy_one {v:Int} {l:List Item} (hn:(l.map (·.f0)).Nodup) {x:Item} (hx:x∈l):sumBy (fun y=>if y.f0=x.f0 then v else 0) l=v:=by
  induction l with
  |nil=>cases hx
  | cons y l ih =>
    rw [List.map_cons,List.nodup_cons] at hn
    rw [sumBy_cons]
    rcases List.mem_cons.1 hx with rfl|hx
    · rw [if_pos rfl,sumBy_zero (fun z hz=>if_neg (fun e=>hn.1 (by rw [←e];exact List.mem_map_of_mem hz)))];omega
    · rw [if_neg (fun e=>hn.1 (by rw [e];exact List.mem_map_of_mem hx)),ih hn.2 hx];omega
def csum (c:Comp) (l:List Item) (n:ByteArray):Int:=sumBy (fun y=>if y.f1=n then c.of y.f4 else 0) l
structure ItemOK (x:Item):Prop where
 name:x.f0≠⟨#[]⟩
 size:x.f0.size≤24
 lim:MayP x.f2
 own:MayP x.f3
 sub:MayP x.f4
 fit:LeP x.f4 x.f2
 ver:1≤x.f5∧x.f5≤9007199254740992
structure RightP (l:List Item):Prop where
 len:l.length≤120
 ok: ∀x∈l,ItemOK x
 sorted:l.Pairwise (fun x y=>lt x.f0 y.f0=true)
 par: ∀x∈l,x.f1=⟨#[]⟩∨ ∃y,look l x.f1=some y
 sum: ∀c:Comp,∀x∈l,c.of x.f4=c.of x.f3+csum c l x.f0
 chain: ∀x∈l,∃us,Chain l x.f0 us
theorem sorted_nodup {l:List Item} (h:l.Pairwise (fun x y=>lt x.f0 y.f0=true)):(l.map (·.f0)).Nodup:=by
 rw [List.Nodup,List.pairwise_map]
 exact h.imp (fun hxy=>lt_ne hxy)
theorem RightP.nodup {l:List Item} (h:RightP l):(l.map (·.f0)).Nodup:=sorted_nodup h.sorted
theorem look_of_mem {l:List Item} (hn:(l.map (·.f0)).Nodup) {x:Item} (hx:x∈l):look l x.f0=some x:=by
  induction l with
  |nil=>cases hx
  | cons y l ih =>
    rw [List.map_cons,List.nodup_cons] at hn
    unfold look
    rw [List.find?_cons]
    rcases List.mem_cons.1 hx with rfl|hx
    · simp
    · have : y.f0 ≠ x.f0 := fun e => hn.1 (by rw [e]; exact List.mem_map_of_mem hx)
      simp only [this,decide_false]
      exact ih hn.2 hx
theorem RightP.look {l:List Item} (h:RightP l) {x:Item} (hx:x∈l):look l x.f0=some x:=look_of_mem h.nodup hx
theorem RightP.chainAll {l:List Item} (h:RightP l) (n:ByteArray):Chain l n (up l n):=by
  cases hl:Print.look l n with
  |none=>have c:=Chain.nil hl;rw [c.up];exact c
  | some x =>
    obtain ⟨hx,rfl⟩:=look_mem hl
    obtain ⟨us,c⟩:=h.chain x hx
    rw [c.up];exact c
theorem right_nil:RightP []:=⟨by simp,by simp,by simp,by simp,by simp,by simp⟩
theorem RightP.eq_of {l:List Item} (h:RightP l) {x y:Item} (hx:x∈l) (hy:y∈l) (e:x.f0=y.f0):x=y:=by
 have h1:=h.look hx
 rw [e,h.look hy] at h1
 exact (Option.some.inj h1).symm
theorem look_map {f:Item→Item} (hf: ∀x,(f x).f0=x.f0) (l:List Item) (n:ByteArray):look (l.map f) n=(look l n).map f:=by
 unfold look
 rw [List.find?_map]
 congr 2
 funext x
 simp [hf]
theorem Chain.map {f:Item→Item} (hf: ∀x,(f x).f0=x.f0) (hp: ∀x,(f x).f1=x.f1) {l:List Item} {n:ByteArray} {us:List ByteArray} (h:Chain l n us):Chain (l.map f) n us:=by
 induction h with
 |nil h=>exact .nil (by rw [look_map hf,h];rfl)
 |@cons n x us h k ih=>exact .cons (x:=f x) (by rw [look_map hf,h];rfl) (by rw [hp];exact ih)
theorem up_self {l:List Item} {n:ByteArray} {x:Item} (h:look l n=some x):n∈up l n:=by
 unfold up
 rw [upGo_some h]
 simp
theorem chain_kids {l:List Item} (hl:RightP l) {n:ByteArray} {us:List ByteArray} (h:Chain l n us) (v:Int) {x:Item} (hx:x∈l):
    sumBy (fun y=>if y.f1=x.f0∧y.f0∈us then v else 0) l=if x.f0∈us∧x.f0≠n then v else 0:=by
  induction h with
  |nil _=>rw [sumBy_zero (fun y _=>by simp)];simp
  | @cons n z us h k ih =>
    obtain ⟨hz,rfl⟩:=look_mem h
    have hnd:=(Chain.cons h k).nodup
    rw [List.nodup_cons] at hnd
    have e:sumBy (fun y=>if y.f1=x.f0∧y.f0∈z.f0::us then v else 0) l=sumBy (fun y=>(if y.f0=z.f0 then (if z.f1=x.f0 then v else 0) else 0)+(if y.f1=x.f0∧y.f0∈us then v else 0)) l:=by
      refine sumBy_congr fun y hy=> ?_
      by_cases e1:y.f0=z.f0
      · have := hl.eq_of hy hz e1
        subst this
        by_cases e2:y.f1=x.f0<;>simp [e2,hnd.1]
      · simp [e1]
    rw [e,sumBy_add,ih,sumBy_one hl.nodup hz]
    by_cases e2:z.f1=x.f0
    · have hm:x.f0∈us:=by
        rw [e2] at k
        cases k with
        |nil k=>rw [hl.look hx] at k;cases k
        |cons _ _=>simp
      have hne:x.f0≠z.f0:=fun q=>hnd.1 (by rw [←q];exact hm)
      simp [e2,hm,hne]
    · by_cases e3 : x.f0 = z.f0
      · simp [e2, e3, hnd.1]
        exact fun q=>absurd (q.trans e3.symm) e2
      · have e4 : x.f0 ≠ z.f1 := fun q => e2 q.symm
        simp [e2,e3,e4]
def admF (us:List ByteArray) (n:ByteArray) (v:Vec) (x:Item):Item:=⟨x.f0,x.f1,x.f2,if x.f0=n then vadd x.f3 v else x.f3,if x.f0∈us then vadd x.f4 v else x.f4,x.f5⟩
def admL (l:List Item) (n:ByteArray) (v:Vec):List Item:=l.map (admF (up l n) n v)
theorem csum_adm {l:List Item} (hl:RightP l) (c:Comp) (n:ByteArray) (v:Vec) {x:Item} (hx:x∈l):
  csum c (admL l n v) x.f0=csum c l x.f0+if x.f0∈up l n∧x.f0≠n then c.of v else 0:=by
 unfold csum admL
 rw [sumBy_map,←chain_kids hl (hl.chainAll n) (c.of v) hx,←sumBy_add]
 refine sumBy_congr fun y hy=> ?_
 simp only [admF]
 by_cases e1:y.f1=x.f0<;>by_cases e2:y.f0∈up l n<;>simp [e1,e2,of_vadd]
theorem adm_right {l:List Item} (hl:RightP l) {n:ByteArray} (v:Vec) (hin: ∃x,look l n=some x)
    (hown: ∀x∈l,x.f0=n→MayP (vadd x.f3 v)) (hsub: ∀x∈l,x.f0∈up l n→MayP (vadd x.f4 v)) (hfit: ∀x∈l,x.f0∈up l n→LeP (vadd x.f4 v) x.f2):RightP (admL l n v) where
  len:=by unfold admL;rw [List.length_map];exact hl.len
  ok:=by
    intro y hy
    obtain ⟨x,hx,rfl⟩:=List.mem_map.1 hy
    have k:=hl.ok x hx
    refine ⟨k.name,k.size,k.lim, ?_, ?_, ?_,k.ver⟩
    · show MayP (if x.f0 = n then vadd x.f3 v else x.f3)
      split
      · exact hown x hx (by assumption)
      · exact k.own
    · show MayP (if x.f0 ∈ up l n then vadd x.f4 v else x.f4)
      split
      · exact hsub x hx (by assumption)
      · exact k.sub
    · show LeP (if x.f0 ∈ up l n then vadd x.f4 v else x.f4) x.f2
      split
      · exact hfit x hx (by assumption)
      · exact k.fit
  sorted:=by
    unfold admL
    rw [List.pairwise_map]
    exact hl.sorted
  par:=by
    intro y hy
    obtain ⟨x,hx,rfl⟩:=List.mem_map.1 hy
    rcases hl.par x hx with h|⟨z,h⟩
    · exact .inl h
    · exact .inr ⟨_,by unfold admL;rw [look_map (f:=admF (up l n) n v) (fun _=>rfl)];show (look l x.f1).map _=_;rw [h];rfl⟩
  sum:=by
    intro c y hy
    obtain ⟨x,hx,rfl⟩:=List.mem_map.1 hy
    show c.of (if x.f0∈up l n then vadd x.f4 v else x.f4)=c.of (if x.f0=n then vadd x.f3 v else x.f3)+csum c (admL l n v) x.f0
    rw [csum_adm hl c n v hx]
    have hs:=hl.sum c x hx
    by_cases e:x.f0=n
    · have hm:x.f0∈up l n:=by
        obtain ⟨z,hz⟩:=hin
        rw [e];exact up_self hz
      simp [e] at hm ⊢
      rw [if_pos hm,of_vadd,of_vadd,hs,e];omega
    · by_cases hm : x.f0 ∈ up l n
      · simp [e,hm,of_vadd];omega
      · simp [e,hm];omega
  chain:=by
    intro y hy
    obtain ⟨x,hx,rfl⟩:=List.mem_map.1 hy
    obtain ⟨us,h⟩:=hl.chain x hx
    exact ⟨us,h.map (f:=admF (up l n) n v) (fun _=>rfl) (fun _=>rfl)⟩
def insL (l:List Item) (it:Item):List Item:=l.takeWhile (fun x=>lt x.f0 it.f0)++it::l.dropWhile (fun x=>lt x.f0 it.f0)
theorem look_ins (a b:List Item) (it:Item) (n:ByteArray) (h:look (a++b) it.f0=none):look (a++it::b) n=if n=it.f0 then some it else look (a++b) n:=by
  unfold look at h ⊢
  rw [List.find?_append] at h ⊢
  rw [List.find?_append,List.find?_cons]
  by_cases e:it.f0=n
  · subst e
    cases ha:a.find? (fun x=>decide (x.f0=it.f0)) with
    |some y=>rw [ha] at h;simp at h
    |none=>simp
  · have e' : n ≠ it.f0 := fun q => e q.symm
    simp [e,e']
theorem insL_eq (l:List Item) (it:Item): ∃a b,l=a++b∧insL l it=a++it::b∧(∀x∈a,lt x.f0 it.f0=true)∧(∀x t,b=x::t→lt x.f0 it.f0=false):=by
  refine ⟨l.takeWhile (fun x=>lt x.f0 it.f0),l.dropWhile (fun x=>lt x.f0 it.f0),(List.takeWhile_append_dropWhile).symm,rfl,fun x hx=> ?_,fun x t e=> ?_⟩
  · exact List.all_eq_true.1 (List.all_takeWhile (p:=fun x:Item=>lt x.f0 it.f0) (l:=l)) x hx
  · have := List.head?_dropWhile_not (fun x : Item => lt x.f0 it.f0) l
    rw [e] at this
    simpa using this
theorem csum_ins (c:Comp) (a b:List Item) (it:Item) (n:ByteArray):csum c (a++it::b) n=csum c (a++b) n+if it.f1=n then c.of it.f4 else 0:=by
 unfold csum
 rw [sumBy_append,sumBy_append,sumBy_cons];omega
theorem ins_right {l:List Item} (hl:RightP l) {it:Item} (hi:ItemOK it) (h0: ∀c:Comp,c.of it.f3=0∧c.of it.f4=0) (hn:look l it.f0=none)
    (hp:it.f1=⟨#[]⟩∨ ∃y,look l it.f1=some y) (hlen:l.length<120):RightP (insL l it):=by
  obtain ⟨a,b,e,e',ha,hb⟩:=insL_eq l it
  rw [e']
  subst e
  have hlk:=fun n=>look_ins a b it n hn
  have hmem: ∀x,x∈a++it::b↔x=it∨x∈a++b:=fun x=>by simp;constructor<;>(intro h;rcases h with h|h|h<;>simp [h])
  have hnew: ∀m y,look (a++b) m=some y→m≠it.f0:=fun m y h q=>by rw [q,hn] at h;cases h
  have hne:it.f0≠⟨#[]⟩:=hi.name
  have hpar: ∀x∈a++b,x.f1≠it.f0:=fun x hx q=>by
    rcases hl.par x hx with h|⟨y,h⟩
    · exact hne (q.symm.trans h)
    · exact hnew _ _ h q
  have hch: ∀{n us},Chain (a++b) n us→n≠it.f0→Chain (a++it::b) n us:=by
    intro n us h
    induction h with
    |nil h=>intro q;exact .nil (by rw [hlk,if_neg q];exact h)
    | @cons n x us h k ih =>
      intro q
      exact .cons (x:=x) (by rw [hlk,if_neg q];exact h) (ih (hpar x (look_mem h).1))
  have hip:it.f1≠it.f0:=by
    rcases hp with h|⟨y,h⟩
    · rw [h];exact fun q=>hne q.symm
    · exact hnew _ _ h
  refine ⟨?_, ?_, ?_, ?_, ?_, ?_⟩
  · simp at hlen ⊢;omega
  · intro x hx
    rcases (hmem x).1 hx with rfl|hx
    · exact hi
    · exact hl.ok x hx
  · have hs := hl.sorted
    rw [List.pairwise_append] at hs ⊢
    obtain ⟨h1,h2,h3⟩:=hs
    have hbx: ∀y∈b,lt it.f0 y.f0=true:=by
      intro y hy
      cases b with
      |nil=>cases hy
      | cons x t =>
        have hx:lt it.f0 x.f0=true:=lt_total (hb x t rfl) (fun q=>look_none.1 hn x (by simp) q)
        rcases List.mem_cons.1 hy with rfl|hy
        · exact hx
        · exact lt_trans hx ((List.pairwise_cons.1 h2).1 y hy)
    refine ⟨h1,List.pairwise_cons.2 ⟨hbx,h2⟩,fun x hx y hy=> ?_⟩
    rcases List.mem_cons.1 hy with rfl|hy
    · exact ha x hx
    · exact h3 x hx y hy
  · intro x hx
    rcases (hmem x).1 hx with rfl|hx
    · rcases hp with h | ⟨y, h⟩
      · exact .inl h
      · exact .inr ⟨y,by rw [hlk,if_neg hip];exact h⟩
    · rcases hl.par x hx with h | ⟨y, h⟩
      · exact .inl h
      · exact .inr ⟨y,by rw [hlk,if_neg (hpar x hx)];exact h⟩
  · intro c x hx
    rw [csum_ins,(h0 c).2,ite_self,Int.add_zero]
    rcases (hmem x).1 hx with rfl|hx
    · rw [(h0 c).1, (h0 c).2]
      unfold csum
      rw [sumBy_zero (fun y hy=>if_neg (hpar y hy))];rfl
    · exact hl.sum c x hx
  · intro x hx
    rcases (hmem x).1 hx with rfl|hx
    · have := hch (hl.chainAll x.f1) hip
      exact ⟨_, .cons (x:=x) (by rw [hlk,if_pos rfl]) this⟩
    · obtain ⟨us, h⟩ := hl.chain x hx
      exact ⟨us,hch h (fun q=>look_none.1 hn x hx q)⟩
theorem ite_iff {α:Type} {p q:Prop} [Decidable p] [Decidable q] (h:p↔q) {a b:α}:(if p then a else b)=if q then a else b:=by
  by_cases hp:p
  · rw [if_pos hp,if_pos (h.1 hp)]
  · rw [if_neg hp,if_neg (fun k=>hp (h.2 k))]
theorem r10_Le_eq (a b d a' b' d':Int):r10_Le.f a b d a' b' d'=some (decide (LeP ⟨a,b,d⟩ ⟨a',b',d'⟩)):=by
 unfold r10_Le.f
 by_cases h0:a≤a'<;>by_cases h1:b≤b'<;>simp [h0,h1,leP_iff]
theorem r10_unit_eq (a:Int):r10_unit.f a=some (decide (0≤a∧a≤1099511627776)):=by
  unfold r10_unit.f
  by_cases h0:0≤a
  · rw [if_pos (by omega)];simp [h0]
  · rw [if_neg (by omega)];simp [h0]
theorem r10_MayVec_eq (a b d:Int):r10_MayVec.f a b d=some (decide (MayP ⟨a,b,d⟩)):=by
 unfold r10_MayVec.f
 simp only [r10_unit_eq,Option.bind_some]
 by_cases h0:0≤a∧a≤1099511627776<;>by_cases h1:0≤b∧b≤1099511627776<;>simp [h0,h1,mayP_iff]
theorem r10_MayName_eq (n:ByteArray):r10_MayName.f n=some (decide (n≠⟨#[]⟩∧n.size≤24)):=by
  unfold r10_MayName.f
  by_cases h:n=⟨#[]⟩
  · rw [if_pos (nm_empty.2 h)];simp [h]
  · rw [if_neg (fun q=>h (nm_empty.1 q))];simp [h];omega
theorem r10_copied_eq (l:List Item) (h:l.length<1000000):r10_copied.f l=some l:=by
 unfold r10_copied.f
 simp only [Option.bind_some,List.length_nil,List.nil_append]
 rw [if_pos (by omega)]
theorem r10_Find_l0 (l:List Item) (n:ByteArray) (hl:l.length<1000000): ∀(d i:Nat),l.length - i=d→i≤l.length→
    Ev (fun k=>r10_Find.l0 k l n i) (fidx (fun x:Item=>x.f0.toList==n.toList) (l.drop i) i)
  | 0, i, hd, hi => by
    obtain rfl:i=l.length:=by omega
    refine Ev.step (f:=fun _=>some (-1)) (fun k=> ?_) (by rw [List.drop_length];exact Ev.now _)
    simp only [r10_Find.l0]
    rw [if_neg (by omega)]
  | d + 1, i, hd, hi => by
    have hlt:i<l.length:=by omega
    rw [fidx_drop _ zItem l i hlt]
    have hrd:rd_T31 l (i:Int)=l.getD i zItem:=by rw [rd_item,Int.toNat_natCast]
    by_cases e:(l.getD i zItem).f0.toList=n.toList
    · rw [if_pos (beq_iff_eq.2 e)]
      refine Ev.step (f:=fun _=>some (i:Int)) (fun k=> ?_) (Ev.now _)
      simp only [r10_Find.l0]
      rw [if_pos (by omega),if_pos (by omega),hrd,if_pos e]
    · rw [if_neg (fun q => e (beq_iff_eq.1 q))]
      refine Ev.step (f:=fun k=>r10_Find.l0 k l n ((i+1:Nat):Int)) (fun k=> ?_) (r10_Find_l0 l n hl d (i+1) (by omega) (by omega))
      simp only [r10_Find.l0]
      rw [if_pos (by omega),if_pos (by omega),hrd,if_neg e,w64 (by omega) (by omega)]
      rfl
theorem r10_Find_ev (l:List Item) (n:ByteArray) (hl:l.length<1000000):Ev (fun k=>r10_Find.f k l n) (fnd l n):=r10_Find_l0 l n hl _ 0 rfl (by omega)
theorem r10_Up_l0 (l:List Item) (hl:l.length<1000000): ∀(m:Nat) (n:ByteArray) (out:List ByteArray),out.length+m=l.length+1→
    Ev (fun k=>r10_Up.l0 k l out (fnd l n)) (out++upGo l m n)
  | 0, n, out, hm => by
    rw [upGo.eq_1,List.append_nil]
    refine Ev.step (f:=fun _=>some out) (fun k=> ?_) (Ev.now _)
    simp only [r10_Up.l0]
    by_cases h:0≤fnd l n
    · rw [if_pos h,if_neg (by omega)]
    · rw [if_neg h]
  | m + 1, n, out, hm => by
    cases h:look l n with
    | none =>
      rw [upGo_none h,List.append_nil]
      refine Ev.step (f:=fun _=>some out) (fun k=> ?_) (Ev.now _)
      simp only [r10_Up.l0]
      rw [fnd_none h,if_neg (by omega)]
    | some x =>
      rw [upGo_some h]
      have h0:=fnd_ge.2 ⟨x,h⟩
      have h1:=fnd_lt l n
      obtain ⟨hx,hn⟩:=look_mem h
      refine Ev.step (f:=fun k=>(r10_Find.f k l x.f1).bind fun t=>r10_Up.l0 k l (out++ [n]) t) (fun k=> ?_) (Ev.bind (r10_Find_ev l x.f1 hl) ?_)
      · simp only [r10_Up.l0]
        rw [if_pos h0,if_pos (by omega),if_pos h0,if_pos h1,if_pos (by omega),fnd_rd h,hn]
      · have := r10_Up_l0 l hl m x.f1 (out ++ [n]) (by simp; omega)
        simpa using this
theorem r10_Up_ev (l:List Item) (n:ByteArray) (hl:l.length<1000000):Ev (fun k=>r10_Up.f k l n) (up l n):=
 Ev.bind (r10_Find_ev l n hl) (by have:=r10_Up_l0 l hl (l.length+1) n [] (by simp);rw [List.nil_append] at this;exact this)
theorem set_at {l:List Item} (hn:(l.map (·.f0)).Nodup) {n:ByteArray} {x:Item} (h:look l n=some x) (y:Item):
    l.set (fnd l n).toNat y=l.map (fun z=>if z.f0=n then y else z):=by
  obtain ⟨j,h1,h2,h3,h4,h5⟩:=fnd_some h
  rw [h2,Int.toNat_natCast]
  have hx:l[j]=x:=by rw [←h3];simp [h1]
  apply List.ext_getElem (by simp)
  intro m hm hm'
  simp only [List.length_set] at hm
  rw [List.getElem_set,List.getElem_map]
  by_cases e:j=m
  · subst e
    rw [if_pos rfl,if_pos (by rw [hx];exact h4)]
  · rw [if_neg e, if_neg]
    intro q
    have h6:(l.map (·.f0))[j]'(by simpa using h1)=(l.map (·.f0))[m]'(by simpa using hm):=by simp [hx,h4,q]
    exact e ((List.getElem_inj hn).1 h6)
theorem fnd_map {f:Item→Item} (hf: ∀x,(f x).f0=x.f0) (l:List Item) (n:ByteArray):fnd (l.map f) n=fnd l n:=by
 have: ∀(l:List Item) (i:Int),fidx (fun x:Item=>x.f0.toList==n.toList) (l.map f) i=fidx (fun x:Item=>x.f0.toList==n.toList) l i:=by
  intro l
  induction l with
  |nil=>intro i;rfl
  |cons x l ih=>intro i;simp only [List.map_cons,fidx,hf,ih]
 exact this l 0
def admS (us:List ByteArray) (v:Vec) (x:Item):Item:=⟨x.f0,x.f1,x.f2,x.f3,if x.f0∈us then vadd x.f4 v else x.f4,x.f5⟩
def admR (l:List Item) (n:ByteArray) (v:Vec):List Item×Int:=
 if¬MayP v then ([],1) else if (look l n).isNone=true then ([],2) else if∀x∈l,x.f0∈up l n→LeP (vadd x.f4 v) x.f2 then (admL l n v,0) else ([],12)
theorem vadd_wrap {a b:Vec} (ha:MayP a) (hb:MayP b):(wrap64 (a.f0+b.f0),wrap64 (a.f1+b.f1),wrap64 (a.f2+b.f2))=((vadd a b).f0,(vadd a b).f1,(vadd a b).f2):=by
 have a0:=ha .cpu;have a1:=ha .mem;have a2:=ha .pods
 have b0:=hb .cpu;have b1:=hb .mem;have b2:=hb .pods
 simp only [Comp.of] at a0 a1 a2 b0 b1 b2
 rw [w64 (by omega) (by omega),w64 (by omega) (by omega),w64 (by omega) (by omega)]
 rfl
theorem r10_Add_eq {a b:Vec} (ha:MayP a) (hb:MayP b):r10_Add.f a.f0 a.f1 a.f2 b.f0 b.f1 b.f2=some ((vadd a b).f0,(vadd a b).f1,(vadd a b).f2):=by
 unfold r10_Add.f;rw [vadd_wrap ha hb]
theorem look_admS (us:List ByteArray) (v:Vec) (l:List Item) (n:ByteArray):look (l.map (admS us v)) n=(look l n).map (admS us v):=look_map (f:=admS us v) (fun _=>rfl) l n
theorem drop_cons {us:List ByteArray} {i:Nat} (h:i<us.length):us.drop i=rdOf ByteArray.empty us i::us.drop (i+1):=by
 rw [List.drop_eq_getElem_cons h];simp [rdOf,h]
theorem take_snoc_ {us:List ByteArray} {i:Nat} (h:i<us.length):us.take (i+1)=us.take i++ [rdOf ByteArray.empty us i]:=by
 rw [List.take_succ_eq_append_getElem h];simp [rdOf,h]
theorem fnd_admS (us:List ByteArray) (v:Vec) (l:List Item) (n:ByteArray):fnd (l.map (admS us v)) n=fnd l n:=fnd_map (f:=admS us v) (fun _=>rfl) l n
theorem nodup_admS {us:List ByteArray} {v:Vec} {l:List Item} (h:(l.map (·.f0)).Nodup):((l.map (admS us v)).map (·.f0)).Nodup:=by
 rw [List.map_map];exact h
theorem r10_Admit_l0 {l:List Item} (hl:RightP l) (n:ByteArray) {v:Vec} (hv:MayP v) (hin: ∃x,look l n=some x): ∀(d i:Nat),(up l n).length - i=d→i≤(up l n).length→
    Ev (fun k=>r10_Admit.l0 k n (up l n) (l.map (admS ((up l n).take i) v)) i v.f0 v.f1 v.f2) (if∀x∈l,x.f0∈(up l n).drop i→LeP (vadd x.f4 v) x.f2 then (admL l n v,0) else ([],12))
  | 0, i, hd, hi => by
    obtain rfl:i=(up l n).length:=by omega
    rw [List.drop_length,List.take_length,if_pos (by simp)]
    obtain ⟨x,hx⟩:=hin
    obtain ⟨hm,hxn⟩:=look_mem hx
    have hlk:look (l.map (admS (up l n) v)) n=some (admS (up l n) v x):=by rw [look_admS,hx];rfl
    have h0:0≤fnd l n:=fnd_ge.2 ⟨x,hx⟩
    have h1:fnd l n<l.length:=fnd_lt l n
    obtain ⟨K,hK⟩:=r10_Find_ev (l.map (admS (up l n) v)) n (by rw [List.length_map];have:=hl.len;omega)
    dsimp only at hK
    refine ⟨K+1,fun k hk=> ?_⟩
    obtain ⟨k,rfl⟩: ∃m,k=m+1:=⟨k - 1,by omega⟩
    have hrd:=fnd_rd hlk
    rw [fnd_admS] at hrd
    simp only [r10_Admit.l0]
    rw [if_neg (by omega),hK k (by omega),fnd_admS]
    simp only [Option.bind_some]
    rw [if_pos h0,if_pos (by rw [List.length_map];omega),hrd,r10_Add_eq (a:=(admS (up l n) v x).f3) (hl.ok x hm).own hv]
    simp only [Option.bind_some]
    have hset:=set_at (nodup_admS (us:=up l n) (v:=v) hl.nodup) hlk
    rw [fnd_admS] at hset
    rw [hset,List.map_map]
    congr 2
    unfold admL
    refine List.map_congr_left fun z hz=> ?_
    simp only [Function.comp,admF]
    by_cases e:z.f0=n
    · obtain rfl : z = x := hl.eq_of hz hm (e.trans hxn.symm)
      rw [if_pos (by exact e),if_pos e]
      rfl
    · rw [if_neg (by exact e), if_neg e]
      rfl
  | d + 1, i, hd, hi => by
    have hlt:i<(up l n).length:=by omega
    have hc:=hl.chainAll n
    have hnd:=hc.nodup
    rw [drop_cons hlt]
    have hu:rdOf ByteArray.empty (up l n) i∈up l n:=by simp [rdOf,hlt]
    obtain ⟨x,hx⟩:=hc.mem_look hu
    obtain ⟨hm,hxn⟩:=look_mem hx
    have hnot:x.f0 ∉ (up l n).take i:=by
      rw [hxn]
      rw [←List.take_append_drop i (up l n),drop_cons hlt,List.nodup_append] at hnd
      exact fun q=>hnd.2.2 _ q _ (by simp) rfl
    generalize hU:rdOf ByteArray.empty (up l n) i=u at*
    have hlk:look (l.map (admS ((up l n).take i) v)) u=some (admS ((up l n).take i) v x):=by rw [look_admS,hx];rfl
    have hsame:admS ((up l n).take i) v x=x:=by unfold admS;rw [if_neg hnot]
    rw [hsame] at hlk
    have h0:0≤fnd l u:=fnd_ge.2 ⟨x,hx⟩
    have h1:fnd l u<l.length:=fnd_lt l u
    have hrd:=fnd_rd hlk
    have hset:=set_at (nodup_admS (us:=(up l n).take i) (v:=v) hl.nodup) hlk
    rw [fnd_admS] at hrd
    rw [fnd_admS] at hset
    obtain ⟨K,hK⟩:=r10_Find_ev (l.map (admS ((up l n).take i) v)) u (by rw [List.length_map];have:=hl.len;omega)
    obtain ⟨K',hK'⟩:=r10_Admit_l0 hl n hv hin d (i+1) (by omega) (by omega)
    dsimp only at hK hK'
    refine ⟨K+K'+1,fun k hk=> ?_⟩
    obtain ⟨k,rfl⟩: ∃m,k=m+1:=⟨k - 1,by omega⟩
    have hup:(up l n).length≤l.length:=hc.len
    have hlen:=hl.len
    simp only [r10_Admit.l0]
    rw [if_pos (by omega),if_pos (by omega),hU,hK k (by omega),fnd_admS]
    simp only [Option.bind_some]
    rw [if_pos h0,if_pos (by rw [List.length_map];omega),hrd,r10_Add_eq (a:=x.f4) (hl.ok x hm).sub hv]
    simp only [Option.bind_some]
    rw [hset,List.map_map]
    have hnew:(l.map ((fun z:Item=>if z.f0=u then (⟨x.f0,x.f1,⟨x.f2.f0,x.f2.f1,x.f2.f2⟩,⟨x.f3.f0,x.f3.f1,x.f3.f2⟩,⟨(vadd x.f4 v).f0,(vadd x.f4 v).f1,(vadd x.f4 v).f2⟩,x.f5⟩:Item) else z) ∘ admS ((up l n).take i) v))=l.map (admS ((up l n).take (i+1)) v):=by
      refine List.map_congr_left fun z hz=> ?_
      simp only [Function.comp]
      rw [take_snoc_ hlt,hU]
      by_cases e:z.f0=u
      · obtain rfl : z = x := hl.eq_of hz hm (e.trans hxn.symm)
        rw [if_pos (by exact e)]
        unfold admS
        rw [if_pos (by simp [e])]
      · rw [if_neg (by exact e)]
        unfold admS
        simp [e]
    rw [hnew]
    have hlk2:look (l.map (admS ((up l n).take (i+1)) v)) u=some (admS ((up l n).take (i+1)) v x):=by rw [look_admS,hx];rfl
    have hrd2:=fnd_rd hlk2
    rw [fnd_admS] at hrd2
    have hx2:admS ((up l n).take (i+1)) v x=⟨x.f0,x.f1,x.f2,x.f3,vadd x.f4 v,x.f5⟩:=by unfold admS;rw [if_pos (by rw [take_snoc_ hlt,hU,hxn];simp)]
    rw [hrd2,hx2,r10_Le_eq]
    simp only [Option.bind_some]
    by_cases hfit:LeP (vadd x.f4 v) x.f2
    · rw [if_pos (by exact decide_eq_true hfit), w64 (by omega) (by omega)]
      have h2:=hK' k (by omega)
      rw [show ((i:Int)+1)=((i+1:Nat):Int) from by omega,h2]
      congr 1
      refine ite_iff ⟨fun q z hz hzm=> ?_,fun q z hz hzm=>q z hz (by simp [hzm])⟩
      rcases List.mem_cons.1 hzm with e|hzm
      · obtain rfl : z = x := hl.eq_of hz hm (e.trans hxn.symm)
        exact hfit
      · exact q z hz hzm
    · rw [if_neg (by simpa using hfit), if_neg (fun q => hfit (q x hm (by rw [hxn]; simp)))]
      rfl
theorem r10_Admit_ev {l:List Item} (hl:RightP l) (n:ByteArray) (v:Vec):Ev (fun k=>r10_Admit.f k l n v.f0 v.f1 v.f2) (admR l n v):=by
  have hlen:=hl.len
  refine Ev.bind (r10_Up_ev l n (by omega)) ?_
  have hmv:r10_MayVec.f v.f0 v.f1 v.f2=some (decide (MayP v)):=r10_MayVec_eq _ _ _
  unfold admR
  by_cases hv:MayP v
  · rw [if_neg (by simpa using hv)]
    cases hx:look l n with
    | none =>
      rw [if_pos (show (none:Option Item).isNone=true from rfl)]
      refine Ev.congr (fun k=> ?_) (Ev.now _)
      rw [hmv]
      simp only [Option.bind_some]
      rw [if_pos (by exact decide_eq_true hv),show up l n=[] from upGo_none hx _]
      rfl
    | some x =>
      rw [if_neg (by simp)]
      have h:=r10_Admit_l0 hl n hv ⟨x,hx⟩ _ 0 rfl (by omega)
      rw [List.take_zero,List.drop_zero,show l.map (admS [] v)=l from by rw [show admS [] v=id from by funext z;simp [admS]];simp] at h
      refine Ev.congr (fun k=> ?_) h
      rw [hmv]
      simp only [Option.bind_some]
      have:(up l n).length≠0:=by have:=up_self hx;intro q;rw [List.length_eq_zero_iff.1 q] at this;cases this
      rw [if_pos (by exact decide_eq_true hv),if_neg (by omega),r10_copied_eq l (by omega)]
      rfl
  · rw [if_pos hv]
    refine Ev.congr (fun k=> ?_) (Ev.now _)
    rw [hmv]
    simp only [Option.bind_some]
    rw [if_neg (by simpa using hv)]
    rfl
def zVec:Vec:=⟨0,0,0⟩
def newItem (n p:ByteArray) (v:Vec):Item:=⟨n,p,v,zVec,zVec,1⟩
def creR (l:List Item) (n p:ByteArray) (v:Vec):List Item×Int:=
 if¬((n≠⟨#[]⟩∧n.size≤24)∧MayP v) then ([],1) else if (look l n).isSome=true then ([],3) else if p≠⟨#[]⟩∧(look l p).isNone=true then ([],2) else if 120≤l.length then ([],4) else (insL l (newItem n p v),0)
theorem insL_cons (x:Item) (l:List Item) (it:Item):insL (x::l) it=if lt x.f0 it.f0=true then x::insL l it else it::x::l:=by
 unfold insL
 rw [List.takeWhile_cons,List.dropWhile_cons]
 cases lt x.f0 it.f0<;>simp
theorem r10_Create_l0 (n p:ByteArray) (v:Vec) (b:List Item): ∀(a l:List Item),l=a++b→l.length<1000000→Ev (fun k=>r10_Create.l0 k l n p a.length v.f0 v.f1 v.f2) (a++insL b (newItem n p v),0):=by
  induction b with
  | nil =>
    rintro a l rfl hl
    simp only [List.append_nil] at hl ⊢
    refine Ev.step (f:=fun _=>some (a++ [newItem n p v],0)) (fun k=> ?_) (Ev.now _)
    simp only [r10_Create.l0]
    rw [if_neg (by omega),if_pos (by omega),if_pos (by omega),Int.toNat_natCast,List.take_length,r10_copied_eq a (by omega)]
    simp only [Option.bind_some,List.drop_length,List.length_append,List.length_cons,List.length_nil]
    rw [if_pos (by omega),if_pos (by omega),List.append_nil]
    rfl
  | cons x b ih =>
    rintro a l rfl hl
    have hlen:(a++x::b).length=a.length+b.length+1:=by simp;omega
    have hrd:rd_T31 (a++x::b) (a.length:Int)=x:=by rw [rd_item,Int.toNat_natCast];simp
    rw [insL_cons]
    by_cases e:lt x.f0 n=true
    · rw [if_pos (by exact e)]
      have h:=ih (a++ [x]) (a++x::b) (by simp) hl
      refine Ev.step (f:=fun k=>r10_Create.l0 k (a++x::b) n p (a++ [x]).length v.f0 v.f1 v.f2) (fun k=> ?_) (by simpa using h)
      simp only [r10_Create.l0]
      rw [if_pos (by omega),if_pos (by omega),hrd,if_pos (by exact e),w64 (by omega) (by omega)]
      simp
    · rw [if_neg (by exact e)]
      refine Ev.step (f:=fun _=>some (a++newItem n p v::x::b,0)) (fun k=> ?_) (Ev.now _)
      simp only [r10_Create.l0]
      rw [if_pos (by omega),if_pos (by omega),hrd,if_neg (by exact e),if_pos (by omega),Int.toNat_natCast,List.take_left,r10_copied_eq a (by omega)]
      simp only [Option.bind_some,List.drop_left,List.length_append,List.length_cons,List.length_nil]
      rw [if_pos (by omega),if_pos (by omega)]
      simp
      rfl
theorem r10_Create_ev {l:List Item} (hl:l.length<1000000) (n p:ByteArray) (v:Vec):Ev (fun k=>r10_Create.f k l n p v.f0 v.f1 v.f2) (creR l n p v):=by
  have hmv:r10_MayVec.f v.f0 v.f1 v.f2=some (decide (MayP v)):=r10_MayVec_eq _ _ _
  have hno: ∀e:Int,((r10_no.f e).bind fun bt=>some (bt.1,bt.2))=some (([]:List Item),e):=fun _=>rfl
  have hj1: ∀b,Ev (fun k=>r10_Create.j1 k l n p b v.f0 v.f1 v.f2) (if b=true then ([],2) else if 120≤l.length then ([],4) else (insL l (newItem n p v),0)):=by
    intro b
    cases b with
    | true =>
      refine Ev.step (f:=fun _=>some ([],2)) (fun k=> ?_) (Ev.now _)
      simp only [r10_Create.j1,if_true]
      exact hno 2
    | false =>
      simp only [Bool.false_eq_true,if_false]
      by_cases h:120≤l.length
      · rw [if_pos h]
        refine Ev.step (f:=fun _=>some ([],4)) (fun k=> ?_) (Ev.now _)
        simp only [r10_Create.j1,Bool.false_eq_true,if_false]
        rw [if_pos (by omega)];exact hno 4
      · rw [if_neg h]
        refine Ev.step (f:=fun k=>r10_Create.l0 k l n p 0 v.f0 v.f1 v.f2) (fun k=> ?_) (by have:=r10_Create_l0 n p v l [] l rfl hl;simpa using this)
        simp only [r10_Create.j1,Bool.false_eq_true,if_false]
        rw [if_neg (by omega)]
  have hj0: ∀b,Ev (fun k=>r10_Create.j0 k l n p b v.f0 v.f1 v.f2) (if b=true then ([],1) else if (look l n).isSome=true then ([],3) else if p≠⟨#[]⟩∧(look l p).isNone=true then ([],2) else if 120≤l.length then ([],4) else (insL l (newItem n p v),0)):=by
    intro b
    cases b with
    | true =>
      refine Ev.step (f:=fun _=>some ([],1)) (fun k=> ?_) (Ev.now _)
      simp only [r10_Create.j0,if_true]
      exact hno 1
    | false =>
      simp only [Bool.false_eq_true,if_false]
      refine Ev.step (f:=fun k=>(r10_Find.f k l n).bind fun t=>if t≥0 then some ([],3) else if p.toList=([]:List UInt8) then r10_Create.j1 k l n p false v.f0 v.f1 v.f2 else (r10_Find.f k l p).bind fun t=>r10_Create.j1 k l n p (decide (t<0)) v.f0 v.f1 v.f2) (fun k=> ?_) (Ev.bind (r10_Find_ev l n hl) ?_)
      · simp only [r10_Create.j0,Bool.false_eq_true,if_false];rfl
      · cases hn : look l n with
        | some x =>
          refine Ev.congr (fun k=> ?_) (Ev.now _)
          rw [if_pos (fnd_ge.2 ⟨x,hn⟩)];rfl
        | none =>
          simp only [Option.isSome_none,Bool.false_eq_true,if_false]
          by_cases hp:p=⟨#[]⟩
          · have h := hj1 false
            simp only [Bool.false_eq_true,if_false] at h
            rw [if_neg (fun q=>q.1 hp)]
            refine Ev.congr (fun k=> ?_) h
            rw [fnd_none hn,if_neg (by omega),if_pos (nm_empty.2 hp)]
          · have h := hj1 (decide (fnd l p < 0))
            refine Ev.congr (g:=fun k=>_) (f:=fun k=>(r10_Find.f k l p).bind fun t=>r10_Create.j1 k l n p (decide (t<0)) v.f0 v.f1 v.f2) (fun k=> ?_) (Ev.bind (r10_Find_ev l p hl) ?_)
            · rw [fnd_none hn,if_neg (by omega),if_neg (fun q=>hp (nm_empty.1 q))]
            · have e:(p≠⟨#[]⟩∧(look l p).isNone=true)↔(decide (fnd l p<0)=true):=by
                rw [decide_eq_true_iff,fnd_neg];simp [hp]
              rw [ite_iff e];exact h
  unfold creR
  by_cases hn:n≠⟨#[]⟩∧n.size≤24
  · have h := hj0 (!decide (MayP v))
    rw [ite_iff (q:=(!decide (MayP v))=true) (by simp [hn])]
    refine Ev.congr (fun k=> ?_) h
    unfold r10_Create.f
    rw [r10_MayName_eq,hmv]
    simp only [Option.bind_some]
    rw [if_pos (by exact decide_eq_true hn)]
  · have h := hj0 true
    rw [if_pos (fun q=>hn q.1)]
    rw [if_pos rfl] at h
    refine Ev.congr (fun k=> ?_) h
    unfold r10_Create.f
    rw [r10_MayName_eq]
    simp only [Option.bind_some]
    rw [if_neg (by simpa using hn)]
theorem creR_right {l:List Item} (hl:RightP l) {n p:ByteArray} {v:Vec} (h:(creR l n p v).2=0):
    (creR l n p v).1=insL l (newItem n p v)∧RightP (insL l (newItem n p v))∧look l n=none∧l.length<120∧n≠⟨#[]⟩∧n.size≤24∧MayP v∧(p=⟨#[]⟩∨ ∃y,look l p=some y):=by
  unfold creR at h ⊢
  split at h
  · simp at h
  rename_i h1
  split at h
  · simp at h
  rename_i h2
  split at h
  · simp at h
  rename_i h3
  split at h
  · simp at h
  rename_i h4
  rw [if_neg h1,if_neg h2,if_neg h3,if_neg h4]
  obtain ⟨⟨h5,h6⟩,h7⟩:=Classical.not_not.1 h1
  have hn:look l n=none:=by cases q:look l n with
    |none=>rfl
    |some x=>rw [q] at h2;simp at h2
  have hp:p=⟨#[]⟩∨ ∃y,look l p=some y:=by
    by_cases e:p=⟨#[]⟩
    · exact .inl e
    · right
      cases q:look l p with
      |none=>rw [q] at h3;exact absurd ⟨e,rfl⟩ h3
      |some y=>exact ⟨y,rfl⟩
  have hz: ∀c:Comp,c.of zVec=0:=fun c=>by cases c<;>rfl
  refine ⟨rfl,ins_right hl ⟨h5,h6,h7,fun c=> ?_,fun c=> ?_,fun c=> ?_, ?_⟩ (fun c=>⟨hz c,hz c⟩) hn hp (by omega),hn,by omega,h5,h6,h7,hp⟩
  · show 0≤c.of zVec∧c.of zVec≤_;rw [hz];omega
  · show 0≤c.of zVec∧c.of zVec≤_;rw [hz];omega
  · show c.of zVec≤c.of v;rw [hz];exact (h7 c).1
  · show (1:Int)≤1∧(1:Int)≤_;omega
theorem mem_insL {l:List Item} {it x:Item}:x∈insL l it↔x=it∨x∈l:=by
 obtain ⟨a,b,e,e',_,_⟩:=insL_eq l it
 rw [e',e];simp;constructor<;>(intro h;rcases h with h|h|h<;>simp [h])
theorem len_insL (l:List Item) (it:Item):(insL l it).length=l.length+1:=by
 obtain ⟨a,b,e,e',_,_⟩:=insL_eq l it
 rw [e',e];simp;omega
theorem admR_right {l:List Item} (hl:RightP l) {n:ByteArray} {v:Vec} (h:(admR l n v).2=0):(admR l n v).1=admL l n v∧RightP (admL l n v)∧MayP v∧(∃x,look l n=some x)∧ ∀x∈l,x.f0∈up l n→LeP (vadd x.f4 v) x.f2:=by
  unfold admR at h ⊢
  split at h
  · simp at h
  rename_i h1
  split at h
  · simp at h
  rename_i h2
  split at h
  · rename_i h3
    rw [if_neg h1,if_neg h2,if_pos h3]
    have hv:MayP v:=Classical.not_not.1 h1
    have hin: ∃x,look l n=some x:=by
      cases q:look l n with
      |none=>rw [q] at h2;simp at h2
      |some x=>exact ⟨x,rfl⟩
    have hsub: ∀x∈l,x.f0∈up l n→MayP (vadd x.f4 v):=fun x hx hm c=>by
      have a:=(hl.ok x hx).sub c;have b:=hv c;have d:=h3 x hx hm c;have e:=(hl.ok x hx).lim c
      rw [of_vadd] at d ⊢;omega
    refine ⟨rfl,adm_right hl v hin (fun x hx e c=> ?_) hsub h3,hv,hin,h3⟩
    have hm:x.f0∈up l n:=by obtain ⟨y,hy⟩:=hin;rw [e];exact up_self hy
    have a:=(hl.ok x hx).own c;have b:=hv c;have d:=hsub x hx hm c;have f:=hl.sum c x hx
    have g:0≤csum c l x.f0:=sumBy_nonneg fun y hy=>by
      split
      · exact ((hl.ok y hy).sub c).1
      · omega
    rw [of_vadd] at d ⊢;omega
  · simp at h
theorem u8_bd {x:Int} (h:(Lit.int .u8 x).wf=true):0≤x∧x≤255:=by
 simp only [Lit.wf,Bool.and_eq_true,decide_eq_true_eq] at h
 exact h
def Bytes (ns:List Int):Prop:= ∀x∈ns,0≤x∧x≤255
theorem Bytes.rd {ns:List Int} (h:Bytes ns) (i:Int):0≤rd ns i∧rd ns i≤255:=by
 unfold Go.Proofs.YtcgefpklljclgaaW.PrintWords.rd
 rw [List.getD_eq_getElem?_getD]
 cases e:ns[i.toNat]? with
 |none=>simp
 |some x=>exact h x (List.mem_of_getElem? e)
def one (c:Int):ByteArray:=strOfNums [c]
structure MadeP (l:List Item):Prop where
 right:RightP l
 len:l.length≤24
 name: ∀x∈l,∃c:Int,97≤c∧c≤120∧x.f0=one c
 ver: ∀x∈l,x.f5=1
 lim: ∀x∈l,∀c:Comp,20≤c.of x.f2∧c.of x.f2≤275
theorem made_nil:MadeP []:=⟨right_nil,by simp,by simp,by simp,by simp⟩
theorem made_ins {l:List Item} (h:MadeP l) {n p:ByteArray} {v:Vec} {c:Int} (hc:97≤c∧c≤120) (hn:n=one c) (hv: ∀c:Comp,20≤c.of v∧c.of v≤275) (hl:l.length<24) (hr:RightP (insL l (newItem n p v))):MadeP (insL l (newItem n p v)) where
  right:=hr
  len:=by rw [len_insL];omega
  name:=fun x hx=>by
    rcases mem_insL.1 hx with rfl|hx
    · exact ⟨c,hc.1,hc.2,hn⟩
    · exact h.name x hx
  ver:=fun x hx=>by
    rcases mem_insL.1 hx with rfl|hx
    · rfl
    · exact h.ver x hx
  lim:=fun x hx=>by
    rcases mem_insL.1 hx with rfl|hx
    · exact hv
    · exact h.lim x hx
theorem made_adm {l:List Item} (h:MadeP l) {n:ByteArray} {v:Vec} (hr:RightP (admL l n v)):MadeP (admL l n v) where
 right:=hr
 len:=by unfold admL;rw [List.length_map];exact h.len
 name:=fun x hx=>by
  obtain ⟨y,hy,rfl⟩:=List.mem_map.1 hx
  exact h.name y hy
 ver:=fun x hx=>by
  obtain ⟨y,hy,rfl⟩:=List.mem_map.1 hx
  exact h.ver y hy
 lim:=fun x hx=>by
  obtain ⟨y,hy,rfl⟩:=List.mem_map.1 hx
  exact h.lim y hy
def MakesFrom (ns:List Int) (i:Int):Prop:= ∀l,MadeP l→ ∃r,Ev (fun k=>law12_Make.l0 k ns l i) r∧MadeP r
theorem tmod_in {a b:Int} (ha:0≤a) (hb:0<b):0≤a.tmod b∧a.tmod b<b:=by
 rw [Int.tmod_eq_emod_of_nonneg ha];exact ⟨Int.emod_nonneg _ (by omega),Int.emod_lt_of_pos _ hb⟩
theorem tdiv_in {a b:Int} (ha:0≤a) (hb:0<b):0≤a.tdiv b∧a.tdiv b≤a:=by
 rw [Int.tdiv_eq_ediv_of_nonneg ha];exact ⟨Int.ediv_nonneg ha (by omega),Int.ediv_le_self _ ha⟩
theorem made_j3 {ns:List Int} (hb:Bytes ns) (hs:ns.length≤1000) {i:Int} (h0:0≤i) (h2:i+2<ns.length) (ih:MakesFrom ns (i+3)) {l:List Item} (h:MadeP l) (hl:l.length<24) (p:ByteArray):
    ∃r,Ev (fun k=>law12_Make.j3 k ns l i p) r∧MadeP r:=by
  have b1:=hb.rd (i+1)
  have b2:=hb.rd (i+2)
  have hlen:=h.right.len
  have hnm:(wrap64 (97+(Int.tmod (wrap64 ((l.length:Int)*5)) 24))) % 256=97+((l.length:Int)*5) % 24:=by
    rw [w64 (n:=(l.length:Int)*5) (by omega) (by omega),Int.tmod_eq_emod_of_nonneg (by omega),w64 (by omega) (by omega)];omega
  generalize hc:97+((l.length:Int)*5) % 24=c at hnm
  have hcb:97≤c∧c≤120:=by omega
  have hlim:wrap64 (20+wrap64 (rd ns (i+1)))=20+rd ns (i+1):=by rw [w64 (n:=rd ns (i+1)) (by omega) (by omega),w64 (by omega) (by omega)]
  obtain ⟨K,hK⟩:=r10_Create_ev (l:=l) (by omega) (one c) p ⟨20+rd ns (i+1),20+rd ns (i+1),20+rd ns (i+1)⟩
  dsimp only at hK
  have hw1:wrap64 (i+1)=i+1:=w64 (by omega) (by omega)
  have hw2:wrap64 (i+2)=i+2:=w64 (by omega) (by omega)
  have hw3:wrap64 (i+3)=i+3:=w64 (by omega) (by omega)
  have hr2:wrap64 (rd ns (i+2))=rd ns (i+2):=w64 (by omega) (by omega)
  by_cases hE:(creR l (one c) p ⟨20+rd ns (i+1),20+rd ns (i+1),20+rd ns (i+1)⟩).2=0
  · obtain ⟨e1, hR, hno, -, -, -, hv, -⟩ := creR_right h.right hE
    have hm:=made_ins h (p:=p) hcb rfl (v:=⟨20+rd ns (i+1),20+rd ns (i+1),20+rd ns (i+1)⟩) (fun c=>by cases c<;>(simp only [Comp.of];omega)) hl hR
    generalize hL:insL l (newItem (one c) p ⟨20+rd ns (i+1),20+rd ns (i+1),20+rd ns (i+1)⟩)=l1 at*
    have hl1:0<l1.length:=by rw [←hL,len_insL];omega
    have hd:=tdiv_in (a:=rd ns (i+2)) (b:=16) (by omega) (by omega)
    have hw4:wrap64 (Int.tdiv (rd ns (i+2)) 16)=Int.tdiv (rd ns (i+2)) 16:=w64 (by omega) (by omega)
    have hq:=tmod_in (a:=Int.tdiv (rd ns (i+2)) 16) (b:=(l1.length:Int)) hd.1 (by omega)
    generalize hJ:Int.tmod (Int.tdiv (rd ns (i+2)) 16) (l1.length:Int)=j at*
    obtain ⟨v,hv'⟩: ∃v:Vec,v=⟨Int.tmod (rd ns (i+2)) 16,wrap64 (Int.tdiv (Int.tmod (rd ns (i+2)) 16) 2),Int.tmod (Int.tmod (rd ns (i+2)) 16) 3⟩:=⟨_,rfl⟩
    obtain ⟨K2,hK2⟩:=r10_Admit_ev hm.right (rd_T31 l1 j).f0 v
    dsimp only at hK2
    have main: ∀r,Ev (fun k=>law12_Make.l0 k ns (if (admR l1 (rd_T31 l1 j).f0 v).2=0 then (admR l1 (rd_T31 l1 j).f0 v).1 else l1) (i+3)) r→Ev (fun k=>law12_Make.j3 k ns l i p) r:=by
      rintro r ⟨K3,hK3⟩
      refine ⟨K+K2+K3+1,fun k hk=> ?_⟩
      dsimp only at hK3
      obtain ⟨k,rfl⟩: ∃m,k=m+1:=⟨k - 1,by omega⟩
      simp only [law12_Make.j3]
      rw [hw1,hw2,hw3,hnm,hlim,hr2,if_pos (by omega),if_pos (by omega)]
      rw [show strOfNums [c]=one c from rfl,hK k (by omega)]
      simp only [Option.bind_some]
      rw [if_pos hE,if_pos (by omega),if_pos (by omega),e1,if_neg (by omega),hw4,hJ,if_pos hq.1,if_pos hq.2]
      have:=hK2 k (by omega)
      rw [hv'] at this
      rw [this]
      simp only [Option.bind_some]
      rw [←hv']
      have:=hK3 k (by omega)
      by_cases q:(admR l1 (rd_T31 l1 j).f0 v).2=0
      · rw [if_pos q] at this ⊢;exact this
      · rw [if_neg q] at this ⊢;exact this
    by_cases q:(admR l1 (rd_T31 l1 j).f0 v).2=0
    · rw [if_pos q] at main
      obtain ⟨e2,hR2, -⟩:=admR_right hm.right q
      rw [e2] at main
      obtain ⟨r,hr,hM⟩:=ih _ (made_adm hm hR2)
      exact ⟨r,main r hr,hM⟩
    · rw [if_neg q] at main
      obtain ⟨r,hr,hM⟩:=ih _ hm
      exact ⟨r,main r hr,hM⟩
  · obtain ⟨r, ⟨K3, hK3⟩, hM⟩ := ih l h
    dsimp only at hK3
    refine ⟨r,⟨K+K3+1,fun k hk=> ?_⟩,hM⟩
    obtain ⟨k,rfl⟩: ∃m,k=m+1:=⟨k - 1,by omega⟩
    simp only [law12_Make.j3]
    rw [hw1,hw2,hw3,hnm,hlim,if_pos (by omega),if_pos (by omega)]
    rw [show strOfNums [c]=one c from rfl,hK k (by omega)]
    simp only [Option.bind_some]
    rw [if_neg hE]
    exact hK3 k (by omega)
theorem made_step {ns:List Int} (hb:Bytes ns) (hs:ns.length≤1000) {i:Int} (h0:0≤i) (h2:i+2<ns.length) (ih:MakesFrom ns (i+3)):MakesFrom ns i:=by
  intro l h
  have hw2:wrap64 (i+2)=i+2:=w64 (by omega) (by omega)
  have b0:=hb.rd i
  have hr0:wrap64 (rd ns i)=rd ns i:=w64 (by omega) (by omega)
  by_cases hl:l.length<24
  · have h3 := made_j3 hb hs h0 h2 ih h hl
    have hj2: ∀b,(b=true→0<l.length)→ ∃r,Ev (fun k=>law12_Make.j2 k ns l i (rd ns i) ⟨#[]⟩ b) r∧MadeP r:=by
      intro b hbl
      cases b with
      | false =>
        obtain ⟨r,hr,hM⟩:=h3 ⟨#[]⟩
        refine ⟨r,Ev.step (fun k=> ?_) hr,hM⟩
        simp only [law12_Make.j2,Bool.false_eq_true,if_false]
      | true =>
        have hpos:=hbl rfl
        have hd:=tdiv_in (a:=rd ns i) (b:=3) (by omega) (by omega)
        have hw:wrap64 (Int.tdiv (rd ns i) 3)=Int.tdiv (rd ns i) 3:=w64 (by omega) (by omega)
        have hq:=tmod_in (a:=Int.tdiv (rd ns i) 3) (b:=(l.length:Int)) hd.1 (by omega)
        obtain ⟨r,hr,hM⟩:=h3 (rd_T31 l (Int.tmod (Int.tdiv (rd ns i) 3) (l.length:Int))).f0
        refine ⟨r,Ev.step (fun k=> ?_) hr,hM⟩
        simp only [law12_Make.j2,if_true]
        rw [hw,if_neg (by omega),if_pos hq.1,if_pos hq.2]
    have hj1: ∃r,Ev (fun k=>law12_Make.j1 k ns l i true) r∧MadeP r:=by
      by_cases hpos:0<l.length
      · obtain ⟨r, hr, hM⟩ := hj2 (decide ((Int.tmod (rd ns i) 3) > 0)) (fun _ => hpos)
        refine ⟨r,Ev.step (fun k=> ?_) hr,hM⟩
        simp only [law12_Make.j1,if_true]
        rw [if_pos (by omega),if_pos (by omega),if_pos (by omega),hr0]
      · obtain ⟨r, hr, hM⟩ := hj2 false (fun q => by cases q)
        refine ⟨r,Ev.step (fun k=> ?_) hr,hM⟩
        simp only [law12_Make.j1,if_true]
        rw [if_pos (by omega),if_pos (by omega),if_neg (by omega),hr0]
    obtain ⟨r,hr,hM⟩:=hj1
    refine ⟨r,Ev.step (fun k=> ?_) hr,hM⟩
    simp only [law12_Make.l0]
    rw [hw2,if_pos (by omega),show decide ((l.length:Int)<24)=true from decide_eq_true (by omega)]
  · refine ⟨l, Ev.step (f := fun k => law12_Make.j1 k ns l i false) (fun k => ?_) (Ev.step (f := fun _ => some l) (fun k => ?_) (Ev.now _)), h⟩
    · simp only [law12_Make.l0]
      rw [hw2,if_pos (by omega),show decide ((l.length:Int)<24)=false from decide_eq_false (by omega)]
    · simp only [law12_Make.j1,Bool.false_eq_true,if_false]
theorem made_from {ns:List Int} (hb:Bytes ns) (hs:ns.length≤1000): ∀(d:Nat) (i:Int),0≤i→i≤1003→(ns.length:Int) - i≤d→MakesFrom ns i
  | d, i, h0, h1, hd => by
    by_cases h2:i+2<ns.length
    · cases d with
      |zero=>omega
      |succ d=>exact made_step hb hs h0 h2 (made_from hb hs d (i+3) (by omega) (by omega) (by omega))
    · intro l h
      have hw2:wrap64 (i+2)=i+2:=w64 (by omega) (by omega)
      refine ⟨l,Ev.step (f:=fun k=>law12_Make.j1 k ns l i false) (fun k=> ?_) (Ev.step (f:=fun _=>some l) (fun k=> ?_) (Ev.now _)),h⟩
      · simp only [law12_Make.l0]
        rw [hw2,if_neg (by omega)]
      · simp only [law12_Make.j1,Bool.false_eq_true,if_false]
theorem made_all {ns:List Int} (hb:Bytes ns) (hs:ns.length≤1000): ∃l,Ev (fun k=>law12_Make.f k ns) l∧MadeP l:=made_from hb hs ns.length 0 (by omega) (by omega) (by omega) [] made_nil
end Go.Proofs.Ytcgefpklljclgaa.Print

namespace Go.Proofs.Ytcgefpklljclgaa.Print
open Go.RowKit Go.Proofs.YtcgefpklljclgaaW.PrintWords Go.Proofs.YtcgefpklljclgaaW.PrintLast Go.Proofs.YtcgefpklljclgaaW.PrintMore
set_option linter.unusedVariables false
set_option linter.unusedSimpArgs false
theorem shape_made_eq (l:List Item) (n:ByteArray) (hl:l.length<1000000):shape_made.f l n=some (l,fnd l n):=by
 unfold shape_made.f slices_Clone_Item.f
 rw [if_pos (by omega)]
 rfl
theorem sh_Le_eq (a b d a' b' d':Int):vec_Le.f a b d a' b' d'=some (decide (LeP ⟨a,b,d⟩ ⟨a',b',d'⟩)):=by
 unfold vec_Le.f
 rw [show decide (LeP ⟨a,b,d⟩ ⟨a',b',d'⟩)=decide (a≤a'∧b≤b'∧d≤d') from decide_eq_decide.2 leP_iff]
 by_cases h1:a≤a'<;>by_cases h2:b≤b'<;>simp [h1,h2]
theorem sh_May_eq (a b d:Int):vec_May.f a b d=some (decide (MayP ⟨a,b,d⟩)):=by
  unfold vec_May.f
  rw [sh_Le_eq,Option.bind_some]
  have hm:(vec_Most.f)=some (1099511627776,1099511627776,1099511627776):=rfl
  by_cases h:LeP ⟨0,0,0⟩ ⟨a,b,d⟩
  · rw [if_pos (decide_eq_true h), hm]
    simp only [Option.bind_some,sh_Le_eq]
    congr 1
    apply decide_eq_decide.2
    rw [leP_iff] at h ⊢
    rw [mayP_iff]
    omega
  · rw [if_neg (by simpa using h)]
    congr 1
    rw [eq_comm,decide_eq_false_iff_not,mayP_iff]
    rw [leP_iff] at h
    omega
end Go.Proofs.Ytcgefpklljclgaa.Print

namespace Go.Proofs.Ytcgefpklljclgaa.Print
open Go.RowKit Go.Proofs.YtcgefpklljclgaaW.PrintWords Go.Proofs.YtcgefpklljclgaaW.PrintLast Go.Proofs.YtcgefpklljclgaaW.PrintMore
attribute [local go_sem] max2_int min2_int max_two min_two max_three min_three max_four min_four
set_option linter.unusedVariables false
set_option linter.unusedSimpArgs false

end Go.Proofs.Ytcgefpklljclgaa.Print

namespace Go.Proofs.Ytcgefpklljclgaa.Print
open Go.RowKit Go.Proofs.YtcgefpklljclgaaW.PrintWords Go.Proofs.YtcgefpklljclgaaW.PrintLast Go.Proofs.YtcgefpklljclgaaW.PrintMore
set_option linter.unusedVariables false
set_option linter.unusedSimpArgs false
end Go.Proofs.Ytcgefpklljclgaa.Print

namespace Go.Proofs.Ytcgefpklljclgaa.Print
open Go.RowKit Go.Proofs.YtcgefpklljclgaaW.PrintWords Go.Proofs.YtcgefpklljclgaaW.PrintLast Go.Proofs.YtcgefpklljclgaaW.PrintMore
attribute [local go_sem] max2_int min2_int max_two min_two max_three min_three max_four min_four
set_option linter.unusedVariables false
set_option linter.unusedSimpArgs false

-- uses fidx
end Go.Proofs.Ytcgefpklljclgaa.Print

namespace Go.Proofs.Ytcgefpklljclgaa.Print
open Go.RowKit Go.Proofs.YtcgefpklljclgaaW.PrintWords Go.Proofs.YtcgefpklljclgaaW.PrintLast Go.Proofs.YtcgefpklljclgaaW.PrintMore
set_option linter.unusedVariables false
set_option linter.unusedSimpArgs false
end Go.Proofs.Ytcgefpklljclgaa.Print

namespace Go.Proofs.Ytcgefpklljclgaa.Print
open Go.RowKit Go.Proofs.YtcgefpklljclgaaW.PrintWords Go.Proofs.YtcgefpklljclgaaW.PrintLast Go.Proofs.YtcgefpklljclgaaW.PrintMore
attribute [local go_sem] max2_int min2_int max_two min_two max_three min_three max_four min_four
set_option linter.unusedVariables false
set_option linter.unusedSimpArgs false

end Go.Proofs.Ytcgefpklljclgaa.Print

namespace Go.Proofs.Ytcgefpklljclgaa.Print
open Go.RowKit Go.Proofs.YtcgefpklljclgaaW.PrintWords Go.Proofs.YtcgefpklljclgaaW.PrintLast Go.Proofs.YtcgefpklljclgaaW.PrintMore
set_option linter.unusedVariables false
set_option linter.unusedSimpArgs false
def kids (l:List Item) (n:ByteArray):List ByteArray:=(l.filter (fun x=>decide (x.f1=n))).map (·.f0)
theorem kids_mem {l:List Item} {n s:ByteArray}:s∈kids l n↔ ∃y∈l,y.f1=n∧y.f0=s:=by
  unfold kids
  simp only [List.mem_map,List.mem_filter,decide_eq_true_eq]
  constructor
  · rintro ⟨y,⟨h1,h2⟩,h3⟩;exact ⟨y,h1,h2,h3⟩
  · rintro ⟨y,h1,h2,h3⟩;exact ⟨y,⟨h1,h2⟩,h3⟩
end Go.Proofs.Ytcgefpklljclgaa.Print

namespace Go.Proofs.Ytcgefpklljclgaa.Print
open Go.RowKit Go.Proofs.YtcgefpklljclgaaW.PrintWords Go.Proofs.YtcgefpklljclgaaW.PrintLast Go.Proofs.YtcgefpklljclgaaW.PrintMore
attribute [local go_sem] max2_int min2_int max_two min_two max_three min_three max_four min_four
set_option linter.unusedVariables false
set_option linter.unusedSimpArgs false

attribute [local go_sem high] eqA27
end Go.Proofs.Ytcgefpklljclgaa.Print

namespace Go.Proofs.Ytcgefpklljclgaa.Print
open Go.RowKit Go.Proofs.YtcgefpklljclgaaW.PrintWords Go.Proofs.YtcgefpklljclgaaW.PrintLast Go.Proofs.YtcgefpklljclgaaW.PrintMore
set_option linter.unusedVariables false
set_option linter.unusedSimpArgs false
theorem shbelow_l0 (l:List Item) (n:ByteArray) (hl:l.length<1000000): ∀(d i:Nat) (acc:List ByteArray),l.length - i=d→i≤l.length→acc.length≤i→Ev (fun k=>tree_Below.l0 k n acc l (l.length:Int) i) (acc++((l.drop i).filter (fun x=>decide (x.f1=n))).map (·.f0))
  | 0, i, acc, hd, hi, ha => by
    obtain rfl:i=l.length:=by omega
    rw [List.drop_length]
    refine Ev.step (f:=fun _=>some acc) (fun k=> ?_) (by rw [show acc++(([]:List Item).filter (fun x=>decide (x.f1=n))).map (·.f0)=acc from List.append_nil _];exact Ev.now _)
    rw [tree_Below.l0,if_neg (by omega)]
  | d + 1, i, acc, hd, hi, ha => by
    have hlt:i<l.length:=by omega
    have hrd:rd_T31 l (i:Int)=l[i]:=by rw [rd_item,Int.toNat_natCast];simp [hlt]
    rw [List.drop_eq_getElem_cons hlt]
    generalize l[i]=x at*
    by_cases h:x.f1=n
    · rw [List.filter_cons_of_pos (by exact decide_eq_true h)]
      refine Ev.step (f:=fun k=>tree_Below.l0 k n (acc++ [x.f0]) l (l.length:Int) ((i+1:Nat):Int)) (fun k=> ?_) ?_
      · rw [tree_Below.l0, if_pos (by omega), if_pos (by omega), if_pos (by omega), hrd, if_pos (nm_inj.2 h), if_pos (by omega), w64 (by omega) (by omega)]
        rfl
      · have := shbelow_l0 l n hl d (i + 1) (acc ++ [x.f0]) (by omega) (by omega) (by simp; omega)
        rw [List.append_assoc] at this
        exact this
    · rw [List.filter_cons_of_neg (by simpa using h)]
      refine Ev.step (f:=fun k=>tree_Below.l0 k n acc l (l.length:Int) ((i+1:Nat):Int)) (fun k=> ?_) (shbelow_l0 l n hl d (i+1) acc (by omega) (by omega) (by omega))
      rw [tree_Below.l0,if_pos (by omega),if_pos (by omega),if_pos (by omega),hrd,if_neg (fun q=>h (nm_inj.1 q)),w64 (by omega) (by omega)]
      rfl
theorem shbelow_ev (l:List Item) (n:ByteArray) (hl:l.length<1000000):Ev (fun k=>tree_Below.f k l n) (kids l n):=by
 have h:=shbelow_l0 l n hl _ 0 [] rfl (by omega) (by simp)
 rw [List.drop_zero,List.nil_append] at h
 exact h
def oldR (l:List Item) (n:ByteArray) (ver:Int):Int:=match look l n with
 |none=>2
 |some x=>if 0≤ver∧x.f5≠ver then 14 else 0
theorem oldR_none {l:List Item} {n:ByteArray} {ver:Int} (h:look l n=none):oldR l n ver=2:=by unfold oldR;rw [h]
theorem oldR_some {l:List Item} {n:ByteArray} {ver:Int} {x:Item} (h:look l n=some x):oldR l n ver=if 0≤ver∧x.f5≠ver then 14 else 0:=by unfold oldR;rw [h]
theorem oldR_zero {l:List Item} {n:ByteArray} {ver:Int} (h:oldR l n ver=0): ∃x,look l n=some x∧(0≤ver→x.f5=ver):=by
  cases q:look l n with
  |none=>rw [oldR_none q] at h;cases h
  | some x =>
    rw [oldR_some q] at h
    refine ⟨x,rfl,fun hv=> ?_⟩
    by_cases e:x.f5=ver
    · exact e
    · rw [if_pos ⟨hv,e⟩] at h;cases h
theorem guardF_eq (l:List Item) (n:ByteArray) (ver:Int):guardF l (fnd l n) ver=some (oldR l n ver):=by
  unfold guardF
  cases q:look l n with
  |none=>rw [fnd_none q,oldR_none q,if_pos (by omega)]
  | some x =>
    have h0:=fnd_ge.2 ⟨x,q⟩
    have h1:=fnd_lt l n
    rw [if_neg (by omega),if_pos h1,fnd_rd q,oldR_some q]
    by_cases e:0≤ver∧x.f5≠ver
    · rw [if_pos e,if_pos e]
    · rw [if_neg e,if_neg e]
def limG (n:ByteArray) (v:Vec) (x:Item):Item:=if x.f0=n then ⟨x.f0,x.f1,v,x.f3,x.f4,x.f5+1⟩ else x
def limR (l:List Item) (n:ByteArray) (v:Vec) (ver:Int):List Item×Int:=
 if¬MayP v then ([],1) else if oldR l n ver≠0 then ([],oldR l n ver) else match look l n with
  |none=>([],2)
  |some x=>if 9007199254740992≤x.f5 then ([],4) else if LeP x.f4 v then (l.map (limG n v),0) else ([],12)
theorem set_limG {l:List Item} (hl:RightP l) {n:ByteArray} {x:Item} (h:look l n=some x) (v:Vec):l.set (fnd l n).toNat ⟨x.f0,x.f1,v,x.f3,x.f4,x.f5+1⟩=l.map (limG n v):=by
  rw [set_at hl.nodup h]
  refine List.map_congr_left fun z hz=> ?_
  unfold limG
  by_cases e:z.f0=n
  · rw [if_pos e, if_pos e]
    have hx:=look_mem h
    have:=hl.eq_of hz hx.1 (by rw [e,hx.2])
    rw [this]
  · rw [if_neg e,if_neg e]
theorem rd_set {l:List Item} {j:Int} (h0:0≤j) (h1:j<(l.length:Int)) (y:Item):rd_T31 (l.set j.toNat y) j=y:=by
 rw [rd_item]
 simp [List.getD_eq_getElem?_getD,show j.toNat<l.length by omega]
theorem ver_step {x:Item} (h:ItemOK x):wrap64 (x.f5+1)=x.f5+1:=by
 have:=h.ver
 exact w64 (by omega) (by omega)
theorem olderF_eq {l:List Item} (hl:RightP l) {n:ByteArray} {x:Item} (h:look l n=some x):olderF l (fnd l n)=if 9007199254740992≤x.f5 then some (4,l) else some (0,l.set (fnd l n).toNat ⟨x.f0,x.f1,x.f2,x.f3,x.f4,x.f5+1⟩):=by
 unfold olderF
 have h0:=fnd_ge.2 ⟨x,h⟩
 have h1:=fnd_lt l n
 rw [if_pos ⟨h0,h1⟩,fnd_rd h]
 unfold verF
 rw [ver_step (hl.ok x (look_mem h).1)]
theorem shape_Limit_eq {l:List Item} (hl:RightP l) (n:ByteArray) (v:Vec) (ver:Int):shape_Limit.f l n v.f0 v.f1 v.f2 ver=some (limR l n v ver):=by
  have hlen:=hl.len
  unfold shape_Limit.f limR
  rw [sh_May_eq]
  simp only [Option.bind_some]
  by_cases h1:MayP v
  · rw [if_neg (show ¬ decide (MayP v) = false by simpa using h1), if_neg (show ¬ ¬ MayP v from fun h => h h1), shape_made_eq l n (by omega)]
    simp only [Option.bind_some,guardF_eq]
    by_cases h2:oldR l n ver=0
    · rw [if_neg (by simpa using h2), if_neg (by simpa using h2)]
      obtain ⟨x,hx,_⟩:=oldR_zero h2
      have j0:=fnd_ge.2 ⟨x,hx⟩
      have j1:=fnd_lt l n
      rw [olderF_eq hl hx]
      simp only [hx]
      by_cases h3:9007199254740992≤x.f5
      · rw [if_pos h3, if_pos h3]
        simp
      · rw [if_neg h3, if_neg h3]
        simp only [Option.bind_some]
        rw [if_neg (by simp),rd_set j0 j1,sh_Le_eq]
        simp only [Option.bind_some]
        by_cases h4:LeP x.f4 v
        · rw [if_neg (show ¬ decide (LeP ⟨x.f4.f0, x.f4.f1, x.f4.f2⟩ ⟨v.f0, v.f1, v.f2⟩) = false by simpa using h4), if_pos h4, List.set_set]
          exact congrArg (fun q=>some (q,(0:Int))) (set_limG hl hx v)
        · rw [if_pos (show decide (LeP ⟨x.f4.f0,x.f4.f1,x.f4.f2⟩ ⟨v.f0,v.f1,v.f2⟩)=false by simpa using h4),if_neg h4]
    · rw [if_pos h2,if_pos h2]
  · rw [if_pos (show decide (MayP v)=false by simpa using h1),if_pos h1]
def delL (l:List Item) (n:ByteArray):List Item:=l.filter (fun z=>decide (z.f0≠n))
def delR (l:List Item) (n:ByteArray) (ver:Int):List Item×Int:=
 if oldR l n ver≠0 then ([],oldR l n ver) else if 0<(kids l n).length then ([],13) else match look l n with
  |none=>([],2)
  |some x=>if x.f3.f0=0∧x.f3.f1=0∧x.f3.f2=0 then (delL l n,0) else ([],13)
theorem cut_delL {l:List Item} (hl:RightP l) {n:ByteArray} {x:Item} (h:look l n=some x):l.take (fnd l n).toNat++l.drop ((fnd l n).toNat+1)=delL l n:=by
  obtain ⟨j,h1,h2,h3,h4,h5⟩:=fnd_some h
  rw [h2,Int.toNat_natCast]
  have hx:l[j]=x:=by rw [←h3];simp [h1]
  have hsp:l=l.take j++l[j]::l.drop (j+1):=by rw [←List.drop_eq_getElem_cons h1,List.take_append_drop]
  have hnd:=hl.nodup
  unfold delL
  conv=>rhs;rw [hsp]
  rw [hsp,List.map_append,List.map_cons,List.nodup_append] at hnd
  obtain ⟨_,hn2,hn3⟩:=hnd
  rw [List.nodup_cons] at hn2
  rw [List.filter_append,List.filter_cons_of_neg (by rw [hx,h4];simp)]
  congr 1
  · rw [List.filter_eq_self.2]
    intro z hz
    have:=hn3 z.f0 (List.mem_map_of_mem hz) l[j].f0 (List.mem_cons_self ..)
    rw [hx,h4] at this
    simpa using this
  · rw [List.filter_eq_self.2]
    intro z hz
    have:z.f0≠l[j].f0:=fun e=>hn2.1 (by rw [←e];exact List.mem_map_of_mem hz)
    rw [hx,h4] at this
    simpa using this
theorem shape_Delete_ev {l:List Item} (hl:RightP l) (n:ByteArray) (ver:Int):Ev (fun k=>shape_Delete.f k l n ver) (delR l n ver):=by
  have hlen:=hl.len
  unfold shape_Delete.f delR
  rw [shape_made_eq l n (by omega)]
  simp only [Option.bind_some,guardF_eq]
  by_cases h2:oldR l n ver=0
  · obtain ⟨x, hx, _⟩ := oldR_zero h2
    simp only [h2,ne_eq,not_true_eq_false,if_false]
    refine Ev.bind (shbelow_ev l n (by omega)) ?_
    by_cases h3:0<(kids l n).length
    · simp only [show (((kids l n).length : Int) > 0) = True from eq_true (by omega), h3, if_true]
      exact Ev.now _
    · simp only [show (((kids l n).length : Int) > 0) = False from eq_false (by omega), h3, if_false, hx, fnd_rd hx]
      by_cases h4:x.f3.f0=0∧x.f3.f1=0∧x.f3.f2=0
      · simp only [h4, and_self, if_true]
        rw [cut_delL hl hx]
        exact Ev.now _
      · simp only [h4, if_false]
        exact Ev.now _
  · simp only [h2, ne_eq, not_false_eq_true, if_true]
    exact Ev.now _
theorem kids_none {l:List Item} {n:ByteArray} (h: ¬0<(kids l n).length): ∀y∈l,y.f1≠n:=fun y hy e=>h (List.length_pos_of_mem (kids_mem.2 ⟨y,hy,e,rfl⟩))
end Go.Proofs.Ytcgefpklljclgaa.Print

namespace Go.Proofs.Ytcgefpklljclgaa.Print
open Go.RowKit Go.Proofs.YtcgefpklljclgaaW.PrintWords Go.Proofs.YtcgefpklljclgaaW.PrintLast Go.Proofs.YtcgefpklljclgaaW.PrintMore
attribute [local go_sem] max2_int min2_int max_two min_two max_three min_three max_four min_four
set_option linter.unusedVariables false
set_option linter.unusedSimpArgs false

end Go.Proofs.Ytcgefpklljclgaa.Print

namespace Go.Proofs.Ytcgefpklljclgaa.Print
open Go.RowKit Go.Proofs.YtcgefpklljclgaaW.PrintWords Go.Proofs.YtcgefpklljclgaaW.PrintLast Go.Proofs.YtcgefpklljclgaaW.PrintMore
set_option linter.unusedVariables false
set_option linter.unusedSimpArgs false
end Go.Proofs.Ytcgefpklljclgaa.Print

namespace Go.Proofs.Ytcgefpklljclgaa.Print
open Go.RowKit Go.Proofs.YtcgefpklljclgaaW.PrintWords Go.Proofs.YtcgefpklljclgaaW.PrintLast Go.Proofs.YtcgefpklljclgaaW.PrintMore
attribute [local go_sem] max2_int min2_int max_two min_two max_three min_three max_four min_four
set_option linter.unusedVariables false
set_option linter.unusedSimpArgs false

end Go.Proofs.Ytcgefpklljclgaa.Print

namespace Go.Proofs.Ytcgefpklljclgaa.Print
open Go.RowKit Go.Proofs.YtcgefpklljclgaaW.PrintWords Go.Proofs.YtcgefpklljclgaaW.PrintLast Go.Proofs.YtcgefpklljclgaaW.PrintMore
set_option linter.unusedVariables false
set_option linter.unusedSimpArgs false
end Go.Proofs.Ytcgefpklljclgaa.Print

namespace Go.Proofs.Ytcgefpklljclgaa.Print
open Go.RowKit Go.Proofs.YtcgefpklljclgaaW.PrintWords Go.Proofs.YtcgefpklljclgaaW.PrintLast Go.Proofs.YtcgefpklljclgaaW.PrintMore
attribute [local go_sem] max2_int min2_int max_two min_two max_three min_three max_four min_four
set_option linter.unusedVariables false
set_option linter.unusedSimpArgs false

attribute [local go_sem high] eqA31
end Go.Proofs.Ytcgefpklljclgaa.Print

namespace Go.Proofs.Ytcgefpklljclgaa.Print
open Go.RowKit Go.Proofs.YtcgefpklljclgaaW.PrintWords Go.Proofs.YtcgefpklljclgaaW.PrintLast Go.Proofs.YtcgefpklljclgaaW.PrintMore
set_option linter.unusedVariables false
set_option linter.unusedSimpArgs false
theorem ss_num (e:Int):law1_Num.f e=some e:=rfl
theorem ss_awake:law15_awake.f=some true:=by kernel_rfl
theorem ss_awake_ev:Ev (fun _=>law15_awake.f.bind fun t=>some t) true:=Ev.const (by rw [ss_awake];rfl)
theorem rd_get {l:List Item} {i:Nat} (h:i<l.length):rd_T31 l (i:Int)=l[i]:=by rw [rd_item,Int.toNat_natCast];simp [h]
theorem sl_u16 {x:Int} (h:(Lit.int .u16 x).wf=true):0≤x∧x≤65535:=by
 simp only [Lit.wf,Bool.and_eq_true,decide_eq_true_eq] at h
 exact h
theorem limG_f0 (n:ByteArray) (v:Vec) (x:Item):(limG n v x).f0=x.f0:=by unfold limG;split<;>rfl
section
variable {l:List Item} {x:Item} {c:Int}
theorem sl_v (hM:MadeP l) (hx:x∈l) (hc:0≤c∧c<300):MayP ⟨c,x.f4.f1,x.f4.f2⟩:=by
 have h:=comp_all.1 (hM.right.ok x hx).sub
 exact comp_all.2 ⟨by show 0≤c∧c≤1099511627776;omega,h.2.1,h.2.2⟩
theorem sl_le:LeP x.f4 ⟨c,x.f4.f1,x.f4.f2⟩↔x.f4.f0≤c:=by
  constructor
  · exact fun h=>(comp_all.1 h).1
  · exact fun h=>comp_all.2 ⟨h,Int.le_refl _,Int.le_refl _⟩
theorem sl_old (hM:MadeP l) (hx:x∈l):oldR l x.f0 (-1)=0:=by
 rw [oldR_some (hM.right.look hx),if_neg (by omega)]
theorem sl_old2 (hM:MadeP l) (hx:x∈l):oldR l x.f0 (x.f5+1)=14:=by
 have hv:=hM.ver x hx
 rw [oldR_some (hM.right.look hx),if_pos (by constructor<;>omega)]
theorem sl_1 (hM:MadeP l) (hx:x∈l) (hc:0≤c∧c<300):limR l x.f0 ⟨c,x.f4.f1,x.f4.f2⟩ (-1)=if x.f4.f0≤c then (l.map (limG x.f0 ⟨c,x.f4.f1,x.f4.f2⟩),0) else ([],12):=by
  have hlk:=hM.right.look hx
  have hv:=hM.ver x hx
  unfold limR
  rw [if_neg (fun q=>q (sl_v hM hx hc)),sl_old hM hx,if_neg (show¬(0:Int)≠0 by decide)]
  simp only [hlk]
  rw [if_neg (by omega)]
  by_cases h:x.f4.f0≤c
  · rw [if_pos h,if_pos (sl_le.2 h)]
  · rw [if_neg h,if_neg (fun q=>h (sl_le.1 q))]
theorem sl_2 (hM:MadeP l) (hx:x∈l) (hc:0≤c∧c<300):(limR l x.f0 ⟨c,x.f4.f1,x.f4.f2⟩ (x.f5+1)).2=14:=by
 have hlk:=hM.right.look hx
 have hv:=hM.ver x hx
 unfold limR
 rw [if_neg (fun q=>q (sl_v hM hx hc)),sl_old2 hM hx,if_pos (show (14:Int)≠0 by decide)]
theorem sl_3 (hM:MadeP l) (hx:x∈l) {b:Bool} (hb:b=true↔(¬(x.f3.f0=0∧x.f3.f1=0∧x.f3.f2=0)∨ ∃y∈l,y.f1=x.f0)):delR l x.f0 (-1)=if b=true then ([],13) else (delL l x.f0,0):=by
  have hlk:=hM.right.look hx
  unfold delR
  rw [sl_old hM hx,if_neg (show¬(0:Int)≠0 by decide)]
  simp only [hlk]
  by_cases hk:0<(kids l x.f0).length
  · rw [if_pos hk]
    have:b=true:=hb.2 (.inr (by
      obtain ⟨s,hs⟩:=List.exists_mem_of_length_pos hk
      obtain ⟨y,hy,e,_⟩:=kids_mem.1 hs
      exact ⟨y,hy,e⟩))
    rw [if_pos this]
  · rw [if_neg hk]
    have hno:=kids_none hk
    by_cases h0:x.f3.f0=0∧x.f3.f1=0∧x.f3.f2=0
    · rw [if_pos h0,if_neg (fun q=>by
        rcases hb.1 q with q|⟨y,hy,e⟩
        · exact q h0
        · exact hno y hy e)]
    · rw [if_neg h0,if_pos (hb.2 (.inl h0))]
theorem sl_len (hM:MadeP l) (hx:x∈l):(delL l x.f0).length=l.length - 1∧1≤l.length:=by
 have hlk:=hM.right.look hx
 have hlt:=fnd_lt l x.f0
 have hge:=fnd_ge.2 ⟨x,hlk⟩
 rw [←cut_delL hM.right hlk,List.length_append,List.length_take,List.length_drop]
 omega
theorem sl_j1 (hM:MadeP l) (hx:x∈l) (hc:0≤c∧c<300):Ev (fun k=>law15_ShapeLimits.j1 k (limR l x.f0 ⟨c,x.f4.f1,x.f4.f2⟩ (-1)).1 (limR l x.f0 ⟨c,x.f4.f1,x.f4.f2⟩ (-1)).2 false x.f0 x.f1 x.f2.f0 x.f2.f1 x.f2.f2 x.f3.f0 x.f3.f1 x.f3.f2 x.f4.f0 x.f4.f1 x.f4.f2 x.f5 c x.f4.f1 x.f4.f2) true:=by
  have hlen:=hM.len
  have hv:=hM.ver x hx
  rw [sl_1 hM hx hc]
  refine Ev.step (fun k=>law15_ShapeLimits.j1.eq_2 (k:=k) ..) ?_
  simp only [Bool.false_eq_true,if_false,ss_num,Option.bind_some]
  by_cases h:x.f4.f0≤c
  · rw [if_pos h]
    have hlk:look (l.map (limG x.f0 ⟨c,x.f4.f1,x.f4.f2⟩)) x.f0=some (limG x.f0 ⟨c,x.f4.f1,x.f4.f2⟩ x):=by
      rw [look_map (limG_f0 _ _),hM.right.look hx]
      rfl
    have hge:=fnd_ge.2 ⟨_,hlk⟩
    have hlt:=fnd_lt (l.map (limG x.f0 ⟨c,x.f4.f1,x.f4.f2⟩)) x.f0
    have hrd:=fnd_rd hlk
    have hg:limG x.f0 ⟨c,x.f4.f1,x.f4.f2⟩ x=⟨x.f0,x.f1,⟨c,x.f4.f1,x.f4.f2⟩,x.f3,x.f4,x.f5+1⟩:=by unfold limG;rw [if_pos rfl]
    rw [hg] at hrd
    simp only [if_true]
    refine Ev.bind (r10_Find_ev _ x.f0 (by rw [List.length_map];omega)) ?_
    refine Ev.congr (fun k=>if_neg (by omega)) (Ev.congr (fun k=>if_pos hge) (Ev.congr (fun k=>if_pos hlt) ?_))
    rw [hrd]
    simp only [beq_self_eq_true,Bool.not_true,Bool.or_self,Bool.false_eq_true,if_false]
    rw [w64 (n:=x.f5+1) (by omega) (by omega),if_pos rfl]
    exact ss_awake_ev
  · rw [if_neg h]
    exact Ev.congr (fun k=>if_neg (by decide)) ss_awake_ev
theorem sl_end (hM:MadeP l) (hx:x∈l) (hc:0≤c∧c<300) {b:Bool} (hb:b=true↔(¬(x.f3.f0=0∧x.f3.f1=0∧x.f3.f2=0)∨ ∃y∈l,y.f1=x.f0)):
    Ev (fun k=>law15_ShapeLimits.l0 k l (limR l x.f0 ⟨c,x.f4.f1,x.f4.f2⟩ (-1)).1 (limR l x.f0 ⟨c,x.f4.f1,x.f4.f2⟩ (-1)).2 (limR l x.f0 ⟨c,x.f4.f1,x.f4.f2⟩ (x.f5+1)).2 (delR l x.f0 (-1)).1 (delR l x.f0 (-1)).2 b (l.length:Int) x.f0 x.f1 x.f2.f0 x.f2.f1 x.f2.f2 x.f3.f0 x.f3.f1 x.f3.f2 x.f4.f0 x.f4.f1 x.f4.f2 x.f5 c x.f4.f1 x.f4.f2) true:=by
  have hlen:=hM.len
  have hj:=sl_j1 hM hx hc
  have h1:(limR l x.f0 ⟨c,x.f4.f1,x.f4.f2⟩ (-1)).2=if x.f4.f0≤c then 0 else 12:=by rw [sl_1 hM hx hc];split<;>rfl
  have h3:(delR l x.f0 (-1)).2=if b=true then 13 else 0:=by rw [sl_3 hM hx hb];split<;>rfl
  have h4:b=false→((delR l x.f0 (-1)).1.length:Int)=wrap64 ((l.length:Int) - 1):=by
    intro e
    have:=sl_len hM hx
    rw [sl_3 hM hx hb,if_neg (by rw [e];decide),w64 (by omega) (by omega)]
    show ((delL l x.f0).length:Int)=_
    omega
  refine Ev.step (fun k=>law15_ShapeLimits.l0.eq_2 (k:=k) ..) ?_
  refine Ev.congr (fun k=>if_neg (by omega)) ?_
  rw [sl_2 hM hx hc]
  generalize limR l x.f0 ⟨c,x.f4.f1,x.f4.f2⟩ (-1)=r1 at h1 hj
  generalize delR l x.f0 (-1)=r3 at h3 h4
  simp only [ss_num,Option.bind_some,if_true]
  have e1:((r1.2==0) !=decide (x.f4.f0≤c))=false:=by
    rw [h1]
    by_cases h:x.f4.f0≤c<;>simp [h]
  refine Ev.congr (fun k=>if_neg (by rw [e1];decide)) ?_
  have fin:Ev (fun k=>if ((r3.2==13) !=b)=true then (none) else (if b=true then (law15_ShapeLimits.j1 k r1.1 r1.2 false x.f0 x.f1 x.f2.f0 x.f2.f1 x.f2.f2 x.f3.f0 x.f3.f1 x.f3.f2 x.f4.f0 x.f4.f1 x.f4.f2 x.f5 c x.f4.f1 x.f4.f2) else (if r3.2=0 then (law15_ShapeLimits.j1 k r1.1 r1.2 ((r3.1.length:Int) !=(wrap64 ((l.length:Int) - 1))) x.f0 x.f1 x.f2.f0 x.f2.f1 x.f2.f2 x.f3.f0 x.f3.f1 x.f3.f2 x.f4.f0 x.f4.f1 x.f4.f2 x.f5 c x.f4.f1 x.f4.f2) else (none)))) true:=by
    cases b with
    | true =>
      rw [if_pos rfl] at h3
      refine Ev.congr (fun k=>if_neg (by rw [h3];decide)) (Ev.congr (fun k=>if_pos rfl) hj)
    | false =>
      rw [if_neg (by decide)] at h3
      refine Ev.congr (fun k=>if_neg (by rw [h3];decide)) (Ev.congr (fun k=>if_neg (by decide)) (Ev.congr (fun k=>if_pos h3) ?_))
      rw [h4 rfl]
      simp only [bne_self_eq_false]
      exact hj
  by_cases h:r1.2=0
  · exact Ev.congr (fun k=>if_pos h) fin
  · refine Ev.congr (fun k => if_neg h) (Ev.congr (fun k => if_pos ?_) fin)
    rw [h1] at h ⊢
    by_cases h2:x.f4.f0≤c
    · rw [if_pos h2] at h;exact absurd rfl h
    · rw [if_neg h2]
theorem sl_l0 (hM:MadeP l) (hx:x∈l) (hc:0≤c∧c<300): ∀(d i:Nat) (b:Bool),l.length - i=d→i≤l.length→(b=true↔(¬(x.f3.f0=0∧x.f3.f1=0∧x.f3.f2=0)∨ ∃y∈l.take i,y.f1=x.f0))→
    Ev (fun k=>law15_ShapeLimits.l0 k l (limR l x.f0 ⟨c,x.f4.f1,x.f4.f2⟩ (-1)).1 (limR l x.f0 ⟨c,x.f4.f1,x.f4.f2⟩ (-1)).2 (limR l x.f0 ⟨c,x.f4.f1,x.f4.f2⟩ (x.f5+1)).2 (delR l x.f0 (-1)).1 (delR l x.f0 (-1)).2 b (i:Int) x.f0 x.f1 x.f2.f0 x.f2.f1 x.f2.f2 x.f3.f0 x.f3.f1 x.f3.f2 x.f4.f0 x.f4.f1 x.f4.f2 x.f5 c x.f4.f1 x.f4.f2) true
  | 0, i, b, hd, hi, hb => by
    obtain rfl:i=l.length:=by omega
    rw [List.take_length] at hb
    exact sl_end hM hx hc hb
  | d + 1, i, b, hd, hi, hb => by
    have hlen:=hM.len
    have hlt:i<l.length:=by omega
    have e3:wrap64 ((i:Int)+1)=((i+1:Nat):Int):=by rw [w64 (by omega) (by omega)];rfl
    have htk:l.take (i+1)=l.take i++ [rd_T31 l (i:Int)]:=by
      rw [List.take_succ_eq_append_getElem hlt,rd_get hlt]
    refine Ev.step (fun k=>law15_ShapeLimits.l0.eq_2 (k:=k) ..) ?_
    refine Ev.congr (fun k=>if_pos (by omega)) ?_
    rw [e3]
    cases b with
    | true =>
      refine Ev.congr (fun k=>if_pos rfl) (sl_l0 hM hx hc d (i+1) true (by omega) (by omega) ⟨fun _=> ?_,fun _=>rfl⟩)
      rcases hb.1 rfl with h|⟨y,hy,e⟩
      · exact .inl h
      · exact .inr ⟨y,by rw [htk];exact List.mem_append_left _ hy,e⟩
    | false =>
      refine Ev.congr (fun k=>if_neg (by decide)) (Ev.congr (fun k=>if_pos (by omega)) (sl_l0 hM hx hc d (i+1) _ (by omega) (by omega) ?_))
      have hno: ¬(¬(x.f3.f0=0∧x.f3.f1=0∧x.f3.f2=0)∨ ∃y∈l.take i,y.f1=x.f0):=fun q=>by have:=hb.2 q;cases this
      rw [htk,beq_iff_eq,nm_inj]
      constructor
      · exact fun e=> .inr ⟨_,List.mem_append_right _ (List.mem_singleton.2 rfl),e⟩
      · rintro (h | ⟨y, hy, e⟩)
        · exact absurd (.inl h) hno
        · rcases List.mem_append.1 hy with hy | hy
          · exact absurd (.inr ⟨y,hy,e⟩) hno
          · rw [List.mem_singleton.1 hy] at e
            exact e
end
end Go.Proofs.Ytcgefpklljclgaa.Print
namespace Go.Proofs.Ytcgefpklljclgaa.Pure
open Go.RowKit Go.Proofs.Ytcgefpklljclgaa.Print Go.Proofs.YtcgefpklljclgaaW.PrintWords Go.Proofs.YtcgefpklljclgaaW.PrintLast
theorem ShapeLimits:law15_ShapeLimits.Pure:=by
  intro l0 a1 a2 _ _ hw h1 h2
  have b1:=u8_bd h1
  have b2:=sl_u16 h2
  unfold law15_ShapeLimits.f
  by_cases h90:(l0.length:Int)>90
  · exact Ev.rounds (Ev.congr (fun k=>if_pos h90) ss_awake_ev)
  obtain ⟨l,hlev,hM⟩:=made_all (ns:=l0) (fun x hx=>u8_bd (hw x hx)) (by omega)
  refine Ev.rounds (Ev.congr (fun k=>if_neg h90) (Ev.bind hlev ?_))
  by_cases hz:(l.length:Int)=0
  · exact Ev.congr (fun k=>if_pos hz) ss_awake_ev
  refine Ev.congr (fun k=>if_neg hz) ?_
  have hlen:=hM.len
  rw [w64 (n:=a1) (by omega) (by omega),w64 (n:=a2) (by omega) (by omega)]
  have q1:0≤Int.tmod a1 (l.length:Int)∧Int.tmod a1 (l.length:Int)<(l.length:Int):=tmod_in b1.1 (by omega)
  have q2:0≤Int.tmod a2 300∧Int.tmod a2 300<300:=tmod_in b2.1 (by omega)
  refine Ev.congr (fun k=>by rw [if_pos q1.1,if_pos q1.2]) ?_
  have hx:rd_T31 l (Int.tmod a1 (l.length:Int))∈l:=by
    rw [rd_item,List.getD_eq_getElem?_getD,List.getElem?_eq_getElem (by omega),Option.getD_some]
    exact List.getElem_mem _
  generalize rd_T31 l (Int.tmod a1 (l.length:Int))=x at hx
  generalize Int.tmod a2 300=c at q2
  have hv:=hM.ver x hx
  have hL1:=shape_Limit_eq hM.right x.f0 ⟨c,x.f4.f1,x.f4.f2⟩ (-1)
  have hL2:=shape_Limit_eq hM.right x.f0 ⟨c,x.f4.f1,x.f4.f2⟩ (x.f5+1)
  dsimp only at hL1 hL2
  rw [w64 (n:=x.f5+1) (by omega) (by omega),hL1,hL2]
  simp only [Option.bind_some]
  refine Ev.bind (shape_Delete_ev hM.right x.f0 (-1)) ?_
  refine sl_l0 hM hx q2 l.length 0 _ (by omega) (by omega) ?_
  simp only [List.take_zero,List.not_mem_nil,false_and,exists_false,or_false,Bool.or_eq_true,Bool.not_eq_true',beq_eq_false_iff_ne,ne_eq]
  constructor
  · rintro (h | h | h) ⟨z0, z1, z2⟩
    · exact h z0
    · exact h z1
    · exact h z2
  · intro h
    by_cases z0:x.f3.f0=0
    · by_cases z1 : x.f3.f1 = 0
      · exact .inr (.inr fun z2=>h ⟨z0,z1,z2⟩)
      · exact .inr (.inl z1)
    · exact .inl z0
end Go.Proofs.Ytcgefpklljclgaa.Pure

namespace Go.Proofs.Ytcgefpklljclgaa.Head
def signs:List Char:=(List.map Char.ofNat [104,97,114,110,101,115,115,32,101,57,98,52,101,102,52,49,56,50,56,101,102,50,55,102,51,55,102,48,53,54,50,55,56,50,54,101,101,100,101,57,53,99,56,98,55,57,99,100,98,99,52,99,49,100,54,49,98,101,98,55,57,55,52,102,49,51,53,99,97,49,48,51,32,99,117,116,32,97,116,32,100,111,111,114,107,101,101,112,101,114,47,100,111,111,114,107,101,101,112,101,114,108,97,119,49,51,46,82,111,111,109,85,112,32,100,111,111,114,107,101,101,112,101,114,47,100,111,111,114,107,101,101,112,101,114,108,97,119,49,55,46,68,114,105,102,116,65,108,108,32,100,111,111,114,107,101,101,112,101,114,47,100,111,111,114,107,101,101,112,101,114,108,97,119,49,55,46,68,114,105,102,116,84,101,108,108,115,32,100,111,111,114,107,101,101,112,101,114,47,100,111,111,114,107,101,101,112,101,114,108,97,119,50,48,46,69,102,102,101,99,116,65,108,108,32,100,111,111,114,107,101,101,112,101,114,47,100,111,111,114,107,101,101,112,101,114,108,97,119,50,48,46,69,102,102,101,99,116,77,97,100,101,32,100,111,111,114,107,101,101,112,101,114,47,100,111,111,114,107,101,101,112,101,114,108,97,119,50,48,46,69,102,102,101,99,116,68,111,110,101,32,100,111,111,114,107,101,101,112,101,114,47,100,111,111,114,107,101,101,112,101,114,108,97,119,49,52,46,65,100,109,105,116,84,119,105,99,101,32,100,111,111,114,107,101,101,112,101,114,47,100,111,111,114,107,101,101,112,101,114,108,97,119,49,51,46,82,111,111,109,70,105,116,115,32,100,111,111,114,107,101,101,112,101,114,47,100,111,111,114,107,101,101,112,101,114,108,97,119,49,50,46,84,114,101,101,65,108,108,32,100,111,111,114,107,101,101,112,101,114,47,100,111,111,114,107,101,101,112,101,114,108,97,119,49,50,46,84,114,101,101,77,97,100,101,32,100,111,111,114,107,101,101,112,101,114,47,100,111,111,114,107,101,101,112,101,114,108,97,119,49,50,46,84,114,101,101,83,117,109,115,32,100,111,111,114,107,101,101,112,101,114,47,100,111,111,114,107,101,101,112,101,114,108,97,119,49,50,46,84,114,101,101,66,101,108,111,119,32,100,111,111,114,107,101,101,112,101,114,47,100,111,111,114,107,101,101,112,101,114,108,97,119,49,51,46,82,111,111,109,83,104,97,114,101,115,32,100,111,111,114,107,101,101,112,101,114,47,100,111,111,114,107,101,101,112,101,114,108,97,119,49,52,46,65,100,109,105,116,65,108,108,32,100,111,111,114,107,101,101,112,101,114,47,100,111,111,114,107,101,101,112,101,114,108,97,119,49,52,46,65,100,109,105,116,77,97,100,101,32,100,111,111,114,107,101,101,112,101,114,47,100,111,111,114,107,101,101,112,101,114,108,97,119,49,52,46,65,100,109,105,116,82,111,111,109,32,100,111,111,114,107,101,101,112,101,114,47,100,111,111,114,107,101,101,112,101,114,108,97,119,49,51,46,82,111,111,109,65,108,108,32,100,111,111,114,107,101,101,112,101,114,47,100,111,111,114,107,101,101,112,101,114,108,97,119,49,51,46,82,111,111,109,77,97,100,101,32,100,111,111,114,107,101,101,112,101,114,47,100,111,111,114,107,101,101,112,101,114,108,97,119,49,53,46,83,104,97,112,101,77,97,110,121,32,100,111,111,114,107,101,101,112,101,114,47,100,111,111,114,107,101,101,112,101,114,108,97,119,49,53,46,83,104,97,112,101,67,111,109,101,115,32,100,111,111,114,107,101,101,112,101,114,47,100,111,111,114,107,101,101,112,101,114,108,97,119,49,53,46,83,104,97,112,101,76,105,109,105,116,115,32,100,111,111,114,107,101,101,112,101,114,47,100,111,111,114,107,101,101,112,101,114,108,97,119,49,53,46,83,104,97,112,101,77,111,118,101,115,32,100,111,111,114,107,101,101,112,101,114,47,100,111,111,114,107,101,101,112,101,114,108,97,119,49,53,46,83,104,97,112,101,65,108,108,32,100,111,111,114,107,101,101,112,101,114,47,100,111,111,114,107,101,101,112,101,114,108,97,119,49,53,46,83,104,97,112,101,77,97,100,101,32,100,111,111,114,107,101,101,112,101,114,47,100,111,111,114,107,101,101,112,101,114,108,97,119,49,53,46,83,104,97,112,101,82,101,115,116,32,100,111,111,114,107,101,101,112,101,114,47,100,111,111,114,107,101,101,112,101,114,108,97,119,49,57,46,84,114,105,97,108,67,117,116,115,32,100,111,111,114,107,101,101,112,101,114,47,100,111,111,114,107,101,101,112,101,114,108,97,119,49,57,46,84,114,105,97,108,65,108,108,32,100,111,111,114,107,101,101,112,101,114,47,100,111,111,114,107,101,101,112,101,114,108,97,119,49,57,46,84,114,105,97,108,77,97,100,101])
set_option maxRecDepth 100000 in
theorem word:Try.prog.initOrder=String.ofList signs:=by kernel_rfl
theorem list:Try.prog.initOrder.toList=signs:=by rw [word,String.toList_ofList]
theorem words_app: ∀(w r:List Char),(∀c∈w,c≠Char.ofNat 32)→wordsSigns (w++Char.ofNat 32::r)=w::wordsSigns r
  |[],r,_=>rfl
  | c :: w, r, h => by
    have hc:c≠Char.ofNat 32:=h c (by simp)
    have ih:=words_app w r (fun d hd=>h d (by simp [hd]))
    show wordsSigns (c::(w++Char.ofNat 32::r))=_
    rw [wordsSigns.eq_3 _ _ (fun q=>hc q),ih]
def w1:List Char:=[Char.ofNat 104,Char.ofNat 97,Char.ofNat 114,Char.ofNat 110,Char.ofNat 101,Char.ofNat 115,Char.ofNat 115]
def w2:List Char:=(List.map Char.ofNat [101,57,98,52,101,102,52,49,56,50,56,101,102,50,55,102,51,55,102,48,53,54,50,55,56,50,54,101,101,100,101,57,53,99,56,98,55,57,99,100,98,99,52,99,49,100,54,49,98,101,98,55,57,55,52,102,49,51,53,99,97,49,48,51])
def w3:List Char:=[Char.ofNat 99,Char.ofNat 117,Char.ofNat 116]
def rest:List Char:=(List.map Char.ofNat [97,116,32,100,111,111,114,107,101,101,112,101,114,47,100,111,111,114,107,101,101,112,101,114,108,97,119,49,51,46,82,111,111,109,85,112,32,100,111,111,114,107,101,101,112,101,114,47,100,111,111,114,107,101,101,112,101,114,108,97,119,49,55,46,68,114,105,102,116,65,108,108,32,100,111,111,114,107,101,101,112,101,114,47,100,111,111,114,107,101,101,112,101,114,108,97,119,49,55,46,68,114,105,102,116,84,101,108,108,115,32,100,111,111,114,107,101,101,112,101,114,47,100,111,111,114,107,101,101,112,101,114,108,97,119,50,48,46,69,102,102,101,99,116,65,108,108,32,100,111,111,114,107,101,101,112,101,114,47,100,111,111,114,107,101,101,112,101,114,108,97,119,50,48,46,69,102,102,101,99,116,77,97,100,101,32,100,111,111,114,107,101,101,112,101,114,47,100,111,111,114,107,101,101,112,101,114,108,97,119,50,48,46,69,102,102,101,99,116,68,111,110,101,32,100,111,111,114,107,101,101,112,101,114,47,100,111,111,114,107,101,101,112,101,114,108,97,119,49,52,46,65,100,109,105,116,84,119,105,99,101,32,100,111,111,114,107,101,101,112,101,114,47,100,111,111,114,107,101,101,112,101,114,108,97,119,49,51,46,82,111,111,109,70,105,116,115,32,100,111,111,114,107,101,101,112,101,114,47,100,111,111,114,107,101,101,112,101,114,108,97,119,49,50,46,84,114,101,101,65,108,108,32,100,111,111,114,107,101,101,112,101,114,47,100,111,111,114,107,101,101,112,101,114,108,97,119,49,50,46,84,114,101,101,77,97,100,101,32,100,111,111,114,107,101,101,112,101,114,47,100,111,111,114,107,101,101,112,101,114,108,97,119,49,50,46,84,114,101,101,83,117,109,115,32,100,111,111,114,107,101,101,112,101,114,47,100,111,111,114,107,101,101,112,101,114,108,97,119,49,50,46,84,114,101,101,66,101,108,111,119,32,100,111,111,114,107,101,101,112,101,114,47,100,111,111,114,107,101,101,112,101,114,108,97,119,49,51,46,82,111,111,109,83,104,97,114,101,115,32,100,111,111,114,107,101,101,112,101,114,47,100,111,111,114,107,101,101,112,101,114,108,97,119,49,52,46,65,100,109,105,116,65,108,108,32,100,111,111,114,107,101,101,112,101,114,47,100,111,111,114,107,101,101,112,101,114,108,97,119,49,52,46,65,100,109,105,116,77,97,100,101,32,100,111,111,114,107,101,101,112,101,114,47,100,111,111,114,107,101,101,112,101,114,108,97,119,49,52,46,65,100,109,105,116,82,111,111,109,32,100,111,111,114,107,101,101,112,101,114,47,100,111,111,114,107,101,101,112,101,114,108,97,119,49,51,46,82,111,111,109,65,108,108,32,100,111,111,114,107,101,101,112,101,114,47,100,111,111,114,107,101,101,112,101,114,108,97,119,49,51,46,82,111,111,109,77,97,100,101,32,100,111,111,114,107,101,101,112,101,114,47,100,111,111,114,107,101,101,112,101,114,108,97,119,49,53,46,83,104,97,112,101,77,97,110,121,32,100,111,111,114,107,101,101,112,101,114,47,100,111,111,114,107,101,101,112,101,114,108,97,119,49,53,46,83,104,97,112,101,67,111,109,101,115,32,100,111,111,114,107,101,101,112,101,114,47,100,111,111,114,107,101,101,112,101,114,108,97,119,49,53,46,83,104,97,112,101,76,105,109,105,116,115,32,100,111,111,114,107,101,101,112,101,114,47,100,111,111,114,107,101,101,112,101,114,108,97,119,49,53,46,83,104,97,112,101,77,111,118,101,115,32,100,111,111,114,107,101,101,112,101,114,47,100,111,111,114,107,101,101,112,101,114,108,97,119,49,53,46,83,104,97,112,101,65,108,108,32,100,111,111,114,107,101,101,112,101,114,47,100,111,111,114,107,101,101,112,101,114,108,97,119,49,53,46,83,104,97,112,101,77,97,100,101,32,100,111,111,114,107,101,101,112,101,114,47,100,111,111,114,107,101,101,112,101,114,108,97,119,49,53,46,83,104,97,112,101,82,101,115,116,32,100,111,111,114,107,101,101,112,101,114,47,100,111,111,114,107,101,101,112,101,114,108,97,119,49,57,46,84,114,105,97,108,67,117,116,115,32,100,111,111,114,107,101,101,112,101,114,47,100,111,111,114,107,101,101,112,101,114,108,97,119,49,57,46,84,114,105,97,108,65,108,108,32,100,111,111,114,107,101,101,112,101,114,47,100,111,111,114,107,101,101,112,101,114,108,97,119,49,57,46,84,114,105,97,108,77,97,100,101])
theorem parts:signs=w1++Char.ofNat 32::(w2++Char.ofNat 32::(w3++Char.ofNat 32::rest)):=by kernel_rfl
theorem behind: ∃r,behindMainWord (wordsSigns Try.prog.initOrder.toList)=w3::r:=by
 refine ⟨wordsSigns rest, ?_⟩
 rw [list,parts,words_app w1 _ (by decide),words_app w2 _ (by decide),words_app w3 _ (by decide)]
 generalize wordsSigns rest=r
 rfl
theorem strip (r:List (List Char)):stripLifts liftWords (w3::r)=([],w3::r):=by kernel_rfl
theorem not_carried (r:List (List Char)):((w3::r).head?==some "carried".toList)=false:=by kernel_rfl
theorem is_cut (r:List (List Char)):((w3::r).head?==some "cut".toList)=true:=by kernel_rfl
theorem not_gc:(w3== "gc".toList||w3== "spec".toList)=false:=by kernel_rfl
theorem cut_:(w3== "cut".toList)=true:=by kernel_rfl
theorem lifts_of {P:Program} {r:List (List Char)} (h:behindMainWord (wordsSigns P.initOrder.toList)=w3::r):P.liftsFinal=false:=by
 unfold Program.liftsFinal Program.headLifts
 simp only [h,strip,not_carried,is_cut,if_true,Bool.false_and,Bool.false_or,List.contains_nil]
theorem make_of {P:Program} {r:List (List Char)} (h:behindMainWord (wordsSigns P.initOrder.toList)=w3::r):P.make=some .cut:=by
 unfold Program.make
 simp only [h,not_gc,cut_,Bool.true_or,if_true,Bool.false_eq_true,if_false]
theorem lifts:Try.prog.liftsFinal=false:=by obtain ⟨r,h⟩:=behind;exact lifts_of h
theorem make:Try.prog.make=some .cut:=by obtain ⟨r,h⟩:=behind;exact make_of h
theorem later:Try.prog.laysLater=false:=by kernel_rfl
theorem reflects:Try.prog.bearsReflect=false:=by kernel_rfl
theorem door:Try.prog.doorFits []=true:=by kernel_rfl
theorem may_of {P:Program} {r:List (List Char)} (h:behindMainWord (wordsSigns P.initOrder.toList)=w3::r) (h1:P.laysLater=false) (h2:P.bearsReflect=false) (h3:P.doorFits []=true):P.mayEnter=true:=by
 unfold Program.mayEnter
 simp only [h,strip,is_cut,h1,h2,h3,List.contains_nil,Bool.not_false,Bool.or_true,Bool.and_true,Bool.and_self]
theorem mayEnter:Try.prog.mayEnter=true:=by obtain ⟨r,h⟩:=behind;exact may_of h later reflects door
theorem stopsHeard:Try.prog.stopsHeard=true:=by kernel_rfl
theorem laidOut:laidOutB Try.prog=true:=by kernel_rfl
theorem mapsRowed:mapsRowed Try.prog=true:=by kernel_rfl
theorem stops:(Try.prog.stops==[])=true:=by kernel_rfl
theorem stopKnobs:(Try.prog.stopKnobs==[])=true:=by kernel_rfl
end Go.Proofs.Ytcgefpklljclgaa.Head
