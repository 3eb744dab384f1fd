/- ShapeMoves: a part -/
import Derived.Laws.Strings
import Derived.Shelf.Abstract
import Derived.Deep.RegionLaw
import Derived.Shelf.RegionOpenPlain
import Derived.Laws.Cover1
import Derived.Test.YtcgefpklljclgaaRows
import Derived.WalkKit
import Derived.ProofKit
import Derived.OpenShut
import Derived.JoinedOf
import Derived.SizedLaws
import Derived.ChangeSlices
import Derived.Test.YtcgefpklljclgaaBShapeMoves0
import Derived.Test.YtcgefpklljclgaaBShapeMoves1
import Derived.Test.YtcgefpklljclgaaBShapeMoves2
set_option linter.unusedVariables false
set_option linter.unusedSimpArgs false
namespace Go.Proofs.Ytcgefpklljclgaa.Print
open Go.RowKit Go.Proofs.YtcgefpklljclgaaW.PrintWords Go.Proofs.YtcgefpklljclgaaW.PrintLast Go.Proofs.YtcgefpklljclgaaW.PrintMore
attribute [local go_sem] max2_int min2_int max_two min_two max_three min_three max_four min_four

attribute [local go_sem high] eqA31
mutual
def law15_ShapeMoves.j0:Nat→List (S31)→ByteArray→ByteArray→ByteArray→Int→Int→Int→Int→Int→Int→Int→Int→Int→Int→Option (Bool)
 |0,_,_,_,_,_,_,_,_,_,_,_,_,_,_=>none
 |k+1,x7,x9,x8000,x8001,x8002,x8003,x8004,x8005,x8006,x8007,x8008,x8009,x8010,x8011=>(r10_Find.f k x7 x9).bind fun t9=>(law15_ShapeMoves.l0 k x7 x9 false t9 x8000 x8001 x8002 x8003 x8004 x8005 x8006 x8007 x8008 x8009 x8010 x8011)
def law15_ShapeMoves.l0:Nat→List (S31)→ByteArray→Bool→Int→ByteArray→ByteArray→Int→Int→Int→Int→Int→Int→Int→Int→Int→Int→Option (Bool)
 |0,_,_,_,_,_,_,_,_,_,_,_,_,_,_,_,_=>none
 |k+1,x7,x9,x10,x11,x8000,x8001,x8002,x8003,x8004,x8005,x8006,x8007,x8008,x8009,x8010,x8011=>if x11≥0 then (if x10=true then (if 0≤x11 then (if x11<(x7.length:Int) then ((r10_Find.f k x7 ((rd_T31 x7 x11).f1)).bind fun t11=>(law15_ShapeMoves.l0 k x7 x9 true t11 x8000 x8001 x8002 x8003 x8004 x8005 x8006 x8007 x8008 x8009 x8010 x8011)) else (none)) else (none)) else (if 0≤x11 then (if x11<(x7.length:Int) then ((r10_Find.f k x7 ((rd_T31 x7 x11).f1)).bind fun t14=>(law15_ShapeMoves.l0 k x7 x9 (((rd_T31 x7 x11).f0).toList==x8000.toList) t14 x8000 x8001 x8002 x8003 x8004 x8005 x8006 x8007 x8008 x8009 x8010 x8011)) else (none)) else (none))) else ((shape_Move.f k x7 x8000 x9 x8011).bind fun bt15=>(if x10=true then ((law1_Num.f bt15.2).bind fun t19=>(if t19=10 then ((law15_awake.f).bind fun t20=>(some t20)) else (none))) else ((law1_Num.f bt15.2).bind fun t21=>(if t21=0 then ((shape_Move.f k bt15.1 x8000 x8001 (wrap64 (x8011+1))).bind fun bt24=>((shape_Move.f k bt15.1 x8000 x8001 x8011).bind fun bt28=>((law1_Num.f bt24.2).bind fun t32=>(if t32=0 then ((law1_Num.f bt28.2).bind fun t33=>(if t33=14 then (law15_ShapeMoves.j2 k x7 bt24.1 ((bt24.1.length:Int) !=(x7.length:Int)) x8000 x8001 x8002 x8003 x8004 x8005 x8006 x8007 x8008 x8009 x8010 x8011) else (none))) else (none))))) else ((law1_Num.f bt15.2).bind fun t22=>(if t22=12 then ((law15_awake.f).bind fun t23=>(some t23)) else (none)))))))
def law15_ShapeMoves.j2:Nat→List (S31)→List (S31)→Bool→ByteArray→ByteArray→Int→Int→Int→Int→Int→Int→Int→Int→Int→Int→Option (Bool)
 |0,_,_,_,_,_,_,_,_,_,_,_,_,_,_,_=>none
 |k+1,x7,x14,x143,x8000,x8001,x8002,x8003,x8004,x8005,x8006,x8007,x8008,x8009,x8010,x8011=>if x143=true then (none) else (law15_ShapeMoves.l1 k x7 x14 0 x8000 x8001 x8002 x8003 x8004 x8005 x8006 x8007 x8008 x8009 x8010 x8011)
def law15_ShapeMoves.l1:Nat→List (S31)→List (S31)→Int→ByteArray→ByteArray→Int→Int→Int→Int→Int→Int→Int→Int→Int→Int→Option (Bool)
 |0,_,_,_,_,_,_,_,_,_,_,_,_,_,_,_=>none
 |k+1,x7,x14,x18,x8000,x8001,x8002,x8003,x8004,x8005,x8006,x8007,x8008,x8009,x8010,x8011=>if x18<(x14.length:Int) then (if 0≤x18 then (if x18<(x7.length:Int) then (if ((rd_T31 x7 x18).f0).toList=x8000.toList then (if (!((((rd_T31 x14 x18).f0).toList)==(((rd_T31 x7 x18).f0).toList))||(!((((rd_T31 x14 x18).f1).toList)==(((rd_T31 x7 x18).f1).toList))||((!(((rd_T31 x14 x18).f2.f0)==((rd_T31 x7 x18).f2.f0))||(!(((rd_T31 x14 x18).f2.f1)==((rd_T31 x7 x18).f2.f1))||(!(((rd_T31 x14 x18).f2.f2)==((rd_T31 x7 x18).f2.f2)))))||((!(((rd_T31 x14 x18).f3.f0)==((rd_T31 x7 x18).f3.f0))||(!(((rd_T31 x14 x18).f3.f1)==((rd_T31 x7 x18).f3.f1))||(!(((rd_T31 x14 x18).f3.f2)==((rd_T31 x7 x18).f3.f2)))))||((!(((rd_T31 x14 x18).f4.f0)==((rd_T31 x7 x18).f4.f0))||(!(((rd_T31 x14 x18).f4.f1)==((rd_T31 x7 x18).f4.f1))||(!(((rd_T31 x14 x18).f4.f2)==((rd_T31 x7 x18).f4.f2)))))||(!(((rd_T31 x14 x18).f5)==(wrap64 (((rd_T31 x7 x18).f5)+2)))))))))=true then (none) else (law15_ShapeMoves.l1 k x7 x14 (wrap64 (x18+1)) x8000 x8001 x8002 x8003 x8004 x8005 x8006 x8007 x8008 x8009 x8010 x8011)) else (if (!((((rd_T31 x14 x18).f0).toList)==(((rd_T31 x7 x18).f0).toList))||(!((((rd_T31 x14 x18).f1).toList)==(((rd_T31 x7 x18).f1).toList))||((!(((rd_T31 x14 x18).f2.f0)==((rd_T31 x7 x18).f2.f0))||(!(((rd_T31 x14 x18).f2.f1)==((rd_T31 x7 x18).f2.f1))||(!(((rd_T31 x14 x18).f2.f2)==((rd_T31 x7 x18).f2.f2)))))||((!(((rd_T31 x14 x18).f3.f0)==((rd_T31 x7 x18).f3.f0))||(!(((rd_T31 x14 x18).f3.f1)==((rd_T31 x7 x18).f3.f1))||(!(((rd_T31 x14 x18).f3.f2)==((rd_T31 x7 x18).f3.f2)))))||((!(((rd_T31 x14 x18).f4.f0)==((rd_T31 x7 x18).f4.f0))||(!(((rd_T31 x14 x18).f4.f1)==((rd_T31 x7 x18).f4.f1))||(!(((rd_T31 x14 x18).f4.f2)==((rd_T31 x7 x18).f4.f2)))))||(!(((rd_T31 x14 x18).f5)==((rd_T31 x7 x18).f5))))))))=true then (none) else (law15_ShapeMoves.l1 k x7 x14 (wrap64 (x18+1)) x8000 x8001 x8002 x8003 x8004 x8005 x8006 x8007 x8008 x8009 x8010 x8011))) else (none)) else (none)) else ((law15_awake.f).bind fun t34=>(some t34))
end
def law15_ShapeMoves.f (k:Nat) (l0:List Int) (a1:Int) (a2:Int):Option (Bool):=if (l0.length:Int)>90 then ((law15_awake.f).bind fun t1=>(some t1)) else ((law12_Make.f k l0).bind fun t2=>(if (t2.length:Int)=0 then ((law15_awake.f).bind fun t5=>(some t5)) else (if 0≤(Int.tmod (wrap64 (a1)) (t2.length:Int)) then (if (Int.tmod (wrap64 (a1)) (t2.length:Int))<(t2.length:Int) then (if (wrap64 ((t2.length:Int)+1))=0 then (none) else (if (Int.tmod (wrap64 (a2)) (wrap64 ((t2.length:Int)+1)))<(t2.length:Int) then (if 0≤(Int.tmod (wrap64 (a2)) (wrap64 ((t2.length:Int)+1))) then (law15_ShapeMoves.j0 k t2 ((rd_T31 t2 (Int.tmod (wrap64 (a2)) (wrap64 ((t2.length:Int)+1)))).f0) ((rd_T31 t2 (Int.tmod (wrap64 (a1)) (t2.length:Int))).f0) ((rd_T31 t2 (Int.tmod (wrap64 (a1)) (t2.length:Int))).f1) ((rd_T31 t2 (Int.tmod (wrap64 (a1)) (t2.length:Int))).f2.f0) ((rd_T31 t2 (Int.tmod (wrap64 (a1)) (t2.length:Int))).f2.f1) ((rd_T31 t2 (Int.tmod (wrap64 (a1)) (t2.length:Int))).f2.f2) ((rd_T31 t2 (Int.tmod (wrap64 (a1)) (t2.length:Int))).f3.f0) ((rd_T31 t2 (Int.tmod (wrap64 (a1)) (t2.length:Int))).f3.f1) ((rd_T31 t2 (Int.tmod (wrap64 (a1)) (t2.length:Int))).f3.f2) ((rd_T31 t2 (Int.tmod (wrap64 (a1)) (t2.length:Int))).f4.f0) ((rd_T31 t2 (Int.tmod (wrap64 (a1)) (t2.length:Int))).f4.f1) ((rd_T31 t2 (Int.tmod (wrap64 (a1)) (t2.length:Int))).f4.f2) ((rd_T31 t2 (Int.tmod (wrap64 (a1)) (t2.length:Int))).f5)) else (none)) else (law15_ShapeMoves.j0 k t2 (⟨#[]⟩:ByteArray) ((rd_T31 t2 (Int.tmod (wrap64 (a1)) (t2.length:Int))).f0) ((rd_T31 t2 (Int.tmod (wrap64 (a1)) (t2.length:Int))).f1) ((rd_T31 t2 (Int.tmod (wrap64 (a1)) (t2.length:Int))).f2.f0) ((rd_T31 t2 (Int.tmod (wrap64 (a1)) (t2.length:Int))).f2.f1) ((rd_T31 t2 (Int.tmod (wrap64 (a1)) (t2.length:Int))).f2.f2) ((rd_T31 t2 (Int.tmod (wrap64 (a1)) (t2.length:Int))).f3.f0) ((rd_T31 t2 (Int.tmod (wrap64 (a1)) (t2.length:Int))).f3.f1) ((rd_T31 t2 (Int.tmod (wrap64 (a1)) (t2.length:Int))).f3.f2) ((rd_T31 t2 (Int.tmod (wrap64 (a1)) (t2.length:Int))).f4.f0) ((rd_T31 t2 (Int.tmod (wrap64 (a1)) (t2.length:Int))).f4.f1) ((rd_T31 t2 (Int.tmod (wrap64 (a1)) (t2.length:Int))).f4.f2) ((rd_T31 t2 (Int.tmod (wrap64 (a1)) (t2.length:Int))).f5)))) else (none)) else (none))))
theorem law15_ShapeMoves.mono_l: ∀k,(∀y0 y1 y2 y3 y4 y5 y6 y7 y8 y9 y10 y11 y12 y13,LeO (law15_ShapeMoves.j0 k y0 y1 y2 y3 y4 y5 y6 y7 y8 y9 y10 y11 y12 y13) (law15_ShapeMoves.j0 (k+1) y0 y1 y2 y3 y4 y5 y6 y7 y8 y9 y10 y11 y12 y13))∧(∀y0 y1 y2 y3 y4 y5 y6 y7 y8 y9 y10 y11 y12 y13 y14 y15,LeO (law15_ShapeMoves.l0 k y0 y1 y2 y3 y4 y5 y6 y7 y8 y9 y10 y11 y12 y13 y14 y15) (law15_ShapeMoves.l0 (k+1) y0 y1 y2 y3 y4 y5 y6 y7 y8 y9 y10 y11 y12 y13 y14 y15))∧(∀y0 y1 y2 y3 y4 y5 y6 y7 y8 y9 y10 y11 y12 y13 y14,LeO (law15_ShapeMoves.j2 k y0 y1 y2 y3 y4 y5 y6 y7 y8 y9 y10 y11 y12 y13 y14) (law15_ShapeMoves.j2 (k+1) y0 y1 y2 y3 y4 y5 y6 y7 y8 y9 y10 y11 y12 y13 y14))∧(∀y0 y1 y2 y3 y4 y5 y6 y7 y8 y9 y10 y11 y12 y13 y14,LeO (law15_ShapeMoves.l1 k y0 y1 y2 y3 y4 y5 y6 y7 y8 y9 y10 y11 y12 y13 y14) (law15_ShapeMoves.l1 (k+1) y0 y1 y2 y3 y4 y5 y6 y7 y8 y9 y10 y11 y12 y13 y14))
 |0=>⟨fun _ _ _ _ _ _ _ _ _ _ _ _ _ _ r h=>by simp [law15_ShapeMoves.j0] at h,fun _ _ _ _ _ _ _ _ _ _ _ _ _ _ _ _ r h=>by simp [law15_ShapeMoves.l0] at h,fun _ _ _ _ _ _ _ _ _ _ _ _ _ _ _ r h=>by simp [law15_ShapeMoves.j2] at h,fun _ _ _ _ _ _ _ _ _ _ _ _ _ _ _ r h=>by simp [law15_ShapeMoves.l1] at h⟩
 |k+1=>by
  obtain ⟨ih0,ih1,ih2,ih3⟩:=law15_ShapeMoves.mono_l k
  refine ⟨?_, ?_, ?_, ?_⟩
  ·intro y0 y1 y2 y3 y4 y5 y6 y7 y8 y9 y10 y11 y12 y13
   unfold law15_ShapeMoves.j0
   repeat' first
   |(with_reducible exact ih0 _ _ _ _ _ _ _ _ _ _ _ _ _ _)
   |(with_reducible exact ih1 _ _ _ _ _ _ _ _ _ _ _ _ _ _ _ _)
   |(with_reducible exact ih2 _ _ _ _ _ _ _ _ _ _ _ _ _ _ _)
   |(with_reducible exact ih3 _ _ _ _ _ _ _ _ _ _ _ _ _ _ _)
   |(with_reducible exact law12_Make.mono _ _)
   |(with_reducible exact r10_Find.mono _ _ _)
   |(with_reducible exact shape_Move.mono _ _ _ _ _)
   |(with_reducible exact LeO.refl _)
   |(with_reducible exact LeO.none _)
   |(with_reducible refine LeO.ite ?_ ?_)
   |(with_reducible refine LeO.bind ?_ (fun _=> ?_))
   |exact ih0 _ _ _ _ _ _ _ _ _ _ _ _ _ _
   |exact ih1 _ _ _ _ _ _ _ _ _ _ _ _ _ _ _ _
   |exact ih2 _ _ _ _ _ _ _ _ _ _ _ _ _ _ _
   |exact ih3 _ _ _ _ _ _ _ _ _ _ _ _ _ _ _
   |exact law12_Make.mono _ _
   |exact r10_Find.mono _ _ _
   |exact shape_Move.mono _ _ _ _ _
   |exact LeO.none _
   |refine LeO.ite ?_ ?_
   |refine LeO.bind ?_ (fun _=> ?_)
  ·intro y0 y1 y2 y3 y4 y5 y6 y7 y8 y9 y10 y11 y12 y13 y14 y15
   unfold law15_ShapeMoves.l0
   repeat' first
   |(with_reducible exact ih0 _ _ _ _ _ _ _ _ _ _ _ _ _ _)
   |(with_reducible exact ih1 _ _ _ _ _ _ _ _ _ _ _ _ _ _ _ _)
   |(with_reducible exact ih2 _ _ _ _ _ _ _ _ _ _ _ _ _ _ _)
   |(with_reducible exact ih3 _ _ _ _ _ _ _ _ _ _ _ _ _ _ _)
   |(with_reducible exact law12_Make.mono _ _)
   |(with_reducible exact r10_Find.mono _ _ _)
   |(with_reducible exact shape_Move.mono _ _ _ _ _)
   |(with_reducible exact LeO.refl _)
   |(with_reducible exact LeO.none _)
   |(with_reducible refine LeO.ite ?_ ?_)
   |(with_reducible refine LeO.bind ?_ (fun _=> ?_))
   |exact ih0 _ _ _ _ _ _ _ _ _ _ _ _ _ _
   |exact ih1 _ _ _ _ _ _ _ _ _ _ _ _ _ _ _ _
   |exact ih2 _ _ _ _ _ _ _ _ _ _ _ _ _ _ _
   |exact ih3 _ _ _ _ _ _ _ _ _ _ _ _ _ _ _
   |exact law12_Make.mono _ _
   |exact r10_Find.mono _ _ _
   |exact shape_Move.mono _ _ _ _ _
   |exact LeO.none _
   |refine LeO.ite ?_ ?_
   |refine LeO.bind ?_ (fun _=> ?_)
  ·intro y0 y1 y2 y3 y4 y5 y6 y7 y8 y9 y10 y11 y12 y13 y14
   unfold law15_ShapeMoves.j2
   repeat' first
   |(with_reducible exact ih0 _ _ _ _ _ _ _ _ _ _ _ _ _ _)
   |(with_reducible exact ih1 _ _ _ _ _ _ _ _ _ _ _ _ _ _ _ _)
   |(with_reducible exact ih2 _ _ _ _ _ _ _ _ _ _ _ _ _ _ _)
   |(with_reducible exact ih3 _ _ _ _ _ _ _ _ _ _ _ _ _ _ _)
   |(with_reducible exact law12_Make.mono _ _)
   |(with_reducible exact r10_Find.mono _ _ _)
   |(with_reducible exact shape_Move.mono _ _ _ _ _)
   |(with_reducible exact LeO.refl _)
   |(with_reducible exact LeO.none _)
   |(with_reducible refine LeO.ite ?_ ?_)
   |(with_reducible refine LeO.bind ?_ (fun _=> ?_))
   |exact ih0 _ _ _ _ _ _ _ _ _ _ _ _ _ _
   |exact ih1 _ _ _ _ _ _ _ _ _ _ _ _ _ _ _ _
   |exact ih2 _ _ _ _ _ _ _ _ _ _ _ _ _ _ _
   |exact ih3 _ _ _ _ _ _ _ _ _ _ _ _ _ _ _
   |exact law12_Make.mono _ _
   |exact r10_Find.mono _ _ _
   |exact shape_Move.mono _ _ _ _ _
   |exact LeO.none _
   |refine LeO.ite ?_ ?_
   |refine LeO.bind ?_ (fun _=> ?_)
  intro y0 y1 y2 y3 y4 y5 y6 y7 y8 y9 y10 y11 y12 y13 y14
  unfold law15_ShapeMoves.l1
  repeat' first
  |(with_reducible exact ih0 _ _ _ _ _ _ _ _ _ _ _ _ _ _)
  |(with_reducible exact ih1 _ _ _ _ _ _ _ _ _ _ _ _ _ _ _ _)
  |(with_reducible exact ih2 _ _ _ _ _ _ _ _ _ _ _ _ _ _ _)
  |(with_reducible exact ih3 _ _ _ _ _ _ _ _ _ _ _ _ _ _ _)
  |(with_reducible exact law12_Make.mono _ _)
  |(with_reducible exact r10_Find.mono _ _ _)
  |(with_reducible exact shape_Move.mono _ _ _ _ _)
  |(with_reducible exact LeO.refl _)
  |(with_reducible exact LeO.none _)
  |(with_reducible refine LeO.ite ?_ ?_)
  |(with_reducible refine LeO.bind ?_ (fun _=> ?_))
  |exact ih0 _ _ _ _ _ _ _ _ _ _ _ _ _ _
  |exact ih1 _ _ _ _ _ _ _ _ _ _ _ _ _ _ _ _
  |exact ih2 _ _ _ _ _ _ _ _ _ _ _ _ _ _ _
  |exact ih3 _ _ _ _ _ _ _ _ _ _ _ _ _ _ _
  |exact law12_Make.mono _ _
  |exact r10_Find.mono _ _ _
  |exact shape_Move.mono _ _ _ _ _
  |exact LeO.none _
  |refine LeO.ite ?_ ?_
  |refine LeO.bind ?_ (fun _=> ?_)
theorem law15_ShapeMoves.mono: ∀a0 a1 a2 k,LeO (law15_ShapeMoves.f k a0 a1 a2) (law15_ShapeMoves.f (k+1) a0 a1 a2):=by
 intro a0 a1 a2 k
 obtain ⟨ih0,ih1,ih2,ih3⟩:=law15_ShapeMoves.mono_l k
 unfold law15_ShapeMoves.f
 repeat' first
  |(with_reducible exact ih0 _ _ _ _ _ _ _ _ _ _ _ _ _ _)
  |(with_reducible exact ih1 _ _ _ _ _ _ _ _ _ _ _ _ _ _ _ _)
  |(with_reducible exact ih2 _ _ _ _ _ _ _ _ _ _ _ _ _ _ _)
  |(with_reducible exact ih3 _ _ _ _ _ _ _ _ _ _ _ _ _ _ _)
  |(with_reducible exact law12_Make.mono _ _)
  |(with_reducible exact r10_Find.mono _ _ _)
  |(with_reducible exact shape_Move.mono _ _ _ _ _)
  |(with_reducible exact LeO.refl _)
  |(with_reducible exact LeO.none _)
  |(with_reducible refine LeO.ite ?_ ?_)
  |(with_reducible refine LeO.bind ?_ (fun _=> ?_))
  |exact ih0 _ _ _ _ _ _ _ _ _ _ _ _ _ _
  |exact ih1 _ _ _ _ _ _ _ _ _ _ _ _ _ _ _ _
  |exact ih2 _ _ _ _ _ _ _ _ _ _ _ _ _ _ _
  |exact ih3 _ _ _ _ _ _ _ _ _ _ _ _ _ _ _
  |exact law12_Make.mono _ _
  |exact r10_Find.mono _ _ _
  |exact shape_Move.mono _ _ _ _ _
  |exact LeO.none _
  |refine LeO.ite ?_ ?_
  |refine LeO.bind ?_ (fun _=> ?_)
set_option maxHeartbeats 80000000 in
set_option maxRecDepth 100000 in
theorem law15_ShapeMoves.calls (k:Nat) (A0:Option Addr) (c0:Nat) (l0:List Int) (a1:Int) (a2:Int) (r:Bool) (w:World) (hr0:Kd.C (Kd.int .u8) w A0 l0.length l0) (hc0:l0.length≤c0) (h:law15_ShapeMoves.f k l0 a1 a2=some r):
  Calls Try.prog 24 #[.slice A0 l0.length c0, .int .u8 a1, .int .u8 a2] w fun e w'=>e= .returned (.bool r)∧Below w.heap.size w w':=by
 have hu31:=Try.underlying31
 have HR0:=Aside0.mk hr0
 have HC0:=Aside0.mk hc0
 clear hr0 hc0
 have HB:=am_ (Below.refl w.heap.size w)
 have H:(if (l0.length:Int)>90 then ((law15_awake.f).bind fun t1=>(some t1)) else ((law12_Make.f k l0).bind fun t2=>(if (t2.length:Int)=0 then ((law15_awake.f).bind fun t5=>(some t5)) else (if 0≤(Int.tmod (wrap64 (a1)) (t2.length:Int)) then (if (Int.tmod (wrap64 (a1)) (t2.length:Int))<(t2.length:Int) then (if (wrap64 ((t2.length:Int)+1))=0 then (none) else (if (Int.tmod (wrap64 (a2)) (wrap64 ((t2.length:Int)+1)))<(t2.length:Int) then (if 0≤(Int.tmod (wrap64 (a2)) (wrap64 ((t2.length:Int)+1))) then (law15_ShapeMoves.j0 k t2 ((rd_T31 t2 (Int.tmod (wrap64 (a2)) (wrap64 ((t2.length:Int)+1)))).f0) ((rd_T31 t2 (Int.tmod (wrap64 (a1)) (t2.length:Int))).f0) ((rd_T31 t2 (Int.tmod (wrap64 (a1)) (t2.length:Int))).f1) ((rd_T31 t2 (Int.tmod (wrap64 (a1)) (t2.length:Int))).f2.f0) ((rd_T31 t2 (Int.tmod (wrap64 (a1)) (t2.length:Int))).f2.f1) ((rd_T31 t2 (Int.tmod (wrap64 (a1)) (t2.length:Int))).f2.f2) ((rd_T31 t2 (Int.tmod (wrap64 (a1)) (t2.length:Int))).f3.f0) ((rd_T31 t2 (Int.tmod (wrap64 (a1)) (t2.length:Int))).f3.f1) ((rd_T31 t2 (Int.tmod (wrap64 (a1)) (t2.length:Int))).f3.f2) ((rd_T31 t2 (Int.tmod (wrap64 (a1)) (t2.length:Int))).f4.f0) ((rd_T31 t2 (Int.tmod (wrap64 (a1)) (t2.length:Int))).f4.f1) ((rd_T31 t2 (Int.tmod (wrap64 (a1)) (t2.length:Int))).f4.f2) ((rd_T31 t2 (Int.tmod (wrap64 (a1)) (t2.length:Int))).f5)) else (none)) else (law15_ShapeMoves.j0 k t2 (⟨#[]⟩:ByteArray) ((rd_T31 t2 (Int.tmod (wrap64 (a1)) (t2.length:Int))).f0) ((rd_T31 t2 (Int.tmod (wrap64 (a1)) (t2.length:Int))).f1) ((rd_T31 t2 (Int.tmod (wrap64 (a1)) (t2.length:Int))).f2.f0) ((rd_T31 t2 (Int.tmod (wrap64 (a1)) (t2.length:Int))).f2.f1) ((rd_T31 t2 (Int.tmod (wrap64 (a1)) (t2.length:Int))).f2.f2) ((rd_T31 t2 (Int.tmod (wrap64 (a1)) (t2.length:Int))).f3.f0) ((rd_T31 t2 (Int.tmod (wrap64 (a1)) (t2.length:Int))).f3.f1) ((rd_T31 t2 (Int.tmod (wrap64 (a1)) (t2.length:Int))).f3.f2) ((rd_T31 t2 (Int.tmod (wrap64 (a1)) (t2.length:Int))).f4.f0) ((rd_T31 t2 (Int.tmod (wrap64 (a1)) (t2.length:Int))).f4.f1) ((rd_T31 t2 (Int.tmod (wrap64 (a1)) (t2.length:Int))).f4.f2) ((rd_T31 t2 (Int.tmod (wrap64 (a1)) (t2.length:Int))).f5)))) else (none)) else (none)))))=some r:=h
 clear h
 by_cases c4:(l0.length:Int)>90
 ·rw [if_pos c4] at H
  have c4b0:decide (90<(l0.length:Int))=true:=decide_eq_true c4
  have c4b1:decide (90<l0.length)=true:=decide_eq_true (by omega)
  clear c4
  replace H:=Option.bind_eq_some_iff.mp H
  obtain ⟨t1,A50,H⟩:=H
  try dsimp only at H
  have A5:=Aside0.mk A50
  clear A50
  obtain rfl:=Option.some.inj H
  go_enter Try.func24,Try.ntmps24
  go_wp2_with (first|(go_at_call 85;(with_reducible refine (law15_awake.calls t1 _ A5.out).mono ?_);rintro e w6 ⟨rfl,hb⟩;replace HB:=am_ (below_step (zl0_ HB) hb);(try clear hb);(try clear hb2);(try clear hk);(try clear hi)))
  repeat (go_quiet (first|(go_at_call 85;(with_reducible refine (law15_awake.calls t1 _ A5.out).mono ?_);rintro e w6 ⟨rfl,hb⟩;replace HB:=am_ (below_step (zl0_ HB) hb);(try clear hb);(try clear hb2);(try clear hk);(try clear hi)));try go_wp2_with (first|(go_at_call 85;(with_reducible refine (law15_awake.calls t1 _ A5.out).mono ?_);rintro e w6 ⟨rfl,hb⟩;replace HB:=am_ (below_step (zl0_ HB) hb);(try clear hb);(try clear hb2);(try clear hk);(try clear hi))))
  go_ret
  exact ⟨by first|rfl|(simp [errW_none,errW_some]<;>rfl)|(simp [*,errW_none,errW_some]<;>rfl),zl0_ HB⟩
 rw [if_neg c4] at H
 have c4b0:decide (90<(l0.length:Int))=false:=decide_eq_false c4
 have c4b1:decide (90<l0.length)=false:=decide_eq_false (by omega)
 clear c4
 replace H:=Option.bind_eq_some_iff.mp H
 obtain ⟨t2,A70,H⟩:=H
 try dsimp only at H
 have A7:=Aside0.mk A70
 clear A70
 by_cases c8:(t2.length:Int)=0
 ·rw [if_pos c8] at H
  have c8b0:((t2.length:Int)==0)=true:=beq_iff_eq.mpr c8
  have c8b1:((t2.length:Int) !=0)=false:=bne_eq_false_iff_eq.mpr c8
  clear c8
  replace H:=Option.bind_eq_some_iff.mp H
  obtain ⟨t5,A90,H⟩:=H
  try dsimp only at H
  have A9:=Aside0.mk A90
  clear A90
  obtain rfl:=Option.some.inj H
  go_enter Try.func24,Try.ntmps24
  go_wp2_with (first|(go_at_call 32;(with_reducible refine (law12_Make.calls k _ _ l0 t2 _ ?side1 ?side2 A7.out).mono ?_);(case side1=>repeat (first|exact HR0.out|(with_reducible refine Kd.C_alloc ?_ _)|(with_reducible refine Kd.C_drewN ?_ _)|(with_reducible refine Kd.C_drew ?_)));(case side2=>exact HC0.out);rintro e w10 ⟨v3,rfl,ho0,hb⟩;have HO4:=am_ (Kd.R_lower ho0 (below_size (zl0_ HB)));replace HB:=am_ (below_step (zl0_ HB) hb);(try clear hb);(try clear hb2);(try clear hk);(try clear hi);(try clear ho0);obtain ⟨Ao11,co11,eo11⟩:=Kd.R_slice HO4.out;subst eo11)|(go_at_call 85;(with_reducible refine (law15_awake.calls t5 _ A9.out).mono ?_);rintro e w12 ⟨rfl,hb⟩;replace HO4:=am_ (Kd.R_below (zr_ HO4) hb);replace HB:=am_ (below_step (zl0_ HB) hb);(try clear hb);(try clear hb2);(try clear hk);(try clear hi)))
  repeat (go_quiet (first|(go_at_call 32;(with_reducible refine (law12_Make.calls k _ _ l0 t2 _ ?side1 ?side2 A7.out).mono ?_);(case side1=>repeat (first|exact HR0.out|(with_reducible refine Kd.C_alloc ?_ _)|(with_reducible refine Kd.C_drewN ?_ _)|(with_reducible refine Kd.C_drew ?_)));(case side2=>exact HC0.out);rintro e w10 ⟨v3,rfl,ho0,hb⟩;have HO4:=am_ (Kd.R_lower ho0 (below_size (zl0_ HB)));replace HB:=am_ (below_step (zl0_ HB) hb);(try clear hb);(try clear hb2);(try clear hk);(try clear hi);(try clear ho0);obtain ⟨Ao11,co11,eo11⟩:=Kd.R_slice HO4.out;subst eo11)|(go_at_call 85;(with_reducible refine (law15_awake.calls t5 _ A9.out).mono ?_);rintro e w12 ⟨rfl,hb⟩;replace HO4:=am_ (Kd.R_below (zr_ HO4) hb);replace HB:=am_ (below_step (zl0_ HB) hb);(try clear hb);(try clear hb2);(try clear hk);(try clear hi)));try go_wp2_with (first|(go_at_call 32;(with_reducible refine (law12_Make.calls k _ _ l0 t2 _ ?side1 ?side2 A7.out).mono ?_);(case side1=>repeat (first|exact HR0.out|(with_reducible refine Kd.C_alloc ?_ _)|(with_reducible refine Kd.C_drewN ?_ _)|(with_reducible refine Kd.C_drew ?_)));(case side2=>exact HC0.out);rintro e w10 ⟨v3,rfl,ho0,hb⟩;have HO4:=am_ (Kd.R_lower ho0 (below_size (zl0_ HB)));replace HB:=am_ (below_step (zl0_ HB) hb);(try clear hb);(try clear hb2);(try clear hk);(try clear hi);(try clear ho0);obtain ⟨Ao11,co11,eo11⟩:=Kd.R_slice HO4.out;subst eo11)|(go_at_call 85;(with_reducible refine (law15_awake.calls t5 _ A9.out).mono ?_);rintro e w12 ⟨rfl,hb⟩;replace HO4:=am_ (Kd.R_below (zr_ HO4) hb);replace HB:=am_ (below_step (zl0_ HB) hb);(try clear hb);(try clear hb2);(try clear hk);(try clear hi))))
  go_ret
  exact ⟨by first|rfl|(simp [errW_none,errW_some]<;>rfl)|(simp [*,errW_none,errW_some]<;>rfl),zl0_ HB⟩
 rw [if_neg c8] at H
 have c8b0:((t2.length:Int)==0)=false:=beq_eq_false_iff_ne.mpr c8
 have c8b1:((t2.length:Int) !=0)=true:=bne_iff_ne.mpr c8
 have c8b2: ¬(t2=[]):=fun h_=>c8 (by rw [h_];rfl)
 obtain ⟨ji13,hji13⟩: ∃j_:Int,(Int.tmod (wrap64 (a1)) (t2.length:Int))=j_:=⟨_,rfl⟩
 replace H:(if 0≤(ji13) then (if (ji13)<(t2.length:Int) then (if (wrap64 ((t2.length:Int)+1))=0 then (none) else (if (Int.tmod (wrap64 (a2)) (wrap64 ((t2.length:Int)+1)))<(t2.length:Int) then (if 0≤(Int.tmod (wrap64 (a2)) (wrap64 ((t2.length:Int)+1))) then (law15_ShapeMoves.j0 k t2 ((rd_T31 t2 (Int.tmod (wrap64 (a2)) (wrap64 ((t2.length:Int)+1)))).f0) ((rd_T31 t2 (ji13)).f0) ((rd_T31 t2 (ji13)).f1) ((rd_T31 t2 (ji13)).f2.f0) ((rd_T31 t2 (ji13)).f2.f1) ((rd_T31 t2 (ji13)).f2.f2) ((rd_T31 t2 (ji13)).f3.f0) ((rd_T31 t2 (ji13)).f3.f1) ((rd_T31 t2 (ji13)).f3.f2) ((rd_T31 t2 (ji13)).f4.f0) ((rd_T31 t2 (ji13)).f4.f1) ((rd_T31 t2 (ji13)).f4.f2) ((rd_T31 t2 (ji13)).f5)) else (none)) else (law15_ShapeMoves.j0 k t2 (⟨#[]⟩:ByteArray) ((rd_T31 t2 (ji13)).f0) ((rd_T31 t2 (ji13)).f1) ((rd_T31 t2 (ji13)).f2.f0) ((rd_T31 t2 (ji13)).f2.f1) ((rd_T31 t2 (ji13)).f2.f2) ((rd_T31 t2 (ji13)).f3.f0) ((rd_T31 t2 (ji13)).f3.f1) ((rd_T31 t2 (ji13)).f3.f2) ((rd_T31 t2 (ji13)).f4.f0) ((rd_T31 t2 (ji13)).f4.f1) ((rd_T31 t2 (ji13)).f4.f2) ((rd_T31 t2 (ji13)).f5)))) else (none)) else (none))=some r:=by first|(rw [hji13] at H;exact H)|(simp only [hji13] at H ⊢;exact H)
 (try rw [hji13] at A7)
 by_cases c14:0≤(ji13)
 rotate_left
 ·rw [if_neg c14] at H
  cases H
 rw [if_pos c14] at H
 have c14b0:decide (0≤(ji13))=true:=decide_eq_true c14
 clear c14
 by_cases c15:(ji13)<(t2.length:Int)
 rotate_left
 ·rw [if_neg c15] at H
  cases H
 rw [if_pos c15] at H
 have c15b0:decide ((ji13)<(t2.length:Int))=true:=decide_eq_true c15
 clear c15
 by_cases c16:(wrap64 ((t2.length:Int)+1))=0
 ·rw [if_pos c16] at H
  cases H
 rw [if_neg c16] at H
 have c16b0:((wrap64 ((t2.length:Int)+1))==0)=false:=beq_eq_false_iff_ne.mpr c16
 have c16b1:((wrap64 ((t2.length:Int)+1)) !=0)=true:=bne_iff_ne.mpr c16
 have HC17:=Aside0.mk H
 clear H
 go_enter Try.func24,Try.ntmps24
 go_upto_if 46 with (first|(go_at_call 32;(with_reducible refine (law12_Make.calls k _ _ l0 t2 _ ?side1 ?side2 A7.out).mono ?_);(case side1=>repeat (first|exact HR0.out|(with_reducible refine Kd.C_alloc ?_ _)|(with_reducible refine Kd.C_drewN ?_ _)|(with_reducible refine Kd.C_drew ?_)));(case side2=>exact HC0.out);rintro e w18 ⟨v3,rfl,ho0,hb⟩;have HO4:=am_ (Kd.R_lower ho0 (below_size (zl0_ HB)));replace HB:=am_ (below_step (zl0_ HB) hb);(try clear hb);(try clear hb2);(try clear hk);(try clear hi);(try clear ho0);obtain ⟨Ao19,co19,eo19⟩:=Kd.R_slice HO4.out;subst eo19;have p6:0≤((ji13):Int):=of_decide_eq_true zq_;have q6:(ji13)<(t2.length:Int):=of_decide_eq_true zq_;obtain ⟨ad6,e6,hx6_0,hx6_1,hx6_2,hx6_3,hx6_4,hx6_5,hx6_6,hx6_7,hx6_8,hx6_9,hx6_10,hx6_11⟩:=at_T31 (Kd.R_reads' HO4.out).2.2 (ji13) p6 q6;cases e6;replace p6:=eq_true p6;replace q6:=eq_true q6)|((with_reducible refine gate_dst (N:=8) rfl ?_);(try (refine gate_guard (by rfl) ?_;dsimp only));refine bx_ (N:=8) (cs:=#[.string (⟨#[]⟩:ByteArray), .string (⟨#[]⟩:ByteArray), .int .i64 0, .int .i64 0, .int .i64 0, .int .i64 0, .int .i64 0, .int .i64 0, .int .i64 0, .int .i64 0, .int .i64 0, .int .i64 0]) (t:=31) ?_;intro gb7 hg w20 hbox hb;replace HO4:=am_ (Kd.R_below (Kd.R_elderB (zr_ HO4) gb7 (Nat.le_of_eq hg.symm)) hb);have BK7:=am_ (hbox);have GW7:=am_ ((zg0_ HB hg:w.heap.size≤gb7));have GE7:=am_ ((zg0_ HB hg:w.heap.size≤gb7));replace HB:=am_ (below_step (zl0_ HB) hb);clear hb hbox hg)|((with_reducible refine gate_store (t:=31) (p:=8) (v:= .tmp 37) rfl ?_);refine store_all BK7.out 31 (.tmp 8) (.tmp 37) rfl rfl rfl (.agg #[.string (rd_T31 t2 (ji13)).f0, .string (rd_T31 t2 (ji13)).f1, .int .i64 (rd_T31 t2 (ji13)).f2.f0, .int .i64 (rd_T31 t2 (ji13)).f2.f1, .int .i64 (rd_T31 t2 (ji13)).f2.f2, .int .i64 (rd_T31 t2 (ji13)).f3.f0, .int .i64 (rd_T31 t2 (ji13)).f3.f1, .int .i64 (rd_T31 t2 (ji13)).f3.f2, .int .i64 (rd_T31 t2 (ji13)).f4.f0, .int .i64 (rd_T31 t2 (ji13)).f4.f1, .int .i64 (rd_T31 t2 (ji13)).f4.f2, .int .i64 (rd_T31 t2 (ji13)).f5]) [.string (rd_T31 t2 (ji13)).f0, .string (rd_T31 t2 (ji13)).f1, .int .i64 (rd_T31 t2 (ji13)).f2.f0, .int .i64 (rd_T31 t2 (ji13)).f2.f1, .int .i64 (rd_T31 t2 (ji13)).f2.f2, .int .i64 (rd_T31 t2 (ji13)).f3.f0, .int .i64 (rd_T31 t2 (ji13)).f3.f1, .int .i64 (rd_T31 t2 (ji13)).f3.f2, .int .i64 (rd_T31 t2 (ji13)).f4.f0, .int .i64 (rd_T31 t2 (ji13)).f4.f1, .int .i64 (rd_T31 t2 (ji13)).f4.f2, .int .i64 (rd_T31 t2 (ji13)).f5] rfl rfl rfl (by kernel_rfl) rfl (by intro q hq;simp only [List.mem_cons,List.not_mem_nil,or_false] at hq;rcases hq with rfl|rfl|rfl|rfl|rfl|rfl|rfl|rfl|rfl|rfl|rfl|rfl<;>rfl) ?_;intro w22 hbk hg;have n0_:=am_ (Kd.R_mono (Kd.R_grown HO4.out hg (fun k_ hk e=>by have:=hk.2;have:=Option.some.inj e;omega)) (fun k_ hk=>(hk.2:k_≠gb7)));have n3_:=am_ (below_put HB.out (below_size HB.out) hg GE7.out);have n2_:=Aside0.mk hbk;clear HO4 HB BK7 hbk hg;have HO4:=n0_;have HB:=n3_;have BK7:=n2_;clear n0_ n2_ n3_;clear hx6_0 hx6_1 hx6_2 hx6_3 hx6_4 hx6_5 hx6_6 hx6_7 hx6_8 hx6_9 hx6_10 hx6_11))
 repeat (go_quiet (first|(go_at_call 32;(with_reducible refine (law12_Make.calls k _ _ l0 t2 _ ?side1 ?side2 A7.out).mono ?_);(case side1=>repeat (first|exact HR0.out|(with_reducible refine Kd.C_alloc ?_ _)|(with_reducible refine Kd.C_drewN ?_ _)|(with_reducible refine Kd.C_drew ?_)));(case side2=>exact HC0.out);rintro e w18 ⟨v3,rfl,ho0,hb⟩;have HO4:=am_ (Kd.R_lower ho0 (below_size (zl0_ HB)));replace HB:=am_ (below_step (zl0_ HB) hb);(try clear hb);(try clear hb2);(try clear hk);(try clear hi);(try clear ho0);obtain ⟨Ao19,co19,eo19⟩:=Kd.R_slice HO4.out;subst eo19;have p6:0≤((ji13):Int):=of_decide_eq_true zq_;have q6:(ji13)<(t2.length:Int):=of_decide_eq_true zq_;obtain ⟨ad6,e6,hx6_0,hx6_1,hx6_2,hx6_3,hx6_4,hx6_5,hx6_6,hx6_7,hx6_8,hx6_9,hx6_10,hx6_11⟩:=at_T31 (Kd.R_reads' HO4.out).2.2 (ji13) p6 q6;cases e6;replace p6:=eq_true p6;replace q6:=eq_true q6)|((with_reducible refine gate_dst (N:=8) rfl ?_);(try (refine gate_guard (by rfl) ?_;dsimp only));refine bx_ (N:=8) (cs:=#[.string (⟨#[]⟩:ByteArray), .string (⟨#[]⟩:ByteArray), .int .i64 0, .int .i64 0, .int .i64 0, .int .i64 0, .int .i64 0, .int .i64 0, .int .i64 0, .int .i64 0, .int .i64 0, .int .i64 0]) (t:=31) ?_;intro gb7 hg w20 hbox hb;replace HO4:=am_ (Kd.R_below (Kd.R_elderB (zr_ HO4) gb7 (Nat.le_of_eq hg.symm)) hb);have BK7:=am_ (hbox);have GW7:=am_ ((zg0_ HB hg:w.heap.size≤gb7));have GE7:=am_ ((zg0_ HB hg:w.heap.size≤gb7));replace HB:=am_ (below_step (zl0_ HB) hb);clear hb hbox hg));go_upto_if 46 with (first|(go_at_call 32;(with_reducible refine (law12_Make.calls k _ _ l0 t2 _ ?side1 ?side2 A7.out).mono ?_);(case side1=>repeat (first|exact HR0.out|(with_reducible refine Kd.C_alloc ?_ _)|(with_reducible refine Kd.C_drewN ?_ _)|(with_reducible refine Kd.C_drew ?_)));(case side2=>exact HC0.out);rintro e w18 ⟨v3,rfl,ho0,hb⟩;have HO4:=am_ (Kd.R_lower ho0 (below_size (zl0_ HB)));replace HB:=am_ (below_step (zl0_ HB) hb);(try clear hb);(try clear hb2);(try clear hk);(try clear hi);(try clear ho0);obtain ⟨Ao19,co19,eo19⟩:=Kd.R_slice HO4.out;subst eo19;have p6:0≤((ji13):Int):=of_decide_eq_true zq_;have q6:(ji13)<(t2.length:Int):=of_decide_eq_true zq_;obtain ⟨ad6,e6,hx6_0,hx6_1,hx6_2,hx6_3,hx6_4,hx6_5,hx6_6,hx6_7,hx6_8,hx6_9,hx6_10,hx6_11⟩:=at_T31 (Kd.R_reads' HO4.out).2.2 (ji13) p6 q6;cases e6;replace p6:=eq_true p6;replace q6:=eq_true q6)|((with_reducible refine gate_dst (N:=8) rfl ?_);(try (refine gate_guard (by rfl) ?_;dsimp only));refine bx_ (N:=8) (cs:=#[.string (⟨#[]⟩:ByteArray), .string (⟨#[]⟩:ByteArray), .int .i64 0, .int .i64 0, .int .i64 0, .int .i64 0, .int .i64 0, .int .i64 0, .int .i64 0, .int .i64 0, .int .i64 0, .int .i64 0]) (t:=31) ?_;intro gb7 hg w20 hbox hb;replace HO4:=am_ (Kd.R_below (Kd.R_elderB (zr_ HO4) gb7 (Nat.le_of_eq hg.symm)) hb);have BK7:=am_ (hbox);have GW7:=am_ ((zg0_ HB hg:w.heap.size≤gb7));have GE7:=am_ ((zg0_ HB hg:w.heap.size≤gb7));replace HB:=am_ (below_step (zl0_ HB) hb);clear hb hbox hg)|((with_reducible refine gate_store (t:=31) (p:=8) (v:= .tmp 37) rfl ?_);refine store_all BK7.out 31 (.tmp 8) (.tmp 37) rfl rfl rfl (.agg #[.string (rd_T31 t2 (ji13)).f0, .string (rd_T31 t2 (ji13)).f1, .int .i64 (rd_T31 t2 (ji13)).f2.f0, .int .i64 (rd_T31 t2 (ji13)).f2.f1, .int .i64 (rd_T31 t2 (ji13)).f2.f2, .int .i64 (rd_T31 t2 (ji13)).f3.f0, .int .i64 (rd_T31 t2 (ji13)).f3.f1, .int .i64 (rd_T31 t2 (ji13)).f3.f2, .int .i64 (rd_T31 t2 (ji13)).f4.f0, .int .i64 (rd_T31 t2 (ji13)).f4.f1, .int .i64 (rd_T31 t2 (ji13)).f4.f2, .int .i64 (rd_T31 t2 (ji13)).f5]) [.string (rd_T31 t2 (ji13)).f0, .string (rd_T31 t2 (ji13)).f1, .int .i64 (rd_T31 t2 (ji13)).f2.f0, .int .i64 (rd_T31 t2 (ji13)).f2.f1, .int .i64 (rd_T31 t2 (ji13)).f2.f2, .int .i64 (rd_T31 t2 (ji13)).f3.f0, .int .i64 (rd_T31 t2 (ji13)).f3.f1, .int .i64 (rd_T31 t2 (ji13)).f3.f2, .int .i64 (rd_T31 t2 (ji13)).f4.f0, .int .i64 (rd_T31 t2 (ji13)).f4.f1, .int .i64 (rd_T31 t2 (ji13)).f4.f2, .int .i64 (rd_T31 t2 (ji13)).f5] rfl rfl rfl (by kernel_rfl) rfl (by intro q hq;simp only [List.mem_cons,List.not_mem_nil,or_false] at hq;rcases hq with rfl|rfl|rfl|rfl|rfl|rfl|rfl|rfl|rfl|rfl|rfl|rfl<;>rfl) ?_;intro w22 hbk hg;have n0_:=am_ (Kd.R_mono (Kd.R_grown HO4.out hg (fun k_ hk e=>by have:=hk.2;have:=Option.some.inj e;omega)) (fun k_ hk=>(hk.2:k_≠gb7)));have n3_:=am_ (below_put HB.out (below_size HB.out) hg GE7.out);have n2_:=Aside0.mk hbk;clear HO4 HB BK7 hbk hg;have HO4:=n0_;have HB:=n3_;have BK7:=n2_;clear n0_ n2_ n3_;clear hx6_0 hx6_1 hx6_2 hx6_3 hx6_4 hx6_5 hx6_6 hx6_7 hx6_8 hx6_9 hx6_10 hx6_11)))
 (try simp only [Act.put,List.setIfInBounds_toArray,List.set_cons_zero,List.set_cons_succ])
 go_cut [9] (fun v9 wc=> ∃(kq:Nat) (x9_16:ByteArray),v9= .string x9_16∧Aside0 (law15_ShapeMoves.j0 kq t2 x9_16 ((rd_T31 t2 (ji13)).f0) ((rd_T31 t2 (ji13)).f1) ((rd_T31 t2 (ji13)).f2.f0) ((rd_T31 t2 (ji13)).f2.f1) ((rd_T31 t2 (ji13)).f2.f2) ((rd_T31 t2 (ji13)).f3.f0) ((rd_T31 t2 (ji13)).f3.f1) ((rd_T31 t2 (ji13)).f3.f2) ((rd_T31 t2 (ji13)).f4.f0) ((rd_T31 t2 (ji13)).f4.f1) ((rd_T31 t2 (ji13)).f4.f2) ((rd_T31 t2 (ji13)).f5)=some r)∧Aside0 (kq≤k)∧Aside0 (Kd.R k31 31 wc w.heap.size (fun k_=>k_≠gb7) (.slice (some ad6) t2.length co19) t2)∧Aside0 (wc.heap[gb7]?=some (.cells #[.string ((rd_T31 t2 (ji13)).f0), .string ((rd_T31 t2 (ji13)).f1), .int .i64 ((rd_T31 t2 (ji13)).f2.f0), .int .i64 ((rd_T31 t2 (ji13)).f2.f1), .int .i64 ((rd_T31 t2 (ji13)).f2.f2), .int .i64 ((rd_T31 t2 (ji13)).f3.f0), .int .i64 ((rd_T31 t2 (ji13)).f3.f1), .int .i64 ((rd_T31 t2 (ji13)).f3.f2), .int .i64 ((rd_T31 t2 (ji13)).f4.f0), .int .i64 ((rd_T31 t2 (ji13)).f4.f1), .int .i64 ((rd_T31 t2 (ji13)).f4.f2), .int .i64 ((rd_T31 t2 (ji13)).f5)] 31 (0,0)))∧Aside0 (Below w.heap.size w wc))
 case first=>
  have H:=HC17.out
  clear HC17
  by_cases c22:(Int.tmod (wrap64 (a2)) (wrap64 ((t2.length:Int)+1)))<(t2.length:Int)
  rotate_left
  ·rw [if_neg c22] at H
   have c22b0:decide ((Int.tmod (wrap64 (a2)) (wrap64 ((t2.length:Int)+1)))<(t2.length:Int))=false:=decide_eq_false c22
   clear c22
   (first|rw [c22b0]|(simp only [i64_w,i32_w];rw [c22b0])|skip)
   have H':=Aside0.mk H
   clear H
   go_wp2
   repeat (go_quiet (fail);try go_wp2)
   go_meet
   case rel=>exact ⟨_,((⟨#[]⟩:ByteArray)),(by first|rfl|(simp;done)|(simp [*];done)),H',⟨by first|omega|exact Nat.le_refl _⟩,⟨by (with_reducible repeat (first|apply Kd.R_alloc|apply Kd.R_drewN|apply Kd.R_drew));exact HO4.out⟩,BK7,⟨zl0_ HB⟩⟩
  rw [if_pos c22] at H
  have c22b0:decide ((Int.tmod (wrap64 (a2)) (wrap64 ((t2.length:Int)+1)))<(t2.length:Int))=true:=decide_eq_true c22
  clear c22
  (first|rw [c22b0]|(simp only [i64_w,i32_w];rw [c22b0])|skip)
  obtain ⟨ji23,hji23⟩: ∃j_:Int,(Int.tmod (wrap64 (a2)) (wrap64 ((t2.length:Int)+1)))=j_:=⟨_,rfl⟩
  replace H:(if 0≤(ji23) then (law15_ShapeMoves.j0 k t2 ((rd_T31 t2 (ji23)).f0) ((rd_T31 t2 (ji13)).f0) ((rd_T31 t2 (ji13)).f1) ((rd_T31 t2 (ji13)).f2.f0) ((rd_T31 t2 (ji13)).f2.f1) ((rd_T31 t2 (ji13)).f2.f2) ((rd_T31 t2 (ji13)).f3.f0) ((rd_T31 t2 (ji13)).f3.f1) ((rd_T31 t2 (ji13)).f3.f2) ((rd_T31 t2 (ji13)).f4.f0) ((rd_T31 t2 (ji13)).f4.f1) ((rd_T31 t2 (ji13)).f4.f2) ((rd_T31 t2 (ji13)).f5)) else (none))=some r:=by first|(rw [hji23] at H;exact H)|(simp only [hji23] at H ⊢;exact H)
  (try rw [hji23] at c22b0)
  by_cases c24:0≤(ji23)
  rotate_left
  ·rw [if_neg c24] at H
   cases H
  rw [if_pos c24] at H
  have c24b0:decide (0≤(ji23))=true:=decide_eq_true c24
  clear c24
  have H':=Aside0.mk H
  clear H
  have p8:0≤((ji23):Int):=of_decide_eq_true zq_
  have q8:(ji23)<(t2.length:Int):=of_decide_eq_true zq_
  obtain ⟨ad8,e8,hx8_0,hx8_1,hx8_2,hx8_3,hx8_4,hx8_5,hx8_6,hx8_7,hx8_8,hx8_9,hx8_10,hx8_11⟩:=at_T31 (Kd.R_reads' HO4.out).2.2 (ji23) p8 q8
  obtain rfl:ad6=ad8:=(by injection e8)
  have hy8_0:=fun (n_:Nat)=>(show (w22.drewN n_).cell? _=some _ from hx8_0)
  have hy8_1:=fun (n_:Nat)=>(show (w22.drewN n_).cell? _=some _ from hx8_1)
  have hy8_2:=fun (n_:Nat)=>(show (w22.drewN n_).cell? _=some _ from hx8_2)
  have hy8_3:=fun (n_:Nat)=>(show (w22.drewN n_).cell? _=some _ from hx8_3)
  have hy8_4:=fun (n_:Nat)=>(show (w22.drewN n_).cell? _=some _ from hx8_4)
  have hy8_5:=fun (n_:Nat)=>(show (w22.drewN n_).cell? _=some _ from hx8_5)
  have hy8_6:=fun (n_:Nat)=>(show (w22.drewN n_).cell? _=some _ from hx8_6)
  have hy8_7:=fun (n_:Nat)=>(show (w22.drewN n_).cell? _=some _ from hx8_7)
  have hy8_8:=fun (n_:Nat)=>(show (w22.drewN n_).cell? _=some _ from hx8_8)
  have hy8_9:=fun (n_:Nat)=>(show (w22.drewN n_).cell? _=some _ from hx8_9)
  have hy8_10:=fun (n_:Nat)=>(show (w22.drewN n_).cell? _=some _ from hx8_10)
  have hy8_11:=fun (n_:Nat)=>(show (w22.drewN n_).cell? _=some _ from hx8_11)
  replace p8:=eq_true p8
  replace q8:=eq_true q8
  go_wp2
  repeat (go_quiet (fail);try go_wp2)
  go_meet
  case rel=>exact ⟨_,((rd_T31 t2 (ji23)).f0),(by first|rfl|(simp;done)|(simp only [←hji23]<;>(first|rfl|simp))|(simp [*];done)),H',⟨by first|omega|exact Nat.le_refl _⟩,⟨by (with_reducible repeat (first|apply Kd.R_alloc|apply Kd.R_drewN|apply Kd.R_drew));exact HO4.out⟩,BK7,⟨zl0_ HB⟩⟩
 case rest=>
  clear HC17
  try clear c1
  try clear c2
  try clear p2
  try clear c4
  try clear c4b0
  try clear c4b1
  try clear p6
  try clear q6
  try clear hx6
  try clear c8
  try clear c8b0
  try clear c8b1
  try clear c8b2
  try clear p8
  try clear q8
  try clear hx8
  try clear c14
  try clear c14b0
  try clear c15
  try clear c15b0
  try clear c16
  try clear c16b0
  try clear c16b1
  try clear c22
  try clear c22b0
  try clear c24
  try clear c24b0
  try clear hcz21_0
  try clear hcz21_1
  try clear hcz21_10
  try clear hcz21_11
  try clear hcz21_2
  try clear hcz21_3
  try clear hcz21_4
  try clear hcz21_5
  try clear hcz21_6
  try clear hcz21_7
  try clear hcz21_8
  try clear hcz21_9
  try clear hfz21_0
  try clear hfz21_1
  try clear hfz21_10
  try clear hfz21_11
  try clear hfz21_2
  try clear hfz21_3
  try clear hfz21_4
  try clear hfz21_5
  try clear hfz21_6
  try clear hfz21_7
  try clear hfz21_8
  try clear hfz21_9
  try clear hx6_0
  try clear hx6_1
  try clear hx6_10
  try clear hx6_11
  try clear hx6_2
  try clear hx6_3
  try clear hx6_4
  try clear hx6_5
  try clear hx6_6
  try clear hx6_7
  try clear hx6_8
  try clear hx6_9
  try clear hx8_0
  try clear hx8_1
  try clear hx8_10
  try clear hx8_11
  try clear hx8_2
  try clear hx8_3
  try clear hx8_4
  try clear hx8_5
  try clear hx8_6
  try clear hx8_7
  try clear hx8_8
  try clear hx8_9
  try clear p6
  try clear p8
  try clear q6
  try clear q8
  obtain ⟨kq,x9_16,rfl,HA,HJ16,HO_7,BK7,HB⟩:=hcut
  cases kq with
  |zero=>exact absurd HA.out (by simp [law15_ShapeMoves.j0])
  |succ kj16=>
   have H:=HA.out
   clear HA
   simp only [law15_ShapeMoves.j0] at H
   replace H:=Option.bind_eq_some_iff.mp H
   obtain ⟨t9,A250,H⟩:=H
   try dsimp only at H
   have A25:=Aside0.mk A250
   clear A250
   have H':=Aside0.mk H
   clear H
   go_wp2_with (first|(go_at_call 50;(with_reducible refine (r10_Find.calls kj16 _ _ t2 x9_16 t9 _ ?side1 ?side2 A25.out).mono ?_);(case side1=>exact zc_ (Kd.R_reads' HO_7.out).2.2);(case side2=>exact (Kd.R_reads' HO_7.out).2.1);rintro e w' ⟨rfl,⟨nd,rfl⟩⟩;(try first|exact ⟨rfl,_,World.drewN_drewN _ _ _⟩|exact ⟨rfl,_,Eq.trans (World.drewN_drewN _ _ _) (congrArg (World.drewN _) (Nat.add_assoc _ _ _))⟩)))
   repeat (go_quiet (first|(go_at_call 50;(with_reducible refine (r10_Find.calls kj16 _ _ t2 x9_16 t9 _ ?side1 ?side2 A25.out).mono ?_);(case side1=>exact zc_ (Kd.R_reads' HO_7.out).2.2);(case side2=>exact (Kd.R_reads' HO_7.out).2.1);rintro e w' ⟨rfl,⟨nd,rfl⟩⟩;(try first|exact ⟨rfl,_,World.drewN_drewN _ _ _⟩|exact ⟨rfl,_,Eq.trans (World.drewN_drewN _ _ _) (congrArg (World.drewN _) (Nat.add_assoc _ _ _))⟩)));try go_wp2_with (first|(go_at_call 50;(with_reducible refine (r10_Find.calls kj16 _ _ t2 x9_16 t9 _ ?side1 ?side2 A25.out).mono ?_);(case side1=>exact zc_ (Kd.R_reads' HO_7.out).2.2);(case side2=>exact (Kd.R_reads' HO_7.out).2.1);rintro e w' ⟨rfl,⟨nd,rfl⟩⟩;(try first|exact ⟨rfl,_,World.drewN_drewN _ _ _⟩|exact ⟨rfl,_,Eq.trans (World.drewN_drewN _ _ _) (congrArg (World.drewN _) (Nat.add_assoc _ _ _))⟩))))
   go_loopg [10,11] kj16 (fun kq v10 v11 w'=> ∃(x10_2:Bool) (x11_2:Int),v10= .bool x10_2∧v11= .int .i64 x11_2∧Aside0 (law15_ShapeMoves.l0 kq t2 x9_16 x10_2 x11_2 ((rd_T31 t2 (ji13)).f0) ((rd_T31 t2 (ji13)).f1) ((rd_T31 t2 (ji13)).f2.f0) ((rd_T31 t2 (ji13)).f2.f1) ((rd_T31 t2 (ji13)).f2.f2) ((rd_T31 t2 (ji13)).f3.f0) ((rd_T31 t2 (ji13)).f3.f1) ((rd_T31 t2 (ji13)).f3.f2) ((rd_T31 t2 (ji13)).f4.f0) ((rd_T31 t2 (ji13)).f4.f1) ((rd_T31 t2 (ji13)).f4.f2) ((rd_T31 t2 (ji13)).f5)=some r)∧Aside0 (kq≤kj16)∧Aside0 (Kd.R k31 31 w' w.heap.size (fun k_=>k_≠gb7) (.slice (some ad6) t2.length co19) t2)∧Aside0 (w'.heap[gb7]?=some (.cells #[.string ((rd_T31 t2 (ji13)).f0), .string ((rd_T31 t2 (ji13)).f1), .int .i64 ((rd_T31 t2 (ji13)).f2.f0), .int .i64 ((rd_T31 t2 (ji13)).f2.f1), .int .i64 ((rd_T31 t2 (ji13)).f2.f2), .int .i64 ((rd_T31 t2 (ji13)).f3.f0), .int .i64 ((rd_T31 t2 (ji13)).f3.f1), .int .i64 ((rd_T31 t2 (ji13)).f3.f2), .int .i64 ((rd_T31 t2 (ji13)).f4.f0), .int .i64 ((rd_T31 t2 (ji13)).f4.f1), .int .i64 ((rd_T31 t2 (ji13)).f4.f2), .int .i64 ((rd_T31 t2 (ji13)).f5)] 31 (0,0)))∧Aside0 (Below w.heap.size w w'))
   case atStart=>exact ⟨(false),(t9),(by first|rfl|(simp;done)|(simp [*];done)),(by first|rfl|(simp;done)|(simp [*];done)),H',⟨Nat.le_refl _⟩,⟨by (with_reducible repeat (first|apply Kd.R_alloc|apply Kd.R_drewN|apply Kd.R_drew));exact HO_7.out⟩,⟨by refine zk_ ?_;exact BK7.out⟩,⟨zl1_ HB GE7⟩⟩
   case round=>
    clear H'
    try clear c1
    try clear c2
    try clear p2
    try clear c4
    try clear c4b0
    try clear c4b1
    try clear p6
    try clear q6
    try clear hx6
    try clear c8
    try clear c8b0
    try clear c8b1
    try clear c8b2
    try clear p8
    try clear q8
    try clear hx8
    try clear c14
    try clear c14b0
    try clear c15
    try clear c15b0
    try clear c16
    try clear c16b0
    try clear c16b1
    try clear c22
    try clear c22b0
    try clear c24
    try clear c24b0
    try clear hcz21_0
    try clear hcz21_1
    try clear hcz21_10
    try clear hcz21_11
    try clear hcz21_2
    try clear hcz21_3
    try clear hcz21_4
    try clear hcz21_5
    try clear hcz21_6
    try clear hcz21_7
    try clear hcz21_8
    try clear hcz21_9
    try clear hfz21_0
    try clear hfz21_1
    try clear hfz21_10
    try clear hfz21_11
    try clear hfz21_2
    try clear hfz21_3
    try clear hfz21_4
    try clear hfz21_5
    try clear hfz21_6
    try clear hfz21_7
    try clear hfz21_8
    try clear hfz21_9
    try clear hx6_0
    try clear hx6_1
    try clear hx6_10
    try clear hx6_11
    try clear hx6_2
    try clear hx6_3
    try clear hx6_4
    try clear hx6_5
    try clear hx6_6
    try clear hx6_7
    try clear hx6_8
    try clear hx6_9
    try clear hx8_0
    try clear hx8_1
    try clear hx8_10
    try clear hx8_11
    try clear hx8_2
    try clear hx8_3
    try clear hx8_4
    try clear hx8_5
    try clear hx8_6
    try clear hx8_7
    try clear hx8_8
    try clear hx8_9
    try clear p2
    try clear p6
    try clear p8
    try clear q6
    try clear q8
    obtain ⟨x10_2,x11_2,rfl,rfl,HA,HK2,HO_7,BK7,HB⟩:=hrel
    cases gk with
    |zero=>exact absurd HA.out (by simp [law15_ShapeMoves.l0])
    |succ k2=>
     have H:=HA.out
     clear HA
     simp only [law15_ShapeMoves.l0] at H
     by_cases c26:x11_2≥0
     ·rw [if_pos c26] at H
      have c26b0:decide (0≤x11_2)=true:=decide_eq_true c26
      clear c26
      by_cases c27:x10_2=true
      ·subst c27
       have H1:(if 0≤x11_2 then (if x11_2<(t2.length:Int) then ((r10_Find.f k2 t2 ((rd_T31 t2 x11_2).f1)).bind fun t11=>(law15_ShapeMoves.l0 k2 t2 x9_16 true t11 ((rd_T31 t2 (ji13)).f0) ((rd_T31 t2 (ji13)).f1) ((rd_T31 t2 (ji13)).f2.f0) ((rd_T31 t2 (ji13)).f2.f1) ((rd_T31 t2 (ji13)).f2.f2) ((rd_T31 t2 (ji13)).f3.f0) ((rd_T31 t2 (ji13)).f3.f1) ((rd_T31 t2 (ji13)).f3.f2) ((rd_T31 t2 (ji13)).f4.f0) ((rd_T31 t2 (ji13)).f4.f1) ((rd_T31 t2 (ji13)).f4.f2) ((rd_T31 t2 (ji13)).f5))) else (none)) else (none))=some r:=by rw [if_pos rfl] at H;exact H
       clear H
       have H:=H1
       clear H1
       by_cases c28:0≤x11_2
       rotate_left
       ·rw [if_neg c28] at H
        cases H
       rw [if_pos c28] at H
       have c28b0:decide (0≤x11_2)=true:=decide_eq_true c28
       clear c28
       by_cases c29:x11_2<(t2.length:Int)
       rotate_left
       ·rw [if_neg c29] at H
        cases H
       rw [if_pos c29] at H
       have c29b0:decide (x11_2<(t2.length:Int))=true:=decide_eq_true c29
       clear c29
       replace H:=Option.bind_eq_some_iff.mp H
       obtain ⟨t11,A300,H⟩:=H
       try dsimp only at H
       have A30:=Aside0.mk A300
       clear A300
       have H':=Aside0.mk H
       clear H
       have p10:0≤(x11_2:Int):=of_decide_eq_true zq_
       have q10:x11_2<(t2.length:Int):=of_decide_eq_true zq_
       obtain ⟨ad10,e10,hx10_0,hx10_1,hx10_2,hx10_3,hx10_4,hx10_5,hx10_6,hx10_7,hx10_8,hx10_9,hx10_10,hx10_11⟩:=at_T31 (Kd.R_reads' HO_7.out).2.2 x11_2 p10 q10
       obtain rfl:ad6=ad10:=(by injection e10)
       replace p10:=eq_true p10
       replace q10:=eq_true q10
       go_wp2_with (first|(go_at_call 50;(with_reducible refine (r10_Find.calls k2 _ _ t2 ((rd_T31 t2 x11_2).f1) t11 _ ?side1 ?side2 A30.out).mono ?_);(case side1=>exact zc_ (Kd.R_reads' HO_7.out).2.2);(case side2=>exact (Kd.R_reads' HO_7.out).2.1);rintro e w' ⟨rfl,⟨nd,rfl⟩⟩;(try first|exact ⟨rfl,_,World.drewN_drewN _ _ _⟩|exact ⟨rfl,_,Eq.trans (World.drewN_drewN _ _ _) (congrArg (World.drewN _) (Nat.add_assoc _ _ _))⟩)))
       repeat (go_quiet (first|(go_at_call 50;(with_reducible refine (r10_Find.calls k2 _ _ t2 ((rd_T31 t2 x11_2).f1) t11 _ ?side1 ?side2 A30.out).mono ?_);(case side1=>exact zc_ (Kd.R_reads' HO_7.out).2.2);(case side2=>exact (Kd.R_reads' HO_7.out).2.1);rintro e w' ⟨rfl,⟨nd,rfl⟩⟩;(try first|exact ⟨rfl,_,World.drewN_drewN _ _ _⟩|exact ⟨rfl,_,Eq.trans (World.drewN_drewN _ _ _) (congrArg (World.drewN _) (Nat.add_assoc _ _ _))⟩)));try go_wp2_with (first|(go_at_call 50;(with_reducible refine (r10_Find.calls k2 _ _ t2 ((rd_T31 t2 x11_2).f1) t11 _ ?side1 ?side2 A30.out).mono ?_);(case side1=>exact zc_ (Kd.R_reads' HO_7.out).2.2);(case side2=>exact (Kd.R_reads' HO_7.out).2.1);rintro e w' ⟨rfl,⟨nd,rfl⟩⟩;(try first|exact ⟨rfl,_,World.drewN_drewN _ _ _⟩|exact ⟨rfl,_,Eq.trans (World.drewN_drewN _ _ _) (congrArg (World.drewN _) (Nat.add_assoc _ _ _))⟩))))
       go_roundg k2
       case measure=>have:=HJ16.out;have:=HK2.out;omega
       case rel=>exact ⟨(true),(t11),(by first|rfl|(simp;done)|(simp [*];done)),(by first|rfl|(simp;done)|(simp [*];done)),H',⟨by have:=HJ16.out;have:=HK2.out;omega⟩,⟨by (with_reducible repeat (first|apply Kd.R_alloc|apply Kd.R_drewN|apply Kd.R_drew));exact HO_7.out⟩,⟨by refine zk_ ?_;exact BK7.out⟩,⟨zl1_ HB GE7⟩⟩
      replace c27:=Bool.eq_false_iff.mpr c27
      subst c27
      have H1:(if 0≤x11_2 then (if x11_2<(t2.length:Int) then ((r10_Find.f k2 t2 ((rd_T31 t2 x11_2).f1)).bind fun t14=>(law15_ShapeMoves.l0 k2 t2 x9_16 (((rd_T31 t2 x11_2).f0).toList==((rd_T31 t2 (ji13)).f0).toList) t14 ((rd_T31 t2 (ji13)).f0) ((rd_T31 t2 (ji13)).f1) ((rd_T31 t2 (ji13)).f2.f0) ((rd_T31 t2 (ji13)).f2.f1) ((rd_T31 t2 (ji13)).f2.f2) ((rd_T31 t2 (ji13)).f3.f0) ((rd_T31 t2 (ji13)).f3.f1) ((rd_T31 t2 (ji13)).f3.f2) ((rd_T31 t2 (ji13)).f4.f0) ((rd_T31 t2 (ji13)).f4.f1) ((rd_T31 t2 (ji13)).f4.f2) ((rd_T31 t2 (ji13)).f5))) else (none)) else (none))=some r:=by rw [if_neg (show¬(false=true) by decide)] at H;exact H
      clear H
      have H:=H1
      clear H1
      by_cases c31:0≤x11_2
      rotate_left
      ·rw [if_neg c31] at H
       cases H
      rw [if_pos c31] at H
      have c31b0:decide (0≤x11_2)=true:=decide_eq_true c31
      clear c31
      by_cases c32:x11_2<(t2.length:Int)
      rotate_left
      ·rw [if_neg c32] at H
       cases H
      rw [if_pos c32] at H
      have c32b0:decide (x11_2<(t2.length:Int))=true:=decide_eq_true c32
      clear c32
      replace H:=Option.bind_eq_some_iff.mp H
      obtain ⟨t14,A330,H⟩:=H
      try dsimp only at H
      have A33:=Aside0.mk A330
      clear A330
      have H':=Aside0.mk H
      clear H
      have p12:0≤(x11_2:Int):=of_decide_eq_true zq_
      have q12:x11_2<(t2.length:Int):=of_decide_eq_true zq_
      obtain ⟨ad12,e12,hx12_0,hx12_1,hx12_2,hx12_3,hx12_4,hx12_5,hx12_6,hx12_7,hx12_8,hx12_9,hx12_10,hx12_11⟩:=at_T31 (Kd.R_reads' HO_7.out).2.2 x11_2 p12 q12
      obtain rfl:ad6=ad12:=(by injection e12)
      replace p12:=eq_true p12
      replace q12:=eq_true q12
      obtain ⟨hcz34_0,hcz34_1,hcz34_2,hcz34_3,hcz34_4,hcz34_5,hcz34_6,hcz34_7,hcz34_8,hcz34_9,hcz34_10,hcz34_11,hfz34_0,hfz34_1,hfz34_2,hfz34_3,hfz34_4,hfz34_5,hfz34_6,hfz34_7,hfz34_8,hfz34_9,hfz34_10,hfz34_11⟩:=y12_ BK7
      have p13:0≤(x11_2:Int):=of_decide_eq_true zq_
      have q13:x11_2<(t2.length:Int):=of_decide_eq_true zq_
      obtain ⟨ad13,e13,hx13_0,hx13_1,hx13_2,hx13_3,hx13_4,hx13_5,hx13_6,hx13_7,hx13_8,hx13_9,hx13_10,hx13_11⟩:=at_T31 (Kd.R_reads' HO_7.out).2.2 x11_2 p13 q13
      obtain rfl:ad6=ad13:=(by injection e13)
      replace p13:=eq_true p13
      replace q13:=eq_true q13
      go_wp2_with (first|(go_at_call 50;(with_reducible refine (r10_Find.calls k2 _ _ t2 ((rd_T31 t2 x11_2).f1) t14 _ ?side1 ?side2 A33.out).mono ?_);(case side1=>exact zc_ (Kd.R_reads' HO_7.out).2.2);(case side2=>exact (Kd.R_reads' HO_7.out).2.1);rintro e w' ⟨rfl,⟨nd,rfl⟩⟩;(try first|exact ⟨rfl,_,World.drewN_drewN _ _ _⟩|exact ⟨rfl,_,Eq.trans (World.drewN_drewN _ _ _) (congrArg (World.drewN _) (Nat.add_assoc _ _ _))⟩)))
      repeat (go_quiet (first|(go_at_call 50;(with_reducible refine (r10_Find.calls k2 _ _ t2 ((rd_T31 t2 x11_2).f1) t14 _ ?side1 ?side2 A33.out).mono ?_);(case side1=>exact zc_ (Kd.R_reads' HO_7.out).2.2);(case side2=>exact (Kd.R_reads' HO_7.out).2.1);rintro e w' ⟨rfl,⟨nd,rfl⟩⟩;(try first|exact ⟨rfl,_,World.drewN_drewN _ _ _⟩|exact ⟨rfl,_,Eq.trans (World.drewN_drewN _ _ _) (congrArg (World.drewN _) (Nat.add_assoc _ _ _))⟩)));try go_wp2_with (first|(go_at_call 50;(with_reducible refine (r10_Find.calls k2 _ _ t2 ((rd_T31 t2 x11_2).f1) t14 _ ?side1 ?side2 A33.out).mono ?_);(case side1=>exact zc_ (Kd.R_reads' HO_7.out).2.2);(case side2=>exact (Kd.R_reads' HO_7.out).2.1);rintro e w' ⟨rfl,⟨nd,rfl⟩⟩;(try first|exact ⟨rfl,_,World.drewN_drewN _ _ _⟩|exact ⟨rfl,_,Eq.trans (World.drewN_drewN _ _ _) (congrArg (World.drewN _) (Nat.add_assoc _ _ _))⟩))))
      go_roundg k2
      case measure=>have:=HJ16.out;have:=HK2.out;omega
      case rel=>exact ⟨((((rd_T31 t2 x11_2).f0).toList==((rd_T31 t2 (ji13)).f0).toList)),(t14),(by first|rfl|(simp;done)|(simp only [←hji13]<;>(first|rfl|simp))|(simp [*];done)),(by first|rfl|(simp;done)|(simp [*];done)),H',⟨by have:=HJ16.out;have:=HK2.out;omega⟩,⟨by (with_reducible repeat (first|apply Kd.R_alloc|apply Kd.R_drewN|apply Kd.R_drew));exact HO_7.out⟩,⟨by refine zk_ ?_;exact BK7.out⟩,⟨zl1_ HB GE7⟩⟩
     rw [if_neg c26] at H
     have c26b0:decide (0≤x11_2)=false:=decide_eq_false c26
     clear c26
     replace H:=Option.bind_eq_some_iff.mp H
     obtain ⟨⟨t15,t16⟩,A350,H⟩:=H
     try dsimp only at H
     have A35:=Aside0.mk A350
     clear A350
     by_cases c36:x10_2=true
     ·subst c36
      have H1:((law1_Num.f t16).bind fun t19=>(if t19=10 then ((law15_awake.f).bind fun t20=>(some t20)) else (none)))=some r:=by rw [if_pos rfl] at H;exact H
      clear H
      have H:=H1
      clear H1
      replace H:=Option.bind_eq_some_iff.mp H
      obtain ⟨t19,A370,H⟩:=H
      try dsimp only at H
      have A37:=Aside0.mk A370
      clear A370
      by_cases c38:t19=10
      rotate_left
      ·rw [if_neg c38] at H
       cases H
      rw [if_pos c38] at H
      have c38b0:(t19==10)=true:=beq_iff_eq.mpr c38
      have c38b1:(t19 !=10)=false:=bne_eq_false_iff_eq.mpr c38
      clear c38
      replace H:=Option.bind_eq_some_iff.mp H
      obtain ⟨t20,A390,H⟩:=H
      try dsimp only at H
      have A39:=Aside0.mk A390
      clear A390
      obtain rfl:=Option.some.inj H
      obtain ⟨hcz40_0,hcz40_1,hcz40_2,hcz40_3,hcz40_4,hcz40_5,hcz40_6,hcz40_7,hcz40_8,hcz40_9,hcz40_10,hcz40_11,hfz40_0,hfz40_1,hfz40_2,hfz40_3,hfz40_4,hfz40_5,hfz40_6,hfz40_7,hfz40_8,hfz40_9,hfz40_10,hfz40_11⟩:=y12_ BK7
      go_wp2_with (first|(go_at_call 88;(with_reducible refine (shape_Move.calls k2 _ _ t2 ((rd_T31 t2 (ji13)).f0) x9_16 ((rd_T31 t2 (ji13)).f5) t15 t16 _ ?side1 ?side2 A35.out).mono ?_);(case side1=>exact zc_ (Kd.R_reads' HO_7.out).2.2);(case side2=>exact (Kd.R_reads' HO_7.out).2.1);rintro e w41 ⟨v17,rfl,ho0,hb⟩;have HO18:=am_ (Kd.R_lower (Kd.R_newB (Kd.R_new' ho0 (Kd.R_lt (zr_ HO_7))) (g:=gb7) (o:= .cells #[.string ((rd_T31 t2 (ji13)).f0), .string ((rd_T31 t2 (ji13)).f1), .int .i64 ((rd_T31 t2 (ji13)).f2.f0), .int .i64 ((rd_T31 t2 (ji13)).f2.f1), .int .i64 ((rd_T31 t2 (ji13)).f2.f2), .int .i64 ((rd_T31 t2 (ji13)).f3.f0), .int .i64 ((rd_T31 t2 (ji13)).f3.f1), .int .i64 ((rd_T31 t2 (ji13)).f3.f2), .int .i64 ((rd_T31 t2 (ji13)).f4.f0), .int .i64 ((rd_T31 t2 (ji13)).f4.f1), .int .i64 ((rd_T31 t2 (ji13)).f4.f2), .int .i64 ((rd_T31 t2 (ji13)).f5)] 31 (0,0)) (zb_ BK7)) (below_size (zl1_ HB GE7)));replace HO_7:=am_ (Kd.R_elder' (zr_ HO_7) (Kd.R_base ho0) hb);replace BK7:=am_ (blk_below (zb_ BK7) hb);replace HB:=am_ (below_step (zl1_ HB GE7) hb);(try clear hb);(try clear hb2);(try clear hk);(try clear hi);(try clear ho0))|(go_at_call 61;(with_reducible refine (law1_Num.calls t16 t19 _ A37.out).mono ?_);rintro e w' ⟨rfl,⟨nd,rfl⟩⟩;(try first|exact ⟨rfl,_,World.drewN_drewN _ _ _⟩|exact ⟨rfl,_,Eq.trans (World.drewN_drewN _ _ _) (congrArg (World.drewN _) (Nat.add_assoc _ _ _))⟩))|(go_at_call 85;(with_reducible refine (law15_awake.calls t20 _ A39.out).mono ?_);rintro e w42 ⟨rfl,hb⟩;replace HO_7:=am_ (Kd.R_below (zr_ HO_7) hb);replace HO18:=am_ (Kd.R_below (zr_ HO18) hb);replace BK7:=am_ (blk_below (zb_ BK7) hb);replace HB:=am_ (below_step (zl1_ HB GE7) hb);(try clear hb);(try clear hb2);(try clear hk);(try clear hi)))
      repeat (go_quiet (first|(go_at_call 88;(with_reducible refine (shape_Move.calls k2 _ _ t2 ((rd_T31 t2 (ji13)).f0) x9_16 ((rd_T31 t2 (ji13)).f5) t15 t16 _ ?side1 ?side2 A35.out).mono ?_);(case side1=>exact zc_ (Kd.R_reads' HO_7.out).2.2);(case side2=>exact (Kd.R_reads' HO_7.out).2.1);rintro e w41 ⟨v17,rfl,ho0,hb⟩;have HO18:=am_ (Kd.R_lower (Kd.R_newB (Kd.R_new' ho0 (Kd.R_lt (zr_ HO_7))) (g:=gb7) (o:= .cells #[.string ((rd_T31 t2 (ji13)).f0), .string ((rd_T31 t2 (ji13)).f1), .int .i64 ((rd_T31 t2 (ji13)).f2.f0), .int .i64 ((rd_T31 t2 (ji13)).f2.f1), .int .i64 ((rd_T31 t2 (ji13)).f2.f2), .int .i64 ((rd_T31 t2 (ji13)).f3.f0), .int .i64 ((rd_T31 t2 (ji13)).f3.f1), .int .i64 ((rd_T31 t2 (ji13)).f3.f2), .int .i64 ((rd_T31 t2 (ji13)).f4.f0), .int .i64 ((rd_T31 t2 (ji13)).f4.f1), .int .i64 ((rd_T31 t2 (ji13)).f4.f2), .int .i64 ((rd_T31 t2 (ji13)).f5)] 31 (0,0)) (zb_ BK7)) (below_size (zl1_ HB GE7)));replace HO_7:=am_ (Kd.R_elder' (zr_ HO_7) (Kd.R_base ho0) hb);replace BK7:=am_ (blk_below (zb_ BK7) hb);replace HB:=am_ (below_step (zl1_ HB GE7) hb);(try clear hb);(try clear hb2);(try clear hk);(try clear hi);(try clear ho0))|(go_at_call 61;(with_reducible refine (law1_Num.calls t16 t19 _ A37.out).mono ?_);rintro e w' ⟨rfl,⟨nd,rfl⟩⟩;(try first|exact ⟨rfl,_,World.drewN_drewN _ _ _⟩|exact ⟨rfl,_,Eq.trans (World.drewN_drewN _ _ _) (congrArg (World.drewN _) (Nat.add_assoc _ _ _))⟩))|(go_at_call 85;(with_reducible refine (law15_awake.calls t20 _ A39.out).mono ?_);rintro e w42 ⟨rfl,hb⟩;replace HO_7:=am_ (Kd.R_below (zr_ HO_7) hb);replace HO18:=am_ (Kd.R_below (zr_ HO18) hb);replace BK7:=am_ (blk_below (zb_ BK7) hb);replace HB:=am_ (below_step (zl1_ HB GE7) hb);(try clear hb);(try clear hb2);(try clear hk);(try clear hi)));try go_wp2_with (first|(go_at_call 88;(with_reducible refine (shape_Move.calls k2 _ _ t2 ((rd_T31 t2 (ji13)).f0) x9_16 ((rd_T31 t2 (ji13)).f5) t15 t16 _ ?side1 ?side2 A35.out).mono ?_);(case side1=>exact zc_ (Kd.R_reads' HO_7.out).2.2);(case side2=>exact (Kd.R_reads' HO_7.out).2.1);rintro e w41 ⟨v17,rfl,ho0,hb⟩;have HO18:=am_ (Kd.R_lower (Kd.R_newB (Kd.R_new' ho0 (Kd.R_lt (zr_ HO_7))) (g:=gb7) (o:= .cells #[.string ((rd_T31 t2 (ji13)).f0), .string ((rd_T31 t2 (ji13)).f1), .int .i64 ((rd_T31 t2 (ji13)).f2.f0), .int .i64 ((rd_T31 t2 (ji13)).f2.f1), .int .i64 ((rd_T31 t2 (ji13)).f2.f2), .int .i64 ((rd_T31 t2 (ji13)).f3.f0), .int .i64 ((rd_T31 t2 (ji13)).f3.f1), .int .i64 ((rd_T31 t2 (ji13)).f3.f2), .int .i64 ((rd_T31 t2 (ji13)).f4.f0), .int .i64 ((rd_T31 t2 (ji13)).f4.f1), .int .i64 ((rd_T31 t2 (ji13)).f4.f2), .int .i64 ((rd_T31 t2 (ji13)).f5)] 31 (0,0)) (zb_ BK7)) (below_size (zl1_ HB GE7)));replace HO_7:=am_ (Kd.R_elder' (zr_ HO_7) (Kd.R_base ho0) hb);replace BK7:=am_ (blk_below (zb_ BK7) hb);replace HB:=am_ (below_step (zl1_ HB GE7) hb);(try clear hb);(try clear hb2);(try clear hk);(try clear hi);(try clear ho0))|(go_at_call 61;(with_reducible refine (law1_Num.calls t16 t19 _ A37.out).mono ?_);rintro e w' ⟨rfl,⟨nd,rfl⟩⟩;(try first|exact ⟨rfl,_,World.drewN_drewN _ _ _⟩|exact ⟨rfl,_,Eq.trans (World.drewN_drewN _ _ _) (congrArg (World.drewN _) (Nat.add_assoc _ _ _))⟩))|(go_at_call 85;(with_reducible refine (law15_awake.calls t20 _ A39.out).mono ?_);rintro e w42 ⟨rfl,hb⟩;replace HO_7:=am_ (Kd.R_below (zr_ HO_7) hb);replace HO18:=am_ (Kd.R_below (zr_ HO18) hb);replace BK7:=am_ (blk_below (zb_ BK7) hb);replace HB:=am_ (below_step (zl1_ HB GE7) hb);(try clear hb);(try clear hb2);(try clear hk);(try clear hi))))
      go_ret
      exact ⟨by first|rfl|(simp [errW_none,errW_some]<;>rfl)|(simp only [←hji13];first|rfl|(simp [errW_none,errW_some]<;>rfl))|(simp [*,errW_none,errW_some]<;>rfl),zl1_ HB GE7⟩
     replace c36:=Bool.eq_false_iff.mpr c36
     subst c36
     have H1:((law1_Num.f t16).bind fun t21=>(if t21=0 then ((shape_Move.f k2 t15 ((rd_T31 t2 (ji13)).f0) ((rd_T31 t2 (ji13)).f1) (wrap64 (((rd_T31 t2 (ji13)).f5)+1))).bind fun bt24=>((shape_Move.f k2 t15 ((rd_T31 t2 (ji13)).f0) ((rd_T31 t2 (ji13)).f1) ((rd_T31 t2 (ji13)).f5)).bind fun bt28=>((law1_Num.f bt24.2).bind fun t32=>(if t32=0 then ((law1_Num.f bt28.2).bind fun t33=>(if t33=14 then (law15_ShapeMoves.j2 k2 t2 bt24.1 ((bt24.1.length:Int) !=(t2.length:Int)) ((rd_T31 t2 (ji13)).f0) ((rd_T31 t2 (ji13)).f1) ((rd_T31 t2 (ji13)).f2.f0) ((rd_T31 t2 (ji13)).f2.f1) ((rd_T31 t2 (ji13)).f2.f2) ((rd_T31 t2 (ji13)).f3.f0) ((rd_T31 t2 (ji13)).f3.f1) ((rd_T31 t2 (ji13)).f3.f2) ((rd_T31 t2 (ji13)).f4.f0) ((rd_T31 t2 (ji13)).f4.f1) ((rd_T31 t2 (ji13)).f4.f2) ((rd_T31 t2 (ji13)).f5)) else (none))) else (none))))) else ((law1_Num.f t16).bind fun t22=>(if t22=12 then ((law15_awake.f).bind fun t23=>(some t23)) else (none)))))=some r:=by rw [if_neg (show¬(false=true) by decide)] at H;exact H
     clear H
     have H:=H1
     clear H1
     replace H:=Option.bind_eq_some_iff.mp H
     obtain ⟨t21,A450,H⟩:=H
     try dsimp only at H
     have A45:=Aside0.mk A450
     clear A450
     by_cases c46:t21=0
     rotate_left
     ·rw [if_neg c46] at H
      have c46b0:(t21==0)=false:=beq_eq_false_iff_ne.mpr c46
      have c46b1:(t21 !=0)=true:=bne_iff_ne.mpr c46
      replace H:=Option.bind_eq_some_iff.mp H
      obtain ⟨t22,A920,H⟩:=H
      try dsimp only at H
      have A92:=Aside0.mk A920
      clear A920
      obtain rfl:t21=t22:=Option.some.inj (A45.out.symm.trans A92.out)
      by_cases c93:t21=12
      rotate_left
      ·rw [if_neg c93] at H
       cases H
      rw [if_pos c93] at H
      have c93b0:(t21==12)=true:=beq_iff_eq.mpr c93
      have c93b1:(t21 !=12)=false:=bne_eq_false_iff_eq.mpr c93
      clear c93
      replace H:=Option.bind_eq_some_iff.mp H
      obtain ⟨t23,A940,H⟩:=H
      try dsimp only at H
      have A94:=Aside0.mk A940
      clear A940
      obtain rfl:=Option.some.inj H
      obtain ⟨hcz95_0,hcz95_1,hcz95_2,hcz95_3,hcz95_4,hcz95_5,hcz95_6,hcz95_7,hcz95_8,hcz95_9,hcz95_10,hcz95_11,hfz95_0,hfz95_1,hfz95_2,hfz95_3,hfz95_4,hfz95_5,hfz95_6,hfz95_7,hfz95_8,hfz95_9,hfz95_10,hfz95_11⟩:=y12_ BK7
      go_wp2_with (first|(go_at_call 88;(with_reducible refine (shape_Move.calls k2 _ _ t2 ((rd_T31 t2 (ji13)).f0) x9_16 ((rd_T31 t2 (ji13)).f5) t15 t16 _ ?side1 ?side2 A35.out).mono ?_);(case side1=>exact zc_ (Kd.R_reads' HO_7.out).2.2);(case side2=>exact (Kd.R_reads' HO_7.out).2.1);rintro e w96 ⟨v17,rfl,ho0,hb⟩;have HO18:=am_ (Kd.R_lower (Kd.R_newB (Kd.R_new' ho0 (Kd.R_lt (zr_ HO_7))) (g:=gb7) (o:= .cells #[.string ((rd_T31 t2 (ji13)).f0), .string ((rd_T31 t2 (ji13)).f1), .int .i64 ((rd_T31 t2 (ji13)).f2.f0), .int .i64 ((rd_T31 t2 (ji13)).f2.f1), .int .i64 ((rd_T31 t2 (ji13)).f2.f2), .int .i64 ((rd_T31 t2 (ji13)).f3.f0), .int .i64 ((rd_T31 t2 (ji13)).f3.f1), .int .i64 ((rd_T31 t2 (ji13)).f3.f2), .int .i64 ((rd_T31 t2 (ji13)).f4.f0), .int .i64 ((rd_T31 t2 (ji13)).f4.f1), .int .i64 ((rd_T31 t2 (ji13)).f4.f2), .int .i64 ((rd_T31 t2 (ji13)).f5)] 31 (0,0)) (zb_ BK7)) (below_size (zl1_ HB GE7)));replace HO_7:=am_ (Kd.R_elder' (zr_ HO_7) (Kd.R_base ho0) hb);replace BK7:=am_ (blk_below (zb_ BK7) hb);replace HB:=am_ (below_step (zl1_ HB GE7) hb);(try clear hb);(try clear hb2);(try clear hk);(try clear hi);(try clear ho0))|(go_at_call 61;(with_reducible refine (law1_Num.calls t16 t21 _ A45.out).mono ?_);rintro e w' ⟨rfl,⟨nd,rfl⟩⟩;(try first|exact ⟨rfl,_,World.drewN_drewN _ _ _⟩|exact ⟨rfl,_,Eq.trans (World.drewN_drewN _ _ _) (congrArg (World.drewN _) (Nat.add_assoc _ _ _))⟩))|(go_at_call 61;(with_reducible refine (law1_Num.calls t16 t21 _ A92.out).mono ?_);rintro e w' ⟨rfl,⟨nd,rfl⟩⟩;(try first|exact ⟨rfl,_,World.drewN_drewN _ _ _⟩|exact ⟨rfl,_,Eq.trans (World.drewN_drewN _ _ _) (congrArg (World.drewN _) (Nat.add_assoc _ _ _))⟩))|(go_at_call 85;(with_reducible refine (law15_awake.calls t23 _ A94.out).mono ?_);rintro e w97 ⟨rfl,hb⟩;replace HO_7:=am_ (Kd.R_below (zr_ HO_7) hb);replace HO18:=am_ (Kd.R_below (zr_ HO18) hb);replace BK7:=am_ (blk_below (zb_ BK7) hb);replace HB:=am_ (below_step (zl1_ HB GE7) hb);(try clear hb);(try clear hb2);(try clear hk);(try clear hi)))
      repeat (go_quiet (first|(go_at_call 88;(with_reducible refine (shape_Move.calls k2 _ _ t2 ((rd_T31 t2 (ji13)).f0) x9_16 ((rd_T31 t2 (ji13)).f5) t15 t16 _ ?side1 ?side2 A35.out).mono ?_);(case side1=>exact zc_ (Kd.R_reads' HO_7.out).2.2);(case side2=>exact (Kd.R_reads' HO_7.out).2.1);rintro e w96 ⟨v17,rfl,ho0,hb⟩;have HO18:=am_ (Kd.R_lower (Kd.R_newB (Kd.R_new' ho0 (Kd.R_lt (zr_ HO_7))) (g:=gb7) (o:= .cells #[.string ((rd_T31 t2 (ji13)).f0), .string ((rd_T31 t2 (ji13)).f1), .int .i64 ((rd_T31 t2 (ji13)).f2.f0), .int .i64 ((rd_T31 t2 (ji13)).f2.f1), .int .i64 ((rd_T31 t2 (ji13)).f2.f2), .int .i64 ((rd_T31 t2 (ji13)).f3.f0), .int .i64 ((rd_T31 t2 (ji13)).f3.f1), .int .i64 ((rd_T31 t2 (ji13)).f3.f2), .int .i64 ((rd_T31 t2 (ji13)).f4.f0), .int .i64 ((rd_T31 t2 (ji13)).f4.f1), .int .i64 ((rd_T31 t2 (ji13)).f4.f2), .int .i64 ((rd_T31 t2 (ji13)).f5)] 31 (0,0)) (zb_ BK7)) (below_size (zl1_ HB GE7)));replace HO_7:=am_ (Kd.R_elder' (zr_ HO_7) (Kd.R_base ho0) hb);replace BK7:=am_ (blk_below (zb_ BK7) hb);replace HB:=am_ (below_step (zl1_ HB GE7) hb);(try clear hb);(try clear hb2);(try clear hk);(try clear hi);(try clear ho0))|(go_at_call 61;(with_reducible refine (law1_Num.calls t16 t21 _ A45.out).mono ?_);rintro e w' ⟨rfl,⟨nd,rfl⟩⟩;(try first|exact ⟨rfl,_,World.drewN_drewN _ _ _⟩|exact ⟨rfl,_,Eq.trans (World.drewN_drewN _ _ _) (congrArg (World.drewN _) (Nat.add_assoc _ _ _))⟩))|(go_at_call 61;(with_reducible refine (law1_Num.calls t16 t21 _ A92.out).mono ?_);rintro e w' ⟨rfl,⟨nd,rfl⟩⟩;(try first|exact ⟨rfl,_,World.drewN_drewN _ _ _⟩|exact ⟨rfl,_,Eq.trans (World.drewN_drewN _ _ _) (congrArg (World.drewN _) (Nat.add_assoc _ _ _))⟩))|(go_at_call 85;(with_reducible refine (law15_awake.calls t23 _ A94.out).mono ?_);rintro e w97 ⟨rfl,hb⟩;replace HO_7:=am_ (Kd.R_below (zr_ HO_7) hb);replace HO18:=am_ (Kd.R_below (zr_ HO18) hb);replace BK7:=am_ (blk_below (zb_ BK7) hb);replace HB:=am_ (below_step (zl1_ HB GE7) hb);(try clear hb);(try clear hb2);(try clear hk);(try clear hi)));try go_wp2_with (first|(go_at_call 88;(with_reducible refine (shape_Move.calls k2 _ _ t2 ((rd_T31 t2 (ji13)).f0) x9_16 ((rd_T31 t2 (ji13)).f5) t15 t16 _ ?side1 ?side2 A35.out).mono ?_);(case side1=>exact zc_ (Kd.R_reads' HO_7.out).2.2);(case side2=>exact (Kd.R_reads' HO_7.out).2.1);rintro e w96 ⟨v17,rfl,ho0,hb⟩;have HO18:=am_ (Kd.R_lower (Kd.R_newB (Kd.R_new' ho0 (Kd.R_lt (zr_ HO_7))) (g:=gb7) (o:= .cells #[.string ((rd_T31 t2 (ji13)).f0), .string ((rd_T31 t2 (ji13)).f1), .int .i64 ((rd_T31 t2 (ji13)).f2.f0), .int .i64 ((rd_T31 t2 (ji13)).f2.f1), .int .i64 ((rd_T31 t2 (ji13)).f2.f2), .int .i64 ((rd_T31 t2 (ji13)).f3.f0), .int .i64 ((rd_T31 t2 (ji13)).f3.f1), .int .i64 ((rd_T31 t2 (ji13)).f3.f2), .int .i64 ((rd_T31 t2 (ji13)).f4.f0), .int .i64 ((rd_T31 t2 (ji13)).f4.f1), .int .i64 ((rd_T31 t2 (ji13)).f4.f2), .int .i64 ((rd_T31 t2 (ji13)).f5)] 31 (0,0)) (zb_ BK7)) (below_size (zl1_ HB GE7)));replace HO_7:=am_ (Kd.R_elder' (zr_ HO_7) (Kd.R_base ho0) hb);replace BK7:=am_ (blk_below (zb_ BK7) hb);replace HB:=am_ (below_step (zl1_ HB GE7) hb);(try clear hb);(try clear hb2);(try clear hk);(try clear hi);(try clear ho0))|(go_at_call 61;(with_reducible refine (law1_Num.calls t16 t21 _ A45.out).mono ?_);rintro e w' ⟨rfl,⟨nd,rfl⟩⟩;(try first|exact ⟨rfl,_,World.drewN_drewN _ _ _⟩|exact ⟨rfl,_,Eq.trans (World.drewN_drewN _ _ _) (congrArg (World.drewN _) (Nat.add_assoc _ _ _))⟩))|(go_at_call 61;(with_reducible refine (law1_Num.calls t16 t21 _ A92.out).mono ?_);rintro e w' ⟨rfl,⟨nd,rfl⟩⟩;(try first|exact ⟨rfl,_,World.drewN_drewN _ _ _⟩|exact ⟨rfl,_,Eq.trans (World.drewN_drewN _ _ _) (congrArg (World.drewN _) (Nat.add_assoc _ _ _))⟩))|(go_at_call 85;(with_reducible refine (law15_awake.calls t23 _ A94.out).mono ?_);rintro e w97 ⟨rfl,hb⟩;replace HO_7:=am_ (Kd.R_below (zr_ HO_7) hb);replace HO18:=am_ (Kd.R_below (zr_ HO18) hb);replace BK7:=am_ (blk_below (zb_ BK7) hb);replace HB:=am_ (below_step (zl1_ HB GE7) hb);(try clear hb);(try clear hb2);(try clear hk);(try clear hi))))
      go_ret
      exact ⟨by first|rfl|(simp [errW_none,errW_some]<;>rfl)|(simp only [←hji13];first|rfl|(simp [errW_none,errW_some]<;>rfl))|(simp [*,errW_none,errW_some]<;>rfl),zl1_ HB GE7⟩
     rw [if_pos c46] at H
     have c46b0:(t21==0)=true:=beq_iff_eq.mpr c46
     have c46b1:(t21 !=0)=false:=bne_eq_false_iff_eq.mpr c46
     clear c46
     replace H:=Option.bind_eq_some_iff.mp H
     obtain ⟨⟨t24,t25⟩,A470,H⟩:=H
     try dsimp only at H
     have A47:=Aside0.mk A470
     clear A470
     replace H:=Option.bind_eq_some_iff.mp H
     obtain ⟨⟨t28,t29⟩,A480,H⟩:=H
     try dsimp only at H
     have A48:=Aside0.mk A480
     clear A480
     have HC49:=Aside0.mk H
     clear H
     obtain ⟨hcz50_0,hcz50_1,hcz50_2,hcz50_3,hcz50_4,hcz50_5,hcz50_6,hcz50_7,hcz50_8,hcz50_9,hcz50_10,hcz50_11,hfz50_0,hfz50_1,hfz50_2,hfz50_3,hfz50_4,hfz50_5,hfz50_6,hfz50_7,hfz50_8,hfz50_9,hfz50_10,hfz50_11⟩:=y12_ BK7
     go_upto_region 22 with (first|(go_at_call 88;(with_reducible refine (shape_Move.calls k2 _ _ t2 ((rd_T31 t2 (ji13)).f0) x9_16 ((rd_T31 t2 (ji13)).f5) t15 t16 _ ?side1 ?side2 A35.out).mono ?_);(case side1=>exact zc_ (Kd.R_reads' HO_7.out).2.2);(case side2=>exact (Kd.R_reads' HO_7.out).2.1);rintro e w51 ⟨v17,rfl,ho0,hb⟩;have HO18:=am_ (Kd.R_lower (Kd.R_newB (Kd.R_new' ho0 (Kd.R_lt (zr_ HO_7))) (g:=gb7) (o:= .cells #[.string ((rd_T31 t2 (ji13)).f0), .string ((rd_T31 t2 (ji13)).f1), .int .i64 ((rd_T31 t2 (ji13)).f2.f0), .int .i64 ((rd_T31 t2 (ji13)).f2.f1), .int .i64 ((rd_T31 t2 (ji13)).f2.f2), .int .i64 ((rd_T31 t2 (ji13)).f3.f0), .int .i64 ((rd_T31 t2 (ji13)).f3.f1), .int .i64 ((rd_T31 t2 (ji13)).f3.f2), .int .i64 ((rd_T31 t2 (ji13)).f4.f0), .int .i64 ((rd_T31 t2 (ji13)).f4.f1), .int .i64 ((rd_T31 t2 (ji13)).f4.f2), .int .i64 ((rd_T31 t2 (ji13)).f5)] 31 (0,0)) (zb_ BK7)) (below_size (zl1_ HB GE7)));replace HO_7:=am_ (Kd.R_elder' (zr_ HO_7) (Kd.R_base ho0) hb);replace BK7:=am_ (blk_below (zb_ BK7) hb);replace HB:=am_ (below_step (zl1_ HB GE7) hb);(try clear hb);(try clear hb2);(try clear hk);(try clear hi);(try clear ho0))|(go_at_call 61;(with_reducible refine (law1_Num.calls t16 t21 _ A45.out).mono ?_);rintro e w' ⟨rfl,⟨nd,rfl⟩⟩;(try first|exact ⟨rfl,_,World.drewN_drewN _ _ _⟩|exact ⟨rfl,_,Eq.trans (World.drewN_drewN _ _ _) (congrArg (World.drewN _) (Nat.add_assoc _ _ _))⟩);obtain ⟨hcz52_0,hcz52_1,hcz52_2,hcz52_3,hcz52_4,hcz52_5,hcz52_6,hcz52_7,hcz52_8,hcz52_9,hcz52_10,hcz52_11,hfz52_0,hfz52_1,hfz52_2,hfz52_3,hfz52_4,hfz52_5,hfz52_6,hfz52_7,hfz52_8,hfz52_9,hfz52_10,hfz52_11⟩:=y12_ BK7;obtain ⟨Ao53,co53,eo53⟩:=Kd.R_slice HO18.out;subst eo53)|(go_at_call 88;(with_reducible refine (shape_Move.calls k2 _ _ t15 ((rd_T31 t2 (ji13)).f0) ((rd_T31 t2 (ji13)).f1) (wrap64 (((rd_T31 t2 (ji13)).f5)+1)) t24 t25 _ ?side1 ?side2 A47.out).mono ?_);(case side1=>exact zc_ (Kd.R_reads' HO18.out).2.2);(case side2=>exact (Kd.R_reads' HO18.out).2.1);rintro e w54 ⟨v26,rfl,ho0,hb⟩;have HO27:=am_ (Kd.R_lower (Kd.R_newB (Kd.R_new' (Kd.R_new' ho0 (Kd.R_lt (zr_ HO_7))) (Kd.R_lt (zr_ HO18))) (g:=gb7) (o:= .cells #[.string ((rd_T31 t2 (ji13)).f0), .string ((rd_T31 t2 (ji13)).f1), .int .i64 ((rd_T31 t2 (ji13)).f2.f0), .int .i64 ((rd_T31 t2 (ji13)).f2.f1), .int .i64 ((rd_T31 t2 (ji13)).f2.f2), .int .i64 ((rd_T31 t2 (ji13)).f3.f0), .int .i64 ((rd_T31 t2 (ji13)).f3.f1), .int .i64 ((rd_T31 t2 (ji13)).f3.f2), .int .i64 ((rd_T31 t2 (ji13)).f4.f0), .int .i64 ((rd_T31 t2 (ji13)).f4.f1), .int .i64 ((rd_T31 t2 (ji13)).f4.f2), .int .i64 ((rd_T31 t2 (ji13)).f5)] 31 (0,0)) (zb_ BK7)) (below_size (zl1_ HB GE7)));replace HO_7:=am_ (Kd.R_elder' (zr_ HO_7) (Kd.R_base ho0) hb);replace HO18:=am_ (Kd.R_elder' (zr_ HO18) (Kd.R_base ho0) hb);replace BK7:=am_ (blk_below (zb_ BK7) hb);replace HB:=am_ (below_step (zl1_ HB GE7) hb);(try clear hb);(try clear hb2);(try clear hk);(try clear hi);(try clear ho0);obtain ⟨hcz55_0,hcz55_1,hcz55_2,hcz55_3,hcz55_4,hcz55_5,hcz55_6,hcz55_7,hcz55_8,hcz55_9,hcz55_10,hcz55_11⟩:=x12_ BK7;have hfz55_0:=blk_frozen BK7.out 0;have hfz55_1:=blk_frozen BK7.out 1;have hfz55_2:=blk_frozen BK7.out 2;have hfz55_3:=blk_frozen BK7.out 3;have hfz55_4:=blk_frozen BK7.out 4;have hfz55_5:=blk_frozen BK7.out 5;have hfz55_6:=blk_frozen BK7.out 6;have hfz55_7:=blk_frozen BK7.out 7;have hfz55_8:=blk_frozen BK7.out 8;have hfz55_9:=blk_frozen BK7.out 9;have hfz55_10:=blk_frozen BK7.out 10;have hfz55_11:=blk_frozen BK7.out 11)|(go_at_call 88;(with_reducible refine (shape_Move.calls k2 _ _ t15 ((rd_T31 t2 (ji13)).f0) ((rd_T31 t2 (ji13)).f1) ((rd_T31 t2 (ji13)).f5) t28 t29 _ ?side1 ?side2 A48.out).mono ?_);(case side1=>exact zc_ (Kd.R_reads' HO18.out).2.2);(case side2=>exact (Kd.R_reads' HO18.out).2.1);rintro e w56 ⟨v30,rfl,ho0,hb⟩;have HO31:=am_ (Kd.R_lower (Kd.R_newB (Kd.R_new' (Kd.R_new' (Kd.R_new' ho0 (Kd.R_lt (zr_ HO_7))) (Kd.R_lt (zr_ HO18))) (Kd.R_lt (zr_ HO27))) (g:=gb7) (o:= .cells #[.string ((rd_T31 t2 (ji13)).f0), .string ((rd_T31 t2 (ji13)).f1), .int .i64 ((rd_T31 t2 (ji13)).f2.f0), .int .i64 ((rd_T31 t2 (ji13)).f2.f1), .int .i64 ((rd_T31 t2 (ji13)).f2.f2), .int .i64 ((rd_T31 t2 (ji13)).f3.f0), .int .i64 ((rd_T31 t2 (ji13)).f3.f1), .int .i64 ((rd_T31 t2 (ji13)).f3.f2), .int .i64 ((rd_T31 t2 (ji13)).f4.f0), .int .i64 ((rd_T31 t2 (ji13)).f4.f1), .int .i64 ((rd_T31 t2 (ji13)).f4.f2), .int .i64 ((rd_T31 t2 (ji13)).f5)] 31 (0,0)) (zb_ BK7)) (below_size (zl1_ HB GE7)));replace HO_7:=am_ (Kd.R_elder' (zr_ HO_7) (Kd.R_base ho0) hb);replace HO18:=am_ (Kd.R_elder' (zr_ HO18) (Kd.R_base ho0) hb);replace HO27:=am_ (Kd.R_elder' (zr_ HO27) (Kd.R_base ho0) hb);replace BK7:=am_ (blk_below (zb_ BK7) hb);replace HB:=am_ (below_step (zl1_ HB GE7) hb);(try clear hb);(try clear hb2);(try clear hk);(try clear hi);(try clear ho0)))
     repeat (go_quiet (first|(go_at_call 88;(with_reducible refine (shape_Move.calls k2 _ _ t2 ((rd_T31 t2 (ji13)).f0) x9_16 ((rd_T31 t2 (ji13)).f5) t15 t16 _ ?side1 ?side2 A35.out).mono ?_);(case side1=>exact zc_ (Kd.R_reads' HO_7.out).2.2);(case side2=>exact (Kd.R_reads' HO_7.out).2.1);rintro e w51 ⟨v17,rfl,ho0,hb⟩;have HO18:=am_ (Kd.R_lower (Kd.R_newB (Kd.R_new' ho0 (Kd.R_lt (zr_ HO_7))) (g:=gb7) (o:= .cells #[.string ((rd_T31 t2 (ji13)).f0), .string ((rd_T31 t2 (ji13)).f1), .int .i64 ((rd_T31 t2 (ji13)).f2.f0), .int .i64 ((rd_T31 t2 (ji13)).f2.f1), .int .i64 ((rd_T31 t2 (ji13)).f2.f2), .int .i64 ((rd_T31 t2 (ji13)).f3.f0), .int .i64 ((rd_T31 t2 (ji13)).f3.f1), .int .i64 ((rd_T31 t2 (ji13)).f3.f2), .int .i64 ((rd_T31 t2 (ji13)).f4.f0), .int .i64 ((rd_T31 t2 (ji13)).f4.f1), .int .i64 ((rd_T31 t2 (ji13)).f4.f2), .int .i64 ((rd_T31 t2 (ji13)).f5)] 31 (0,0)) (zb_ BK7)) (below_size (zl1_ HB GE7)));replace HO_7:=am_ (Kd.R_elder' (zr_ HO_7) (Kd.R_base ho0) hb);replace BK7:=am_ (blk_below (zb_ BK7) hb);replace HB:=am_ (below_step (zl1_ HB GE7) hb);(try clear hb);(try clear hb2);(try clear hk);(try clear hi);(try clear ho0))|(go_at_call 61;(with_reducible refine (law1_Num.calls t16 t21 _ A45.out).mono ?_);rintro e w' ⟨rfl,⟨nd,rfl⟩⟩;(try first|exact ⟨rfl,_,World.drewN_drewN _ _ _⟩|exact ⟨rfl,_,Eq.trans (World.drewN_drewN _ _ _) (congrArg (World.drewN _) (Nat.add_assoc _ _ _))⟩);obtain ⟨hcz52_0,hcz52_1,hcz52_2,hcz52_3,hcz52_4,hcz52_5,hcz52_6,hcz52_7,hcz52_8,hcz52_9,hcz52_10,hcz52_11,hfz52_0,hfz52_1,hfz52_2,hfz52_3,hfz52_4,hfz52_5,hfz52_6,hfz52_7,hfz52_8,hfz52_9,hfz52_10,hfz52_11⟩:=y12_ BK7;obtain ⟨Ao53,co53,eo53⟩:=Kd.R_slice HO18.out;subst eo53)|(go_at_call 88;(with_reducible refine (shape_Move.calls k2 _ _ t15 ((rd_T31 t2 (ji13)).f0) ((rd_T31 t2 (ji13)).f1) (wrap64 (((rd_T31 t2 (ji13)).f5)+1)) t24 t25 _ ?side1 ?side2 A47.out).mono ?_);(case side1=>exact zc_ (Kd.R_reads' HO18.out).2.2);(case side2=>exact (Kd.R_reads' HO18.out).2.1);rintro e w54 ⟨v26,rfl,ho0,hb⟩;have HO27:=am_ (Kd.R_lower (Kd.R_newB (Kd.R_new' (Kd.R_new' ho0 (Kd.R_lt (zr_ HO_7))) (Kd.R_lt (zr_ HO18))) (g:=gb7) (o:= .cells #[.string ((rd_T31 t2 (ji13)).f0), .string ((rd_T31 t2 (ji13)).f1), .int .i64 ((rd_T31 t2 (ji13)).f2.f0), .int .i64 ((rd_T31 t2 (ji13)).f2.f1), .int .i64 ((rd_T31 t2 (ji13)).f2.f2), .int .i64 ((rd_T31 t2 (ji13)).f3.f0), .int .i64 ((rd_T31 t2 (ji13)).f3.f1), .int .i64 ((rd_T31 t2 (ji13)).f3.f2), .int .i64 ((rd_T31 t2 (ji13)).f4.f0), .int .i64 ((rd_T31 t2 (ji13)).f4.f1), .int .i64 ((rd_T31 t2 (ji13)).f4.f2), .int .i64 ((rd_T31 t2 (ji13)).f5)] 31 (0,0)) (zb_ BK7)) (below_size (zl1_ HB GE7)));replace HO_7:=am_ (Kd.R_elder' (zr_ HO_7) (Kd.R_base ho0) hb);replace HO18:=am_ (Kd.R_elder' (zr_ HO18) (Kd.R_base ho0) hb);replace BK7:=am_ (blk_below (zb_ BK7) hb);replace HB:=am_ (below_step (zl1_ HB GE7) hb);(try clear hb);(try clear hb2);(try clear hk);(try clear hi);(try clear ho0);obtain ⟨hcz55_0,hcz55_1,hcz55_2,hcz55_3,hcz55_4,hcz55_5,hcz55_6,hcz55_7,hcz55_8,hcz55_9,hcz55_10,hcz55_11⟩:=x12_ BK7;have hfz55_0:=blk_frozen BK7.out 0;have hfz55_1:=blk_frozen BK7.out 1;have hfz55_2:=blk_frozen BK7.out 2;have hfz55_3:=blk_frozen BK7.out 3;have hfz55_4:=blk_frozen BK7.out 4;have hfz55_5:=blk_frozen BK7.out 5;have hfz55_6:=blk_frozen BK7.out 6;have hfz55_7:=blk_frozen BK7.out 7;have hfz55_8:=blk_frozen BK7.out 8;have hfz55_9:=blk_frozen BK7.out 9;have hfz55_10:=blk_frozen BK7.out 10;have hfz55_11:=blk_frozen BK7.out 11)|(go_at_call 88;(with_reducible refine (shape_Move.calls k2 _ _ t15 ((rd_T31 t2 (ji13)).f0) ((rd_T31 t2 (ji13)).f1) ((rd_T31 t2 (ji13)).f5) t28 t29 _ ?side1 ?side2 A48.out).mono ?_);(case side1=>exact zc_ (Kd.R_reads' HO18.out).2.2);(case side2=>exact (Kd.R_reads' HO18.out).2.1);rintro e w56 ⟨v30,rfl,ho0,hb⟩;have HO31:=am_ (Kd.R_lower (Kd.R_newB (Kd.R_new' (Kd.R_new' (Kd.R_new' ho0 (Kd.R_lt (zr_ HO_7))) (Kd.R_lt (zr_ HO18))) (Kd.R_lt (zr_ HO27))) (g:=gb7) (o:= .cells #[.string ((rd_T31 t2 (ji13)).f0), .string ((rd_T31 t2 (ji13)).f1), .int .i64 ((rd_T31 t2 (ji13)).f2.f0), .int .i64 ((rd_T31 t2 (ji13)).f2.f1), .int .i64 ((rd_T31 t2 (ji13)).f2.f2), .int .i64 ((rd_T31 t2 (ji13)).f3.f0), .int .i64 ((rd_T31 t2 (ji13)).f3.f1), .int .i64 ((rd_T31 t2 (ji13)).f3.f2), .int .i64 ((rd_T31 t2 (ji13)).f4.f0), .int .i64 ((rd_T31 t2 (ji13)).f4.f1), .int .i64 ((rd_T31 t2 (ji13)).f4.f2), .int .i64 ((rd_T31 t2 (ji13)).f5)] 31 (0,0)) (zb_ BK7)) (below_size (zl1_ HB GE7)));replace HO_7:=am_ (Kd.R_elder' (zr_ HO_7) (Kd.R_base ho0) hb);replace HO18:=am_ (Kd.R_elder' (zr_ HO18) (Kd.R_base ho0) hb);replace HO27:=am_ (Kd.R_elder' (zr_ HO27) (Kd.R_base ho0) hb);replace BK7:=am_ (blk_below (zb_ BK7) hb);replace HB:=am_ (below_step (zl1_ HB GE7) hb);(try clear hb);(try clear hb2);(try clear hk);(try clear hi);(try clear ho0)));go_upto_region 22 with (first|(go_at_call 88;(with_reducible refine (shape_Move.calls k2 _ _ t2 ((rd_T31 t2 (ji13)).f0) x9_16 ((rd_T31 t2 (ji13)).f5) t15 t16 _ ?side1 ?side2 A35.out).mono ?_);(case side1=>exact zc_ (Kd.R_reads' HO_7.out).2.2);(case side2=>exact (Kd.R_reads' HO_7.out).2.1);rintro e w51 ⟨v17,rfl,ho0,hb⟩;have HO18:=am_ (Kd.R_lower (Kd.R_newB (Kd.R_new' ho0 (Kd.R_lt (zr_ HO_7))) (g:=gb7) (o:= .cells #[.string ((rd_T31 t2 (ji13)).f0), .string ((rd_T31 t2 (ji13)).f1), .int .i64 ((rd_T31 t2 (ji13)).f2.f0), .int .i64 ((rd_T31 t2 (ji13)).f2.f1), .int .i64 ((rd_T31 t2 (ji13)).f2.f2), .int .i64 ((rd_T31 t2 (ji13)).f3.f0), .int .i64 ((rd_T31 t2 (ji13)).f3.f1), .int .i64 ((rd_T31 t2 (ji13)).f3.f2), .int .i64 ((rd_T31 t2 (ji13)).f4.f0), .int .i64 ((rd_T31 t2 (ji13)).f4.f1), .int .i64 ((rd_T31 t2 (ji13)).f4.f2), .int .i64 ((rd_T31 t2 (ji13)).f5)] 31 (0,0)) (zb_ BK7)) (below_size (zl1_ HB GE7)));replace HO_7:=am_ (Kd.R_elder' (zr_ HO_7) (Kd.R_base ho0) hb);replace BK7:=am_ (blk_below (zb_ BK7) hb);replace HB:=am_ (below_step (zl1_ HB GE7) hb);(try clear hb);(try clear hb2);(try clear hk);(try clear hi);(try clear ho0))|(go_at_call 61;(with_reducible refine (law1_Num.calls t16 t21 _ A45.out).mono ?_);rintro e w' ⟨rfl,⟨nd,rfl⟩⟩;(try first|exact ⟨rfl,_,World.drewN_drewN _ _ _⟩|exact ⟨rfl,_,Eq.trans (World.drewN_drewN _ _ _) (congrArg (World.drewN _) (Nat.add_assoc _ _ _))⟩);obtain ⟨hcz52_0,hcz52_1,hcz52_2,hcz52_3,hcz52_4,hcz52_5,hcz52_6,hcz52_7,hcz52_8,hcz52_9,hcz52_10,hcz52_11,hfz52_0,hfz52_1,hfz52_2,hfz52_3,hfz52_4,hfz52_5,hfz52_6,hfz52_7,hfz52_8,hfz52_9,hfz52_10,hfz52_11⟩:=y12_ BK7;obtain ⟨Ao53,co53,eo53⟩:=Kd.R_slice HO18.out;subst eo53)|(go_at_call 88;(with_reducible refine (shape_Move.calls k2 _ _ t15 ((rd_T31 t2 (ji13)).f0) ((rd_T31 t2 (ji13)).f1) (wrap64 (((rd_T31 t2 (ji13)).f5)+1)) t24 t25 _ ?side1 ?side2 A47.out).mono ?_);(case side1=>exact zc_ (Kd.R_reads' HO18.out).2.2);(case side2=>exact (Kd.R_reads' HO18.out).2.1);rintro e w54 ⟨v26,rfl,ho0,hb⟩;have HO27:=am_ (Kd.R_lower (Kd.R_newB (Kd.R_new' (Kd.R_new' ho0 (Kd.R_lt (zr_ HO_7))) (Kd.R_lt (zr_ HO18))) (g:=gb7) (o:= .cells #[.string ((rd_T31 t2 (ji13)).f0), .string ((rd_T31 t2 (ji13)).f1), .int .i64 ((rd_T31 t2 (ji13)).f2.f0), .int .i64 ((rd_T31 t2 (ji13)).f2.f1), .int .i64 ((rd_T31 t2 (ji13)).f2.f2), .int .i64 ((rd_T31 t2 (ji13)).f3.f0), .int .i64 ((rd_T31 t2 (ji13)).f3.f1), .int .i64 ((rd_T31 t2 (ji13)).f3.f2), .int .i64 ((rd_T31 t2 (ji13)).f4.f0), .int .i64 ((rd_T31 t2 (ji13)).f4.f1), .int .i64 ((rd_T31 t2 (ji13)).f4.f2), .int .i64 ((rd_T31 t2 (ji13)).f5)] 31 (0,0)) (zb_ BK7)) (below_size (zl1_ HB GE7)));replace HO_7:=am_ (Kd.R_elder' (zr_ HO_7) (Kd.R_base ho0) hb);replace HO18:=am_ (Kd.R_elder' (zr_ HO18) (Kd.R_base ho0) hb);replace BK7:=am_ (blk_below (zb_ BK7) hb);replace HB:=am_ (below_step (zl1_ HB GE7) hb);(try clear hb);(try clear hb2);(try clear hk);(try clear hi);(try clear ho0);obtain ⟨hcz55_0,hcz55_1,hcz55_2,hcz55_3,hcz55_4,hcz55_5,hcz55_6,hcz55_7,hcz55_8,hcz55_9,hcz55_10,hcz55_11⟩:=x12_ BK7;have hfz55_0:=blk_frozen BK7.out 0;have hfz55_1:=blk_frozen BK7.out 1;have hfz55_2:=blk_frozen BK7.out 2;have hfz55_3:=blk_frozen BK7.out 3;have hfz55_4:=blk_frozen BK7.out 4;have hfz55_5:=blk_frozen BK7.out 5;have hfz55_6:=blk_frozen BK7.out 6;have hfz55_7:=blk_frozen BK7.out 7;have hfz55_8:=blk_frozen BK7.out 8;have hfz55_9:=blk_frozen BK7.out 9;have hfz55_10:=blk_frozen BK7.out 10;have hfz55_11:=blk_frozen BK7.out 11)|(go_at_call 88;(with_reducible refine (shape_Move.calls k2 _ _ t15 ((rd_T31 t2 (ji13)).f0) ((rd_T31 t2 (ji13)).f1) ((rd_T31 t2 (ji13)).f5) t28 t29 _ ?side1 ?side2 A48.out).mono ?_);(case side1=>exact zc_ (Kd.R_reads' HO18.out).2.2);(case side2=>exact (Kd.R_reads' HO18.out).2.1);rintro e w56 ⟨v30,rfl,ho0,hb⟩;have HO31:=am_ (Kd.R_lower (Kd.R_newB (Kd.R_new' (Kd.R_new' (Kd.R_new' ho0 (Kd.R_lt (zr_ HO_7))) (Kd.R_lt (zr_ HO18))) (Kd.R_lt (zr_ HO27))) (g:=gb7) (o:= .cells #[.string ((rd_T31 t2 (ji13)).f0), .string ((rd_T31 t2 (ji13)).f1), .int .i64 ((rd_T31 t2 (ji13)).f2.f0), .int .i64 ((rd_T31 t2 (ji13)).f2.f1), .int .i64 ((rd_T31 t2 (ji13)).f2.f2), .int .i64 ((rd_T31 t2 (ji13)).f3.f0), .int .i64 ((rd_T31 t2 (ji13)).f3.f1), .int .i64 ((rd_T31 t2 (ji13)).f3.f2), .int .i64 ((rd_T31 t2 (ji13)).f4.f0), .int .i64 ((rd_T31 t2 (ji13)).f4.f1), .int .i64 ((rd_T31 t2 (ji13)).f4.f2), .int .i64 ((rd_T31 t2 (ji13)).f5)] 31 (0,0)) (zb_ BK7)) (below_size (zl1_ HB GE7)));replace HO_7:=am_ (Kd.R_elder' (zr_ HO_7) (Kd.R_base ho0) hb);replace HO18:=am_ (Kd.R_elder' (zr_ HO18) (Kd.R_base ho0) hb);replace HO27:=am_ (Kd.R_elder' (zr_ HO27) (Kd.R_base ho0) hb);replace BK7:=am_ (blk_below (zb_ BK7) hb);replace HB:=am_ (below_step (zl1_ HB GE7) hb);(try clear hb);(try clear hb2);(try clear hk);(try clear hi);(try clear ho0))))
     (try simp only [Act.put,List.setIfInBounds_toArray,List.set_cons_zero,List.set_cons_succ])
     go_cut [143] (fun v143 wc=> ∃(kq:Nat) (x143_48:Bool),v143= .bool x143_48∧Aside0 (law15_ShapeMoves.j2 kq t2 t24 x143_48 ((rd_T31 t2 (ji13)).f0) ((rd_T31 t2 (ji13)).f1) ((rd_T31 t2 (ji13)).f2.f0) ((rd_T31 t2 (ji13)).f2.f1) ((rd_T31 t2 (ji13)).f2.f2) ((rd_T31 t2 (ji13)).f3.f0) ((rd_T31 t2 (ji13)).f3.f1) ((rd_T31 t2 (ji13)).f3.f2) ((rd_T31 t2 (ji13)).f4.f0) ((rd_T31 t2 (ji13)).f4.f1) ((rd_T31 t2 (ji13)).f4.f2) ((rd_T31 t2 (ji13)).f5)=some r)∧Aside0 (kq≤k2)∧Aside0 (Kd.R k31 31 wc w.heap.size (fun k_=>some k_≠(v26:Value).ownBlock∧k_≠gb7) (.slice (some ad6) t2.length co19) t2)∧Aside0 (Kd.R k31 31 wc w.heap.size (fun k_=>some k_≠((.slice (some ad6) t2.length co19):Value).ownBlock∧k_≠gb7) v26 t24)∧Aside0 (wc.heap[gb7]?=some (.cells #[.string ((rd_T31 t2 (ji13)).f0), .string ((rd_T31 t2 (ji13)).f1), .int .i64 ((rd_T31 t2 (ji13)).f2.f0), .int .i64 ((rd_T31 t2 (ji13)).f2.f1), .int .i64 ((rd_T31 t2 (ji13)).f2.f2), .int .i64 ((rd_T31 t2 (ji13)).f3.f0), .int .i64 ((rd_T31 t2 (ji13)).f3.f1), .int .i64 ((rd_T31 t2 (ji13)).f3.f2), .int .i64 ((rd_T31 t2 (ji13)).f4.f0), .int .i64 ((rd_T31 t2 (ji13)).f4.f1), .int .i64 ((rd_T31 t2 (ji13)).f4.f2), .int .i64 ((rd_T31 t2 (ji13)).f5)] 31 (0,0)))∧Aside0 (Below w.heap.size w wc))
     case first=>
      have H:=HC49.out
      clear HC49
      replace H:=Option.bind_eq_some_iff.mp H
      obtain ⟨t32,A570,H⟩:=H
      try dsimp only at H
      have A57:=Aside0.mk A570
      clear A570
      by_cases c58:t32=0
      rotate_left
      ·rw [if_neg c58] at H
       cases H
      rw [if_pos c58] at H
      have c58b0:(t32==0)=true:=beq_iff_eq.mpr c58
      have c58b1:(t32 !=0)=false:=bne_eq_false_iff_eq.mpr c58
      clear c58
      (first|rw [c58b0]|(simp only [i64_w,i32_w];rw [c58b0])|skip)
      replace H:=Option.bind_eq_some_iff.mp H
      obtain ⟨t33,A590,H⟩:=H
      try dsimp only at H
      have A59:=Aside0.mk A590
      clear A590
      by_cases c60:t33=14
      rotate_left
      ·rw [if_neg c60] at H
       cases H
      rw [if_pos c60] at H
      have c60b0:(t33==14)=true:=beq_iff_eq.mpr c60
      have c60b1:(t33 !=14)=false:=bne_eq_false_iff_eq.mpr c60
      clear c60
      have H':=Aside0.mk H
      clear H
      go_wp2_with (first|(go_at_call 61;(with_reducible refine (law1_Num.calls t25 t32 _ A57.out).mono ?_);rintro e w' ⟨rfl,⟨nd,rfl⟩⟩;(try first|exact ⟨rfl,_,World.drewN_drewN _ _ _⟩|exact ⟨rfl,_,Eq.trans (World.drewN_drewN _ _ _) (congrArg (World.drewN _) (Nat.add_assoc _ _ _))⟩))|(go_at_call 61;(with_reducible refine (law1_Num.calls t29 t33 _ A59.out).mono ?_);rintro e w' ⟨rfl,⟨nd,rfl⟩⟩;(try first|exact ⟨rfl,_,World.drewN_drewN _ _ _⟩|exact ⟨rfl,_,Eq.trans (World.drewN_drewN _ _ _) (congrArg (World.drewN _) (Nat.add_assoc _ _ _))⟩);obtain ⟨Ao61,co61,eo61⟩:=Kd.R_slice HO27.out;subst eo61))
      repeat (go_quiet (first|(go_at_call 61;(with_reducible refine (law1_Num.calls t25 t32 _ A57.out).mono ?_);rintro e w' ⟨rfl,⟨nd,rfl⟩⟩;(try first|exact ⟨rfl,_,World.drewN_drewN _ _ _⟩|exact ⟨rfl,_,Eq.trans (World.drewN_drewN _ _ _) (congrArg (World.drewN _) (Nat.add_assoc _ _ _))⟩))|(go_at_call 61;(with_reducible refine (law1_Num.calls t29 t33 _ A59.out).mono ?_);rintro e w' ⟨rfl,⟨nd,rfl⟩⟩;(try first|exact ⟨rfl,_,World.drewN_drewN _ _ _⟩|exact ⟨rfl,_,Eq.trans (World.drewN_drewN _ _ _) (congrArg (World.drewN _) (Nat.add_assoc _ _ _))⟩);obtain ⟨Ao61,co61,eo61⟩:=Kd.R_slice HO27.out;subst eo61));try go_wp2_with (first|(go_at_call 61;(with_reducible refine (law1_Num.calls t25 t32 _ A57.out).mono ?_);rintro e w' ⟨rfl,⟨nd,rfl⟩⟩;(try first|exact ⟨rfl,_,World.drewN_drewN _ _ _⟩|exact ⟨rfl,_,Eq.trans (World.drewN_drewN _ _ _) (congrArg (World.drewN _) (Nat.add_assoc _ _ _))⟩))|(go_at_call 61;(with_reducible refine (law1_Num.calls t29 t33 _ A59.out).mono ?_);rintro e w' ⟨rfl,⟨nd,rfl⟩⟩;(try first|exact ⟨rfl,_,World.drewN_drewN _ _ _⟩|exact ⟨rfl,_,Eq.trans (World.drewN_drewN _ _ _) (congrArg (World.drewN _) (Nat.add_assoc _ _ _))⟩);obtain ⟨Ao61,co61,eo61⟩:=Kd.R_slice HO27.out;subst eo61)))
      go_meet
      case rel=>exact ⟨_,(((t24.length:Int) !=(t2.length:Int))),(by first|rfl|(simp;done)|(simp [*];done)),H',⟨by have:=HJ16.out;have:=HK2.out;first|omega|exact Nat.le_refl _⟩,⟨by (with_reducible repeat (first|apply Kd.R_alloc|apply Kd.R_drewN|apply Kd.R_drew));exact Kd.R_mono HO_7.out (fun _ hk=>⟨hk.1.2,hk.1.1.1⟩)⟩,⟨by (with_reducible repeat (first|apply Kd.R_alloc|apply Kd.R_drewN|apply Kd.R_drew));exact Kd.R_mono HO27.out (fun _ hk=>⟨hk.1.1.1.2,hk.1.2⟩)⟩,⟨by refine zk_ ?_;exact BK7.out⟩,⟨zl1_ HB GE7⟩⟩
     case rest=>
      clear HC49
      try clear c1
      try clear p1
      try clear q1
      try clear hx1
      try clear c2
      try clear p2
      try clear c3
      try clear c4
      try clear c4b0
      try clear c4b1
      try clear c5
      try clear c6
      try clear p6
      try clear q6
      try clear hx6
      try clear c8
      try clear c8b0
      try clear c8b1
      try clear c8b2
      try clear p8
      try clear q8
      try clear hx8
      try clear p10
      try clear q10
      try clear hx10
      try clear p12
      try clear q12
      try clear hx12
      try clear p13
      try clear q13
      try clear hx13
      try clear c14
      try clear c14b0
      try clear c15
      try clear c15b0
      try clear c16
      try clear c16b0
      try clear c16b1
      try clear c22
      try clear c22b0
      try clear c24
      try clear c24b0
      try clear c26
      try clear c26b0
      try clear c27
      try clear c28
      try clear c28b0
      try clear c29
      try clear c29b0
      try clear c31
      try clear c31b0
      try clear c32
      try clear c32b0
      try clear c36
      try clear c38
      try clear c38b0
      try clear c38b1
      try clear c46
      try clear c46b0
      try clear c46b1
      try clear c58
      try clear c58b0
      try clear c58b1
      try clear c60
      try clear c60b0
      try clear c60b1
      try clear hcz21_0
      try clear hcz21_1
      try clear hcz21_10
      try clear hcz21_11
      try clear hcz21_2
      try clear hcz21_3
      try clear hcz21_4
      try clear hcz21_5
      try clear hcz21_6
      try clear hcz21_7
      try clear hcz21_8
      try clear hcz21_9
      try clear hcz34_0
      try clear hcz34_1
      try clear hcz34_10
      try clear hcz34_11
      try clear hcz34_2
      try clear hcz34_3
      try clear hcz34_4
      try clear hcz34_5
      try clear hcz34_6
      try clear hcz34_7
      try clear hcz34_8
      try clear hcz34_9
      try clear hcz40_0
      try clear hcz40_1
      try clear hcz40_10
      try clear hcz40_11
      try clear hcz40_2
      try clear hcz40_3
      try clear hcz40_4
      try clear hcz40_5
      try clear hcz40_6
      try clear hcz40_7
      try clear hcz40_8
      try clear hcz40_9
      try clear hcz43_0
      try clear hcz43_1
      try clear hcz43_10
      try clear hcz43_11
      try clear hcz43_2
      try clear hcz43_3
      try clear hcz43_4
      try clear hcz43_5
      try clear hcz43_6
      try clear hcz43_7
      try clear hcz43_8
      try clear hcz43_9
      try clear hcz50_0
      try clear hcz50_1
      try clear hcz50_10
      try clear hcz50_11
      try clear hcz50_2
      try clear hcz50_3
      try clear hcz50_4
      try clear hcz50_5
      try clear hcz50_6
      try clear hcz50_7
      try clear hcz50_8
      try clear hcz50_9
      try clear hcz52_0
      try clear hcz52_1
      try clear hcz52_10
      try clear hcz52_11
      try clear hcz52_2
      try clear hcz52_3
      try clear hcz52_4
      try clear hcz52_5
      try clear hcz52_6
      try clear hcz52_7
      try clear hcz52_8
      try clear hcz52_9
      try clear hcz55_0
      try clear hcz55_1
      try clear hcz55_10
      try clear hcz55_11
      try clear hcz55_2
      try clear hcz55_3
      try clear hcz55_4
      try clear hcz55_5
      try clear hcz55_6
      try clear hcz55_7
      try clear hcz55_8
      try clear hcz55_9
      try clear hfz21_0
      try clear hfz21_1
      try clear hfz21_10
      try clear hfz21_11
      try clear hfz21_2
      try clear hfz21_3
      try clear hfz21_4
      try clear hfz21_5
      try clear hfz21_6
      try clear hfz21_7
      try clear hfz21_8
      try clear hfz21_9
      try clear hfz34_0
      try clear hfz34_1
      try clear hfz34_10
      try clear hfz34_11
      try clear hfz34_2
      try clear hfz34_3
      try clear hfz34_4
      try clear hfz34_5
      try clear hfz34_6
      try clear hfz34_7
      try clear hfz34_8
      try clear hfz34_9
      try clear hfz40_0
      try clear hfz40_1
      try clear hfz40_10
      try clear hfz40_11
      try clear hfz40_2
      try clear hfz40_3
      try clear hfz40_4
      try clear hfz40_5
      try clear hfz40_6
      try clear hfz40_7
      try clear hfz40_8
      try clear hfz40_9
      try clear hfz43_0
      try clear hfz43_1
      try clear hfz43_10
      try clear hfz43_11
      try clear hfz43_2
      try clear hfz43_3
      try clear hfz43_4
      try clear hfz43_5
      try clear hfz43_6
      try clear hfz43_7
      try clear hfz43_8
      try clear hfz43_9
      try clear hfz50_0
      try clear hfz50_1
      try clear hfz50_10
      try clear hfz50_11
      try clear hfz50_2
      try clear hfz50_3
      try clear hfz50_4
      try clear hfz50_5
      try clear hfz50_6
      try clear hfz50_7
      try clear hfz50_8
      try clear hfz50_9
      try clear hfz52_0
      try clear hfz52_1
      try clear hfz52_10
      try clear hfz52_11
      try clear hfz52_2
      try clear hfz52_3
      try clear hfz52_4
      try clear hfz52_5
      try clear hfz52_6
      try clear hfz52_7
      try clear hfz52_8
      try clear hfz52_9
      try clear hfz55_0
      try clear hfz55_1
      try clear hfz55_10
      try clear hfz55_11
      try clear hfz55_2
      try clear hfz55_3
      try clear hfz55_4
      try clear hfz55_5
      try clear hfz55_6
      try clear hfz55_7
      try clear hfz55_8
      try clear hfz55_9
      try clear hx10_0
      try clear hx10_1
      try clear hx10_10
      try clear hx10_11
      try clear hx10_2
      try clear hx10_3
      try clear hx10_4
      try clear hx10_5
      try clear hx10_6
      try clear hx10_7
      try clear hx10_8
      try clear hx10_9
      try clear hx12_0
      try clear hx12_1
      try clear hx12_10
      try clear hx12_11
      try clear hx12_2
      try clear hx12_3
      try clear hx12_4
      try clear hx12_5
      try clear hx12_6
      try clear hx12_7
      try clear hx12_8
      try clear hx12_9
      try clear hx13_0
      try clear hx13_1
      try clear hx13_10
      try clear hx13_11
      try clear hx13_2
      try clear hx13_3
      try clear hx13_4
      try clear hx13_5
      try clear hx13_6
      try clear hx13_7
      try clear hx13_8
      try clear hx13_9
      try clear hx6_0
      try clear hx6_1
      try clear hx6_10
      try clear hx6_11
      try clear hx6_2
      try clear hx6_3
      try clear hx6_4
      try clear hx6_5
      try clear hx6_6
      try clear hx6_7
      try clear hx6_8
      try clear hx6_9
      try clear hx8_0
      try clear hx8_1
      try clear hx8_10
      try clear hx8_11
      try clear hx8_2
      try clear hx8_3
      try clear hx8_4
      try clear hx8_5
      try clear hx8_6
      try clear hx8_7
      try clear hx8_8
      try clear hx8_9
      try clear p10
      try clear p12
      try clear p13
      try clear p2
      try clear p6
      try clear p8
      try clear q10
      try clear q12
      try clear q13
      try clear q6
      try clear q8
      obtain ⟨kq,x143_48,rfl,HA,HJ48,HO_7,HO_14,BK7,HB⟩:=hcut
      cases kq with
      |zero=>exact absurd HA.out (by simp [law15_ShapeMoves.j2])
      |succ kj48=>
       have H:=HA.out
       clear HA
       simp only [law15_ShapeMoves.j2] at H
       by_cases c62:x143_48=true
       ·subst c62
        have H1:(none)=some r:=by rw [if_pos rfl] at H;exact H
        cases H1
       replace c62:=Bool.eq_false_iff.mpr c62
       subst c62
       have H1:(law15_ShapeMoves.l1 kj48 t2 t24 0 ((rd_T31 t2 (ji13)).f0) ((rd_T31 t2 (ji13)).f1) ((rd_T31 t2 (ji13)).f2.f0) ((rd_T31 t2 (ji13)).f2.f1) ((rd_T31 t2 (ji13)).f2.f2) ((rd_T31 t2 (ji13)).f3.f0) ((rd_T31 t2 (ji13)).f3.f1) ((rd_T31 t2 (ji13)).f3.f2) ((rd_T31 t2 (ji13)).f4.f0) ((rd_T31 t2 (ji13)).f4.f1) ((rd_T31 t2 (ji13)).f4.f2) ((rd_T31 t2 (ji13)).f5))=some r:=by rw [if_neg (show¬(false=true) by decide)] at H;exact H
       clear H
       have H:=H1
       clear H1
       have H':=Aside0.mk H
       clear H
       go_wp2
       repeat (go_quiet (fail);try go_wp2)
       go_loopg [18] kj48 (fun kq v18 w'=> ∃(x18_4:Int),v18= .int .i64 x18_4∧Aside0 (law15_ShapeMoves.l1 kq t2 t24 x18_4 ((rd_T31 t2 (ji13)).f0) ((rd_T31 t2 (ji13)).f1) ((rd_T31 t2 (ji13)).f2.f0) ((rd_T31 t2 (ji13)).f2.f1) ((rd_T31 t2 (ji13)).f2.f2) ((rd_T31 t2 (ji13)).f3.f0) ((rd_T31 t2 (ji13)).f3.f1) ((rd_T31 t2 (ji13)).f3.f2) ((rd_T31 t2 (ji13)).f4.f0) ((rd_T31 t2 (ji13)).f4.f1) ((rd_T31 t2 (ji13)).f4.f2) ((rd_T31 t2 (ji13)).f5)=some r)∧Aside0 (kq≤kj48)∧Aside0 (Kd.R k31 31 w' w.heap.size (fun k_=>some k_≠(v26:Value).ownBlock∧k_≠gb7) (.slice (some ad6) t2.length co19) t2)∧Aside0 (Kd.R k31 31 w' w.heap.size (fun k_=>some k_≠((.slice (some ad6) t2.length co19):Value).ownBlock∧k_≠gb7) v26 t24)∧Aside0 (w'.heap[gb7]?=some (.cells #[.string ((rd_T31 t2 (ji13)).f0), .string ((rd_T31 t2 (ji13)).f1), .int .i64 ((rd_T31 t2 (ji13)).f2.f0), .int .i64 ((rd_T31 t2 (ji13)).f2.f1), .int .i64 ((rd_T31 t2 (ji13)).f2.f2), .int .i64 ((rd_T31 t2 (ji13)).f3.f0), .int .i64 ((rd_T31 t2 (ji13)).f3.f1), .int .i64 ((rd_T31 t2 (ji13)).f3.f2), .int .i64 ((rd_T31 t2 (ji13)).f4.f0), .int .i64 ((rd_T31 t2 (ji13)).f4.f1), .int .i64 ((rd_T31 t2 (ji13)).f4.f2), .int .i64 ((rd_T31 t2 (ji13)).f5)] 31 (0,0)))∧Aside0 (Below w.heap.size w w'))
       case atStart=>exact ⟨(0),(by first|rfl|(simp;done)|(simp [*];done)),H',⟨Nat.le_refl _⟩,⟨by (with_reducible repeat (first|apply Kd.R_alloc|apply Kd.R_drewN|apply Kd.R_drew));exact HO_7.out⟩,⟨by (with_reducible repeat (first|apply Kd.R_alloc|apply Kd.R_drewN|apply Kd.R_drew));exact HO_14.out⟩,⟨by refine zk_ ?_;exact BK7.out⟩,⟨zl1_ HB GE7⟩⟩
       case round=>
        clear H'
        try clear c1
        try clear p1
        try clear q1
        try clear hx1
        try clear c2
        try clear p2
        try clear c3
        try clear c4
        try clear c4b0
        try clear c4b1
        try clear c5
        try clear c6
        try clear p6
        try clear q6
        try clear hx6
        try clear c8
        try clear c8b0
        try clear c8b1
        try clear c8b2
        try clear p8
        try clear q8
        try clear hx8
        try clear p10
        try clear q10
        try clear hx10
        try clear p12
        try clear q12
        try clear hx12
        try clear p13
        try clear q13
        try clear hx13
        try clear c14
        try clear c14b0
        try clear c15
        try clear c15b0
        try clear c16
        try clear c16b0
        try clear c16b1
        try clear c22
        try clear c22b0
        try clear c24
        try clear c24b0
        try clear c26
        try clear c26b0
        try clear c27
        try clear c28
        try clear c28b0
        try clear c29
        try clear c29b0
        try clear c31
        try clear c31b0
        try clear c32
        try clear c32b0
        try clear c36
        try clear c38
        try clear c38b0
        try clear c38b1
        try clear c46
        try clear c46b0
        try clear c46b1
        try clear c58
        try clear c58b0
        try clear c58b1
        try clear c60
        try clear c60b0
        try clear c60b1
        try clear c62
        try clear hcz21_0
        try clear hcz21_1
        try clear hcz21_10
        try clear hcz21_11
        try clear hcz21_2
        try clear hcz21_3
        try clear hcz21_4
        try clear hcz21_5
        try clear hcz21_6
        try clear hcz21_7
        try clear hcz21_8
        try clear hcz21_9
        try clear hcz34_0
        try clear hcz34_1
        try clear hcz34_10
        try clear hcz34_11
        try clear hcz34_2
        try clear hcz34_3
        try clear hcz34_4
        try clear hcz34_5
        try clear hcz34_6
        try clear hcz34_7
        try clear hcz34_8
        try clear hcz34_9
        try clear hcz40_0
        try clear hcz40_1
        try clear hcz40_10
        try clear hcz40_11
        try clear hcz40_2
        try clear hcz40_3
        try clear hcz40_4
        try clear hcz40_5
        try clear hcz40_6
        try clear hcz40_7
        try clear hcz40_8
        try clear hcz40_9
        try clear hcz43_0
        try clear hcz43_1
        try clear hcz43_10
        try clear hcz43_11
        try clear hcz43_2
        try clear hcz43_3
        try clear hcz43_4
        try clear hcz43_5
        try clear hcz43_6
        try clear hcz43_7
        try clear hcz43_8
        try clear hcz43_9
        try clear hcz50_0
        try clear hcz50_1
        try clear hcz50_10
        try clear hcz50_11
        try clear hcz50_2
        try clear hcz50_3
        try clear hcz50_4
        try clear hcz50_5
        try clear hcz50_6
        try clear hcz50_7
        try clear hcz50_8
        try clear hcz50_9
        try clear hcz52_0
        try clear hcz52_1
        try clear hcz52_10
        try clear hcz52_11
        try clear hcz52_2
        try clear hcz52_3
        try clear hcz52_4
        try clear hcz52_5
        try clear hcz52_6
        try clear hcz52_7
        try clear hcz52_8
        try clear hcz52_9
        try clear hcz55_0
        try clear hcz55_1
        try clear hcz55_10
        try clear hcz55_11
        try clear hcz55_2
        try clear hcz55_3
        try clear hcz55_4
        try clear hcz55_5
        try clear hcz55_6
        try clear hcz55_7
        try clear hcz55_8
        try clear hcz55_9
        try clear hfz21_0
        try clear hfz21_1
        try clear hfz21_10
        try clear hfz21_11
        try clear hfz21_2
        try clear hfz21_3
        try clear hfz21_4
        try clear hfz21_5
        try clear hfz21_6
        try clear hfz21_7
        try clear hfz21_8
        try clear hfz21_9
        try clear hfz34_0
        try clear hfz34_1
        try clear hfz34_10
        try clear hfz34_11
        try clear hfz34_2
        try clear hfz34_3
        try clear hfz34_4
        try clear hfz34_5
        try clear hfz34_6
        try clear hfz34_7
        try clear hfz34_8
        try clear hfz34_9
        try clear hfz40_0
        try clear hfz40_1
        try clear hfz40_10
        try clear hfz40_11
        try clear hfz40_2
        try clear hfz40_3
        try clear hfz40_4
        try clear hfz40_5
        try clear hfz40_6
        try clear hfz40_7
        try clear hfz40_8
        try clear hfz40_9
        try clear hfz43_0
        try clear hfz43_1
        try clear hfz43_10
        try clear hfz43_11
        try clear hfz43_2
        try clear hfz43_3
        try clear hfz43_4
        try clear hfz43_5
        try clear hfz43_6
        try clear hfz43_7
        try clear hfz43_8
        try clear hfz43_9
        try clear hfz50_0
        try clear hfz50_1
        try clear hfz50_10
        try clear hfz50_11
        try clear hfz50_2
        try clear hfz50_3
        try clear hfz50_4
        try clear hfz50_5
        try clear hfz50_6
        try clear hfz50_7
        try clear hfz50_8
        try clear hfz50_9
        try clear hfz52_0
        try clear hfz52_1
        try clear hfz52_10
        try clear hfz52_11
        try clear hfz52_2
        try clear hfz52_3
        try clear hfz52_4
        try clear hfz52_5
        try clear hfz52_6
        try clear hfz52_7
        try clear hfz52_8
        try clear hfz52_9
        try clear hfz55_0
        try clear hfz55_1
        try clear hfz55_10
        try clear hfz55_11
        try clear hfz55_2
        try clear hfz55_3
        try clear hfz55_4
        try clear hfz55_5
        try clear hfz55_6
        try clear hfz55_7
        try clear hfz55_8
        try clear hfz55_9
        try clear hx10_0
        try clear hx10_1
        try clear hx10_10
        try clear hx10_11
        try clear hx10_2
        try clear hx10_3
        try clear hx10_4
        try clear hx10_5
        try clear hx10_6
        try clear hx10_7
        try clear hx10_8
        try clear hx10_9
        try clear hx12_0
        try clear hx12_1
        try clear hx12_10
        try clear hx12_11
        try clear hx12_2
        try clear hx12_3
        try clear hx12_4
        try clear hx12_5
        try clear hx12_6
        try clear hx12_7
        try clear hx12_8
        try clear hx12_9
        try clear hx13_0
        try clear hx13_1
        try clear hx13_10
        try clear hx13_11
        try clear hx13_2
        try clear hx13_3
        try clear hx13_4
        try clear hx13_5
        try clear hx13_6
        try clear hx13_7
        try clear hx13_8
        try clear hx13_9
        try clear hx6_0
        try clear hx6_1
        try clear hx6_10
        try clear hx6_11
        try clear hx6_2
        try clear hx6_3
        try clear hx6_4
        try clear hx6_5
        try clear hx6_6
        try clear hx6_7
        try clear hx6_8
        try clear hx6_9
        try clear hx8_0
        try clear hx8_1
        try clear hx8_10
        try clear hx8_11
        try clear hx8_2
        try clear hx8_3
        try clear hx8_4
        try clear hx8_5
        try clear hx8_6
        try clear hx8_7
        try clear hx8_8
        try clear hx8_9
        try clear p1
        try clear p10
        try clear p12
        try clear p13
        try clear p2
        try clear p6
        try clear p8
        try clear q1
        try clear q10
        try clear q12
        try clear q13
        try clear q6
        try clear q8
        obtain ⟨x18_4,rfl,HA,HK4,HO_7,HO_14,BK7,HB⟩:=hrel
        cases gk with
        |zero=>exact absurd HA.out (by simp [law15_ShapeMoves.l1])
        |succ k4=>
         have H:=HA.out
         clear HA
         simp only [law15_ShapeMoves.l1] at H
         by_cases c63:x18_4<(t24.length:Int)
         rotate_left
         ·rw [if_neg c63] at H
          have c63b0:decide (x18_4<(t24.length:Int))=false:=decide_eq_false c63
          clear c63
          replace H:=Option.bind_eq_some_iff.mp H
          obtain ⟨t34,A890,H⟩:=H
          try dsimp only at H
          have A89:=Aside0.mk A890
          clear A890
          obtain rfl:=Option.some.inj H
          obtain ⟨Ao90,co90,eo90⟩:=Kd.R_slice HO_14.out
          subst eo90
          go_wp2_with (first|(go_at_call 85;(with_reducible refine (law15_awake.calls t34 _ A89.out).mono ?_);rintro e w91 ⟨rfl,hb⟩;replace HO_7:=am_ (Kd.R_below (zr_ HO_7) hb);replace HO_14:=am_ (Kd.R_below (zr_ HO_14) hb);replace BK7:=am_ (blk_below (zb_ BK7) hb);replace HB:=am_ (below_step (zl1_ HB GE7) hb);(try clear hb);(try clear hb2);(try clear hk);(try clear hi)))
          repeat (go_quiet (first|(go_at_call 85;(with_reducible refine (law15_awake.calls t34 _ A89.out).mono ?_);rintro e w91 ⟨rfl,hb⟩;replace HO_7:=am_ (Kd.R_below (zr_ HO_7) hb);replace HO_14:=am_ (Kd.R_below (zr_ HO_14) hb);replace BK7:=am_ (blk_below (zb_ BK7) hb);replace HB:=am_ (below_step (zl1_ HB GE7) hb);(try clear hb);(try clear hb2);(try clear hk);(try clear hi)));try go_wp2_with (first|(go_at_call 85;(with_reducible refine (law15_awake.calls t34 _ A89.out).mono ?_);rintro e w91 ⟨rfl,hb⟩;replace HO_7:=am_ (Kd.R_below (zr_ HO_7) hb);replace HO_14:=am_ (Kd.R_below (zr_ HO_14) hb);replace BK7:=am_ (blk_below (zb_ BK7) hb);replace HB:=am_ (below_step (zl1_ HB GE7) hb);(try clear hb);(try clear hb2);(try clear hk);(try clear hi))))
          go_ret
          exact ⟨by first|rfl|(simp [errW_none,errW_some]<;>rfl)|(simp only [←hji13];first|rfl|(simp [errW_none,errW_some]<;>rfl))|(simp [*,errW_none,errW_some]<;>rfl),zl1_ HB GE7⟩
         rw [if_pos c63] at H
         have c63b0:decide (x18_4<(t24.length:Int))=true:=decide_eq_true c63
         clear c63
         by_cases c64:0≤x18_4
         rotate_left
         ·rw [if_neg c64] at H
          exact absurd H (by simp)
         rw [if_pos c64] at H
         have c64b0:decide (0≤x18_4)=true:=decide_eq_true c64
         clear c64
         by_cases c65:x18_4<(t2.length:Int)
         rotate_left
         ·rw [if_neg c65] at H
          exact absurd H (by simp)
         rw [if_pos c65] at H
         have c65b0:decide (x18_4<(t2.length:Int))=true:=decide_eq_true c65
         clear c65
         by_cases c66:((rd_T31 t2 x18_4).f0).toList=((rd_T31 t2 (ji13)).f0).toList
         ·rw [if_pos c66] at H
          have c66b0:(((rd_T31 t2 x18_4).f0).toList==((rd_T31 t2 (ji13)).f0).toList)=true:=beq_iff_eq.mpr c66
          have c66b1:(((rd_T31 t2 x18_4).f0).toList !=((rd_T31 t2 (ji13)).f0).toList)=false:=bne_eq_false_iff_eq.mpr c66
          clear c66
          by_cases c67:(!((((rd_T31 t24 x18_4).f0).toList)==(((rd_T31 t2 x18_4).f0).toList))||(!((((rd_T31 t24 x18_4).f1).toList)==(((rd_T31 t2 x18_4).f1).toList))||((!(((rd_T31 t24 x18_4).f2.f0)==((rd_T31 t2 x18_4).f2.f0))||(!(((rd_T31 t24 x18_4).f2.f1)==((rd_T31 t2 x18_4).f2.f1))||(!(((rd_T31 t24 x18_4).f2.f2)==((rd_T31 t2 x18_4).f2.f2)))))||((!(((rd_T31 t24 x18_4).f3.f0)==((rd_T31 t2 x18_4).f3.f0))||(!(((rd_T31 t24 x18_4).f3.f1)==((rd_T31 t2 x18_4).f3.f1))||(!(((rd_T31 t24 x18_4).f3.f2)==((rd_T31 t2 x18_4).f3.f2)))))||((!(((rd_T31 t24 x18_4).f4.f0)==((rd_T31 t2 x18_4).f4.f0))||(!(((rd_T31 t24 x18_4).f4.f1)==((rd_T31 t2 x18_4).f4.f1))||(!(((rd_T31 t24 x18_4).f4.f2)==((rd_T31 t2 x18_4).f4.f2)))))||(!(((rd_T31 t24 x18_4).f5)==(wrap64 (((rd_T31 t2 x18_4).f5)+2)))))))))=true
          ·rw [if_pos c67] at H
           cases H
          rw [if_neg c67] at H
          have c67b0:(!((((rd_T31 t24 x18_4).f0).toList)==(((rd_T31 t2 x18_4).f0).toList))||(!((((rd_T31 t24 x18_4).f1).toList)==(((rd_T31 t2 x18_4).f1).toList))||((!(((rd_T31 t24 x18_4).f2.f0)==((rd_T31 t2 x18_4).f2.f0))||(!(((rd_T31 t24 x18_4).f2.f1)==((rd_T31 t2 x18_4).f2.f1))||(!(((rd_T31 t24 x18_4).f2.f2)==((rd_T31 t2 x18_4).f2.f2)))))||((!(((rd_T31 t24 x18_4).f3.f0)==((rd_T31 t2 x18_4).f3.f0))||(!(((rd_T31 t24 x18_4).f3.f1)==((rd_T31 t2 x18_4).f3.f1))||(!(((rd_T31 t24 x18_4).f3.f2)==((rd_T31 t2 x18_4).f3.f2)))))||((!(((rd_T31 t24 x18_4).f4.f0)==((rd_T31 t2 x18_4).f4.f0))||(!(((rd_T31 t24 x18_4).f4.f1)==((rd_T31 t2 x18_4).f4.f1))||(!(((rd_T31 t24 x18_4).f4.f2)==((rd_T31 t2 x18_4).f4.f2)))))||(!(((rd_T31 t24 x18_4).f5)==(wrap64 (((rd_T31 t2 x18_4).f5)+2)))))))))=false:=by simpa using c67
          clear c67
          have H':=Aside0.mk H
          clear H
          obtain ⟨Ao36,co36,eo36⟩:=Kd.R_slice HO_14.out
          subst eo36
          have p35:0≤(x18_4:Int):=of_decide_eq_true zq_
          have q35:x18_4<(t2.length:Int):=of_decide_eq_true zq_
          have q36:x18_4<(t24.length:Int):=of_decide_eq_true zq_
          obtain ⟨ad35,e35,hx35_0,hx35_1,hx35_2,hx35_3,hx35_4,hx35_5,hx35_6,hx35_7,hx35_8,hx35_9,hx35_10,hx35_11⟩:=at_T31 (Kd.R_reads' HO_7.out).2.2 x18_4 p35 q35
          obtain rfl:ad6=ad35:=(by injection e35)
          obtain ⟨ad36,e36,hy_0,hy_1,hy_2,hy_3,hy_4,hy_5,hy_6,hy_7,hy_8,hy_9,hy_10,hy_11⟩:=at_T31 (Kd.R_reads' HO_14.out).2.2 x18_4 p35 q36
          cases e36
          replace p35:=eq_true p35
          replace q35:=eq_true q35
          replace q36:=eq_true q36
          go_wp2_with (first|((with_reducible refine gate_dst (N:=19) rfl ?_);refine bx_ (N:=19) (cs:=#[.string ⟨#[]⟩, .string ⟨#[]⟩, .int .i64 0, .int .i64 0, .int .i64 0, .int .i64 0, .int .i64 0, .int .i64 0, .int .i64 0, .int .i64 0, .int .i64 0, .int .i64 0]) (t:=31) ?_;intro gy hg w60 hbox hb;have GEY:=am_ (by rw [hg];exact below_size HB.out:w.heap.size≤gy);have LY:=am_ (show gb7<gy from by rw [hg];exact blk_lt BK7.out);have n0_:=am_ (show Kd.R k31 31 w60 w.heap.size (fun k_=>_∧k_<gy) _ _ from by rw [hg];exact Kd.R_below (Kd.R_mono (Kd.R_bound HO_7.out) (fun k_ hk=>(⟨hk.1,hk.2.2.1⟩:_∧k_<_))) hb);have n1_:=am_ (show Kd.R k31 31 w60 w.heap.size (fun k_=>_∧k_<gy) _ _ from by rw [hg];exact Kd.R_below (Kd.R_mono (Kd.R_bound HO_14.out) (fun k_ hk=>(⟨hk.1,hk.2.2.1⟩:_∧k_<_))) hb);have n2_:=am_ (blk_below BK7.out hb);have n3_:=am_ (below_step HB.out hb);have BY:=Aside0.mk hbox;replace hx35_0:=zh_ hb hx35_0;replace hx35_1:=zh_ hb hx35_1;replace hx35_2:=zh_ hb hx35_2;replace hx35_3:=zh_ hb hx35_3;replace hx35_4:=zh_ hb hx35_4;replace hx35_5:=zh_ hb hx35_5;replace hx35_6:=zh_ hb hx35_6;replace hx35_7:=zh_ hb hx35_7;replace hx35_8:=zh_ hb hx35_8;replace hx35_9:=zh_ hb hx35_9;replace hx35_10:=zh_ hb hx35_10;replace hx35_11:=zh_ hb hx35_11;replace hy_0:=zh_ hb hy_0;replace hy_1:=zh_ hb hy_1;replace hy_2:=zh_ hb hy_2;replace hy_3:=zh_ hb hy_3;replace hy_4:=zh_ hb hy_4;replace hy_5:=zh_ hb hy_5;replace hy_6:=zh_ hb hy_6;replace hy_7:=zh_ hb hy_7;replace hy_8:=zh_ hb hy_8;replace hy_9:=zh_ hb hy_9;replace hy_10:=zh_ hb hy_10;replace hy_11:=zh_ hb hy_11;clear HO_7 HO_14 BK7 HB hb hbox hg;have HO_7:=n0_;have HO_14:=n1_;have BK7:=n2_;have HB:=n3_;clear n0_ n1_ n2_ n3_)|((with_reducible refine gate_store (t:=31) (p:=19) (v:= .tmp 153) rfl ?_);refine store_all BY.out 31 (.tmp 19) (.tmp 153) rfl rfl rfl (.agg #[.string (rd_T31 t2 x18_4).f0, .string (rd_T31 t2 x18_4).f1, .int .i64 (rd_T31 t2 x18_4).f2.f0, .int .i64 (rd_T31 t2 x18_4).f2.f1, .int .i64 (rd_T31 t2 x18_4).f2.f2, .int .i64 (rd_T31 t2 x18_4).f3.f0, .int .i64 (rd_T31 t2 x18_4).f3.f1, .int .i64 (rd_T31 t2 x18_4).f3.f2, .int .i64 (rd_T31 t2 x18_4).f4.f0, .int .i64 (rd_T31 t2 x18_4).f4.f1, .int .i64 (rd_T31 t2 x18_4).f4.f2, .int .i64 (rd_T31 t2 x18_4).f5]) [.string (rd_T31 t2 x18_4).f0, .string (rd_T31 t2 x18_4).f1, .int .i64 (rd_T31 t2 x18_4).f2.f0, .int .i64 (rd_T31 t2 x18_4).f2.f1, .int .i64 (rd_T31 t2 x18_4).f2.f2, .int .i64 (rd_T31 t2 x18_4).f3.f0, .int .i64 (rd_T31 t2 x18_4).f3.f1, .int .i64 (rd_T31 t2 x18_4).f3.f2, .int .i64 (rd_T31 t2 x18_4).f4.f0, .int .i64 (rd_T31 t2 x18_4).f4.f1, .int .i64 (rd_T31 t2 x18_4).f4.f2, .int .i64 (rd_T31 t2 x18_4).f5] rfl rfl rfl (by kernel_rfl) rfl (by intro q hq;simp only [List.mem_cons,List.not_mem_nil,or_false] at hq;rcases hq with rfl|rfl|rfl|rfl|rfl|rfl|rfl|rfl|rfl|rfl|rfl|rfl<;>rfl) ?_;intro w61 hbk hg;have n0_:=am_ (Kd.R_grown HO_7.out hg (fun k_ hk e=>by have:=hk.2;have:=Option.some.inj e;omega));have n1_:=am_ (Kd.R_grown HO_14.out hg (fun k_ hk e=>by have:=hk.2;have:=Option.some.inj e;omega));have n2_:=am_ (blk_put_other BK7.out hg (Nat.ne_of_lt LY.out));have n3_:=am_ (below_put HB.out (below_size HB.out) hg GEY.out);have n5_:=Aside0.mk hbk;clear HO_7 HO_14 BK7 HB BY hbk hg;have HO_7:=n0_;have HO_14:=n1_;have BK7:=n2_;have HB:=n3_;have BY:=n5_;clear n0_ n1_ n2_ n3_ n5_;clear hx35_0 hx35_1 hx35_2 hx35_3 hx35_4 hx35_5 hx35_6 hx35_7 hx35_8 hx35_9 hx35_10 hx35_11 hy_0 hy_1 hy_2 hy_3 hy_4 hy_5 hy_6 hy_7 hy_8 hy_9 hy_10 hy_11;have hq_:=at_T31 (Kd.R_reads' HO_7.out).2.2 x18_4 (of_eq_true p35) (of_eq_true q35);obtain ⟨adA,eA,hx35_0,hx35_1,hx35_2,hx35_3,hx35_4,hx35_5,hx35_6,hx35_7,hx35_8,hx35_9,hx35_10,hx35_11⟩:=hq_;obtain rfl:ad6=adA:=(by injection eA);have hq_:=at_T31 (Kd.R_reads' HO_14.out).2.2 x18_4 (of_eq_true p35) (of_eq_true q36);obtain ⟨adB,eB,hy_0,hy_1,hy_2,hy_3,hy_4,hy_5,hy_6,hy_7,hy_8,hy_9,hy_10,hy_11⟩:=hq_;obtain rfl:ad36=adB:=(by injection eB);have cy_0:=(blk_cell BY.out 0).trans rfl;have cy_1:=(blk_cell BY.out 1).trans rfl;have cy_2:=(blk_cell BY.out 2).trans rfl;have cy_3:=(blk_cell BY.out 3).trans rfl;have cy_4:=(blk_cell BY.out 4).trans rfl;have cy_5:=(blk_cell BY.out 5).trans rfl;have cy_6:=(blk_cell BY.out 6).trans rfl;have cy_7:=(blk_cell BY.out 7).trans rfl;have cy_8:=(blk_cell BY.out 8).trans rfl;have cy_9:=(blk_cell BY.out 9).trans rfl;have cy_10:=(blk_cell BY.out 10).trans rfl;have cy_11:=(blk_cell BY.out 11).trans rfl;have cb7_0:=(blk_cell BK7.out 0).trans rfl)|((with_reducible refine gate_store (t:=3) (p:=162) (v:= .tmp 161) rfl ?_);refine store_part BY.out 3 (.tmp 162) (.tmp 161) rfl rfl rfl 11 (.int .i64 (wrap64 ((rd_T31 t2 x18_4).f5+2))) [.int .i64 (wrap64 ((rd_T31 t2 x18_4).f5+2))] [.string (rd_T31 t2 x18_4).f0, .string (rd_T31 t2 x18_4).f1, .int .i64 (rd_T31 t2 x18_4).f2.f0, .int .i64 (rd_T31 t2 x18_4).f2.f1, .int .i64 (rd_T31 t2 x18_4).f2.f2, .int .i64 (rd_T31 t2 x18_4).f3.f0, .int .i64 (rd_T31 t2 x18_4).f3.f1, .int .i64 (rd_T31 t2 x18_4).f3.f2, .int .i64 (rd_T31 t2 x18_4).f4.f0, .int .i64 (rd_T31 t2 x18_4).f4.f1, .int .i64 (rd_T31 t2 x18_4).f4.f2, .int .i64 (wrap64 ((rd_T31 t2 x18_4).f5+2))] rfl rfl rfl (by kernel_rfl) (Nat.le_of_ble_eq_true (by kernel_rfl)) (by intro q hq;simp only [List.mem_cons,List.not_mem_nil,or_false] at hq;rcases hq with rfl;rfl) (by kernel_rfl) ?_;intro w62 hbk hg;clear cy_0 cy_1 cy_2 cy_3 cy_4 cy_5 cy_6 cy_7 cy_8 cy_9 cy_10 cy_11;have n0_:=am_ (Kd.R_grown HO_7.out hg (fun k_ hk e=>by have:=hk.2;have:=Option.some.inj e;omega));have n1_:=am_ (Kd.R_grown HO_14.out hg (fun k_ hk e=>by have:=hk.2;have:=Option.some.inj e;omega));have n2_:=am_ (blk_put_other BK7.out hg (Nat.ne_of_lt LY.out));have n3_:=am_ (below_put HB.out (below_size HB.out) hg GEY.out);have n5_:=Aside0.mk hbk;clear HO_7 HO_14 BK7 HB BY hbk hg;have HO_7:=n0_;have HO_14:=n1_;have BK7:=n2_;have HB:=n3_;have BY:=n5_;clear n0_ n1_ n2_ n3_ n5_;clear hx35_0 hx35_1 hx35_2 hx35_3 hx35_4 hx35_5 hx35_6 hx35_7 hx35_8 hx35_9 hx35_10 hx35_11 hy_0 hy_1 hy_2 hy_3 hy_4 hy_5 hy_6 hy_7 hy_8 hy_9 hy_10 hy_11;have hq_:=at_T31 (Kd.R_reads' HO_7.out).2.2 x18_4 (of_eq_true p35) (of_eq_true q35);obtain ⟨adA,eA,hx35_0,hx35_1,hx35_2,hx35_3,hx35_4,hx35_5,hx35_6,hx35_7,hx35_8,hx35_9,hx35_10,hx35_11⟩:=hq_;obtain rfl:ad6=adA:=(by injection eA);have hq_:=at_T31 (Kd.R_reads' HO_14.out).2.2 x18_4 (of_eq_true p35) (of_eq_true q36);obtain ⟨adB,eB,hy_0,hy_1,hy_2,hy_3,hy_4,hy_5,hy_6,hy_7,hy_8,hy_9,hy_10,hy_11⟩:=hq_;obtain rfl:ad36=adB:=(by injection eB);have cy_0:=(blk_cell BY.out 0).trans rfl;have cy_1:=(blk_cell BY.out 1).trans rfl;have cy_2:=(blk_cell BY.out 2).trans rfl;have cy_3:=(blk_cell BY.out 3).trans rfl;have cy_4:=(blk_cell BY.out 4).trans rfl;have cy_5:=(blk_cell BY.out 5).trans rfl;have cy_6:=(blk_cell BY.out 6).trans rfl;have cy_7:=(blk_cell BY.out 7).trans rfl;have cy_8:=(blk_cell BY.out 8).trans rfl;have cy_9:=(blk_cell BY.out 9).trans rfl;have cy_10:=(blk_cell BY.out 10).trans rfl;have cy_11:=(blk_cell BY.out 11).trans rfl))
          have zhy_0:=fun (n_:Nat)=>(show (w62.drewN n_).cell? _=some _ from hy_0)
          have zhy_1:=fun (n_:Nat)=>(show (w62.drewN n_).cell? _=some _ from hy_1)
          have zhy_2:=fun (n_:Nat)=>(show (w62.drewN n_).cell? _=some _ from hy_2)
          have zhy_3:=fun (n_:Nat)=>(show (w62.drewN n_).cell? _=some _ from hy_3)
          have zhy_4:=fun (n_:Nat)=>(show (w62.drewN n_).cell? _=some _ from hy_4)
          have zhy_5:=fun (n_:Nat)=>(show (w62.drewN n_).cell? _=some _ from hy_5)
          have zhy_6:=fun (n_:Nat)=>(show (w62.drewN n_).cell? _=some _ from hy_6)
          have zhy_7:=fun (n_:Nat)=>(show (w62.drewN n_).cell? _=some _ from hy_7)
          have zhy_8:=fun (n_:Nat)=>(show (w62.drewN n_).cell? _=some _ from hy_8)
          have zhy_9:=fun (n_:Nat)=>(show (w62.drewN n_).cell? _=some _ from hy_9)
          have zhy_10:=fun (n_:Nat)=>(show (w62.drewN n_).cell? _=some _ from hy_10)
          have zhy_11:=fun (n_:Nat)=>(show (w62.drewN n_).cell? _=some _ from hy_11)
          have zcy_0:=fun (n_:Nat)=>(show (w62.drewN n_).cell? _=some _ from cy_0)
          have zcy_1:=fun (n_:Nat)=>(show (w62.drewN n_).cell? _=some _ from cy_1)
          have zcy_2:=fun (n_:Nat)=>(show (w62.drewN n_).cell? _=some _ from cy_2)
          have zcy_3:=fun (n_:Nat)=>(show (w62.drewN n_).cell? _=some _ from cy_3)
          have zcy_4:=fun (n_:Nat)=>(show (w62.drewN n_).cell? _=some _ from cy_4)
          have zcy_5:=fun (n_:Nat)=>(show (w62.drewN n_).cell? _=some _ from cy_5)
          have zcy_6:=fun (n_:Nat)=>(show (w62.drewN n_).cell? _=some _ from cy_6)
          have zcy_7:=fun (n_:Nat)=>(show (w62.drewN n_).cell? _=some _ from cy_7)
          have zcy_8:=fun (n_:Nat)=>(show (w62.drewN n_).cell? _=some _ from cy_8)
          have zcy_9:=fun (n_:Nat)=>(show (w62.drewN n_).cell? _=some _ from cy_9)
          have zcy_10:=fun (n_:Nat)=>(show (w62.drewN n_).cell? _=some _ from cy_10)
          have zcy_11:=fun (n_:Nat)=>(show (w62.drewN n_).cell? _=some _ from cy_11)
          repeat (go_quiet (fail);try go_wp2)
          go_roundg k4
          case measure=>have:=HJ16.out;have:=HK2.out;have:=HJ48.out;have:=HK4.out;omega
          case rel=>exact ⟨(wrap64 (x18_4+1)),(by first|rfl|(simp;done)|(simp [*];done)),H',⟨by have:=HK4.out;omega⟩,⟨by (with_reducible repeat (first|apply Kd.R_alloc|apply Kd.R_drewN|apply Kd.R_drew));exact Kd.R_mono HO_7.out (fun _ hk=>hk.1)⟩,⟨by (with_reducible repeat (first|apply Kd.R_alloc|apply Kd.R_drewN|apply Kd.R_drew));exact Kd.R_mono HO_14.out (fun _ hk=>hk.1)⟩,⟨by refine zk_ ?_;exact BK7.out⟩,⟨zl0_ HB⟩⟩
         rw [if_neg c66] at H
         have c66b0:(((rd_T31 t2 x18_4).f0).toList==((rd_T31 t2 (ji13)).f0).toList)=false:=beq_eq_false_iff_ne.mpr c66
         have c66b1:(((rd_T31 t2 x18_4).f0).toList !=((rd_T31 t2 (ji13)).f0).toList)=true:=bne_iff_ne.mpr c66
         by_cases c78:(!((((rd_T31 t24 x18_4).f0).toList)==(((rd_T31 t2 x18_4).f0).toList))||(!((((rd_T31 t24 x18_4).f1).toList)==(((rd_T31 t2 x18_4).f1).toList))||((!(((rd_T31 t24 x18_4).f2.f0)==((rd_T31 t2 x18_4).f2.f0))||(!(((rd_T31 t24 x18_4).f2.f1)==((rd_T31 t2 x18_4).f2.f1))||(!(((rd_T31 t24 x18_4).f2.f2)==((rd_T31 t2 x18_4).f2.f2)))))||((!(((rd_T31 t24 x18_4).f3.f0)==((rd_T31 t2 x18_4).f3.f0))||(!(((rd_T31 t24 x18_4).f3.f1)==((rd_T31 t2 x18_4).f3.f1))||(!(((rd_T31 t24 x18_4).f3.f2)==((rd_T31 t2 x18_4).f3.f2)))))||((!(((rd_T31 t24 x18_4).f4.f0)==((rd_T31 t2 x18_4).f4.f0))||(!(((rd_T31 t24 x18_4).f4.f1)==((rd_T31 t2 x18_4).f4.f1))||(!(((rd_T31 t24 x18_4).f4.f2)==((rd_T31 t2 x18_4).f4.f2)))))||(!(((rd_T31 t24 x18_4).f5)==((rd_T31 t2 x18_4).f5))))))))=true
         ·rw [if_pos c78] at H
          cases H
         rw [if_neg c78] at H
         have c78b0:(!((((rd_T31 t24 x18_4).f0).toList)==(((rd_T31 t2 x18_4).f0).toList))||(!((((rd_T31 t24 x18_4).f1).toList)==(((rd_T31 t2 x18_4).f1).toList))||((!(((rd_T31 t24 x18_4).f2.f0)==((rd_T31 t2 x18_4).f2.f0))||(!(((rd_T31 t24 x18_4).f2.f1)==((rd_T31 t2 x18_4).f2.f1))||(!(((rd_T31 t24 x18_4).f2.f2)==((rd_T31 t2 x18_4).f2.f2)))))||((!(((rd_T31 t24 x18_4).f3.f0)==((rd_T31 t2 x18_4).f3.f0))||(!(((rd_T31 t24 x18_4).f3.f1)==((rd_T31 t2 x18_4).f3.f1))||(!(((rd_T31 t24 x18_4).f3.f2)==((rd_T31 t2 x18_4).f3.f2)))))||((!(((rd_T31 t24 x18_4).f4.f0)==((rd_T31 t2 x18_4).f4.f0))||(!(((rd_T31 t24 x18_4).f4.f1)==((rd_T31 t2 x18_4).f4.f1))||(!(((rd_T31 t24 x18_4).f4.f2)==((rd_T31 t2 x18_4).f4.f2)))))||(!(((rd_T31 t24 x18_4).f5)==((rd_T31 t2 x18_4).f5))))))))=false:=by simpa using c78
         clear c78
         have H':=Aside0.mk H
         clear H
         obtain ⟨Ao36,co36,eo36⟩:=Kd.R_slice HO_14.out
         subst eo36
         have p35:0≤(x18_4:Int):=of_decide_eq_true zq_
         have q35:x18_4<(t2.length:Int):=of_decide_eq_true zq_
         have q36:x18_4<(t24.length:Int):=of_decide_eq_true zq_
         obtain ⟨ad35,e35,hx35_0,hx35_1,hx35_2,hx35_3,hx35_4,hx35_5,hx35_6,hx35_7,hx35_8,hx35_9,hx35_10,hx35_11⟩:=at_T31 (Kd.R_reads' HO_7.out).2.2 x18_4 p35 q35
         obtain rfl:ad6=ad35:=(by injection e35)
         obtain ⟨ad36,e36,hy_0,hy_1,hy_2,hy_3,hy_4,hy_5,hy_6,hy_7,hy_8,hy_9,hy_10,hy_11⟩:=at_T31 (Kd.R_reads' HO_14.out).2.2 x18_4 p35 q36
         cases e36
         replace p35:=eq_true p35
         replace q35:=eq_true q35
         replace q36:=eq_true q36
         go_wp2_with (first|((with_reducible refine gate_dst (N:=19) rfl ?_);refine bx_ (N:=19) (cs:=#[.string ⟨#[]⟩, .string ⟨#[]⟩, .int .i64 0, .int .i64 0, .int .i64 0, .int .i64 0, .int .i64 0, .int .i64 0, .int .i64 0, .int .i64 0, .int .i64 0, .int .i64 0]) (t:=31) ?_;intro gy hg w60 hbox hb;have GEY:=am_ (by rw [hg];exact below_size HB.out:w.heap.size≤gy);have LY:=am_ (show gb7<gy from by rw [hg];exact blk_lt BK7.out);have n0_:=am_ (show Kd.R k31 31 w60 w.heap.size (fun k_=>_∧k_<gy) _ _ from by rw [hg];exact Kd.R_below (Kd.R_mono (Kd.R_bound HO_7.out) (fun k_ hk=>(⟨hk.1,hk.2.2.1⟩:_∧k_<_))) hb);have n1_:=am_ (show Kd.R k31 31 w60 w.heap.size (fun k_=>_∧k_<gy) _ _ from by rw [hg];exact Kd.R_below (Kd.R_mono (Kd.R_bound HO_14.out) (fun k_ hk=>(⟨hk.1,hk.2.2.1⟩:_∧k_<_))) hb);have n2_:=am_ (blk_below BK7.out hb);have n3_:=am_ (below_step HB.out hb);have BY:=Aside0.mk hbox;replace hx35_0:=zh_ hb hx35_0;replace hx35_1:=zh_ hb hx35_1;replace hx35_2:=zh_ hb hx35_2;replace hx35_3:=zh_ hb hx35_3;replace hx35_4:=zh_ hb hx35_4;replace hx35_5:=zh_ hb hx35_5;replace hx35_6:=zh_ hb hx35_6;replace hx35_7:=zh_ hb hx35_7;replace hx35_8:=zh_ hb hx35_8;replace hx35_9:=zh_ hb hx35_9;replace hx35_10:=zh_ hb hx35_10;replace hx35_11:=zh_ hb hx35_11;replace hy_0:=zh_ hb hy_0;replace hy_1:=zh_ hb hy_1;replace hy_2:=zh_ hb hy_2;replace hy_3:=zh_ hb hy_3;replace hy_4:=zh_ hb hy_4;replace hy_5:=zh_ hb hy_5;replace hy_6:=zh_ hb hy_6;replace hy_7:=zh_ hb hy_7;replace hy_8:=zh_ hb hy_8;replace hy_9:=zh_ hb hy_9;replace hy_10:=zh_ hb hy_10;replace hy_11:=zh_ hb hy_11;clear HO_7 HO_14 BK7 HB hb hbox hg;have HO_7:=n0_;have HO_14:=n1_;have BK7:=n2_;have HB:=n3_;clear n0_ n1_ n2_ n3_)|((with_reducible refine gate_store (t:=31) (p:=19) (v:= .tmp 153) rfl ?_);refine store_all BY.out 31 (.tmp 19) (.tmp 153) rfl rfl rfl (.agg #[.string (rd_T31 t2 x18_4).f0, .string (rd_T31 t2 x18_4).f1, .int .i64 (rd_T31 t2 x18_4).f2.f0, .int .i64 (rd_T31 t2 x18_4).f2.f1, .int .i64 (rd_T31 t2 x18_4).f2.f2, .int .i64 (rd_T31 t2 x18_4).f3.f0, .int .i64 (rd_T31 t2 x18_4).f3.f1, .int .i64 (rd_T31 t2 x18_4).f3.f2, .int .i64 (rd_T31 t2 x18_4).f4.f0, .int .i64 (rd_T31 t2 x18_4).f4.f1, .int .i64 (rd_T31 t2 x18_4).f4.f2, .int .i64 (rd_T31 t2 x18_4).f5]) [.string (rd_T31 t2 x18_4).f0, .string (rd_T31 t2 x18_4).f1, .int .i64 (rd_T31 t2 x18_4).f2.f0, .int .i64 (rd_T31 t2 x18_4).f2.f1, .int .i64 (rd_T31 t2 x18_4).f2.f2, .int .i64 (rd_T31 t2 x18_4).f3.f0, .int .i64 (rd_T31 t2 x18_4).f3.f1, .int .i64 (rd_T31 t2 x18_4).f3.f2, .int .i64 (rd_T31 t2 x18_4).f4.f0, .int .i64 (rd_T31 t2 x18_4).f4.f1, .int .i64 (rd_T31 t2 x18_4).f4.f2, .int .i64 (rd_T31 t2 x18_4).f5] rfl rfl rfl (by kernel_rfl) rfl (by intro q hq;simp only [List.mem_cons,List.not_mem_nil,or_false] at hq;rcases hq with rfl|rfl|rfl|rfl|rfl|rfl|rfl|rfl|rfl|rfl|rfl|rfl<;>rfl) ?_;intro w61 hbk hg;have n0_:=am_ (Kd.R_grown HO_7.out hg (fun k_ hk e=>by have:=hk.2;have:=Option.some.inj e;omega));have n1_:=am_ (Kd.R_grown HO_14.out hg (fun k_ hk e=>by have:=hk.2;have:=Option.some.inj e;omega));have n2_:=am_ (blk_put_other BK7.out hg (Nat.ne_of_lt LY.out));have n3_:=am_ (below_put HB.out (below_size HB.out) hg GEY.out);have n5_:=Aside0.mk hbk;clear HO_7 HO_14 BK7 HB BY hbk hg;have HO_7:=n0_;have HO_14:=n1_;have BK7:=n2_;have HB:=n3_;have BY:=n5_;clear n0_ n1_ n2_ n3_ n5_;clear hx35_0 hx35_1 hx35_2 hx35_3 hx35_4 hx35_5 hx35_6 hx35_7 hx35_8 hx35_9 hx35_10 hx35_11 hy_0 hy_1 hy_2 hy_3 hy_4 hy_5 hy_6 hy_7 hy_8 hy_9 hy_10 hy_11;have hq_:=at_T31 (Kd.R_reads' HO_7.out).2.2 x18_4 (of_eq_true p35) (of_eq_true q35);obtain ⟨adA,eA,hx35_0,hx35_1,hx35_2,hx35_3,hx35_4,hx35_5,hx35_6,hx35_7,hx35_8,hx35_9,hx35_10,hx35_11⟩:=hq_;obtain rfl:ad6=adA:=(by injection eA);have hq_:=at_T31 (Kd.R_reads' HO_14.out).2.2 x18_4 (of_eq_true p35) (of_eq_true q36);obtain ⟨adB,eB,hy_0,hy_1,hy_2,hy_3,hy_4,hy_5,hy_6,hy_7,hy_8,hy_9,hy_10,hy_11⟩:=hq_;obtain rfl:ad36=adB:=(by injection eB);have cy_0:=(blk_cell BY.out 0).trans rfl;have cy_1:=(blk_cell BY.out 1).trans rfl;have cy_2:=(blk_cell BY.out 2).trans rfl;have cy_3:=(blk_cell BY.out 3).trans rfl;have cy_4:=(blk_cell BY.out 4).trans rfl;have cy_5:=(blk_cell BY.out 5).trans rfl;have cy_6:=(blk_cell BY.out 6).trans rfl;have cy_7:=(blk_cell BY.out 7).trans rfl;have cy_8:=(blk_cell BY.out 8).trans rfl;have cy_9:=(blk_cell BY.out 9).trans rfl;have cy_10:=(blk_cell BY.out 10).trans rfl;have cy_11:=(blk_cell BY.out 11).trans rfl;have cb7_0:=(blk_cell BK7.out 0).trans rfl))
         have zhy_0:=fun (n_:Nat)=>(show (w61.drewN n_).cell? _=some _ from hy_0)
         have zhy_1:=fun (n_:Nat)=>(show (w61.drewN n_).cell? _=some _ from hy_1)
         have zhy_2:=fun (n_:Nat)=>(show (w61.drewN n_).cell? _=some _ from hy_2)
         have zhy_3:=fun (n_:Nat)=>(show (w61.drewN n_).cell? _=some _ from hy_3)
         have zhy_4:=fun (n_:Nat)=>(show (w61.drewN n_).cell? _=some _ from hy_4)
         have zhy_5:=fun (n_:Nat)=>(show (w61.drewN n_).cell? _=some _ from hy_5)
         have zhy_6:=fun (n_:Nat)=>(show (w61.drewN n_).cell? _=some _ from hy_6)
         have zhy_7:=fun (n_:Nat)=>(show (w61.drewN n_).cell? _=some _ from hy_7)
         have zhy_8:=fun (n_:Nat)=>(show (w61.drewN n_).cell? _=some _ from hy_8)
         have zhy_9:=fun (n_:Nat)=>(show (w61.drewN n_).cell? _=some _ from hy_9)
         have zhy_10:=fun (n_:Nat)=>(show (w61.drewN n_).cell? _=some _ from hy_10)
         have zhy_11:=fun (n_:Nat)=>(show (w61.drewN n_).cell? _=some _ from hy_11)
         have zcy_0:=fun (n_:Nat)=>(show (w61.drewN n_).cell? _=some _ from cy_0)
         have zcy_1:=fun (n_:Nat)=>(show (w61.drewN n_).cell? _=some _ from cy_1)
         have zcy_2:=fun (n_:Nat)=>(show (w61.drewN n_).cell? _=some _ from cy_2)
         have zcy_3:=fun (n_:Nat)=>(show (w61.drewN n_).cell? _=some _ from cy_3)
         have zcy_4:=fun (n_:Nat)=>(show (w61.drewN n_).cell? _=some _ from cy_4)
         have zcy_5:=fun (n_:Nat)=>(show (w61.drewN n_).cell? _=some _ from cy_5)
         have zcy_6:=fun (n_:Nat)=>(show (w61.drewN n_).cell? _=some _ from cy_6)
         have zcy_7:=fun (n_:Nat)=>(show (w61.drewN n_).cell? _=some _ from cy_7)
         have zcy_8:=fun (n_:Nat)=>(show (w61.drewN n_).cell? _=some _ from cy_8)
         have zcy_9:=fun (n_:Nat)=>(show (w61.drewN n_).cell? _=some _ from cy_9)
         have zcy_10:=fun (n_:Nat)=>(show (w61.drewN n_).cell? _=some _ from cy_10)
         have zcy_11:=fun (n_:Nat)=>(show (w61.drewN n_).cell? _=some _ from cy_11)
         repeat (go_quiet (fail);try go_wp2)
         go_roundg k4
         case measure=>have:=HJ16.out;have:=HK2.out;have:=HJ48.out;have:=HK4.out;omega
         case rel=>exact ⟨(wrap64 (x18_4+1)),(by first|rfl|(simp;done)|(simp [*];done)),H',⟨by have:=HK4.out;omega⟩,⟨by (with_reducible repeat (first|apply Kd.R_alloc|apply Kd.R_drewN|apply Kd.R_drew));exact Kd.R_mono HO_7.out (fun _ hk=>hk.1)⟩,⟨by (with_reducible repeat (first|apply Kd.R_alloc|apply Kd.R_drewN|apply Kd.R_drew));exact Kd.R_mono HO_14.out (fun _ hk=>hk.1)⟩,⟨by refine zk_ ?_;exact BK7.out⟩,⟨zl0_ HB⟩⟩
def law15_ShapeMoves.Pure:Prop:= ∀(l0:List Int) (a1:Int) (a2:Int),l0.length≤maxLen→l0.length*1≤140737488351232→(∀x∈l0,(Lit.int .u8 x).wf=true)→(Lit.int .u8 a1).wf=true→(Lit.int .u8 a2).wf=true→ ∃k,law15_ShapeMoves.f k l0 a1 a2=some true
theorem law15_ShapeMoves.walk (P:law15_ShapeMoves.Pure) (a0:Option Addr) (len0 cap0:Nat) (z0:List Int) (a1:Int) (a2:Int) (w:World) (w0:(a0=none∧len0=0∧cap0=0∧z0=[])∨ ∃x,a0=some x∧len0≤cap0∧cap0≤maxLen∧z0.length=cap0∧(∀i,i<z0.length→w.cell? (x.add i)=some (.int .u8 (z0.getD i 0)))∧ ∀n∈z0,(Lit.int .u8 n).wf=true) (y0:len0*1≤140737488351232) (w1:(Lit.int .u8 a1).wf=true) (w2:(Lit.int .u8 a2).wf=true):
  Calls Try.prog 24 #[.slice a0 len0 cap0, .int .u8 a1, .int .u8 a2] w fun e w'=>e= .returned (.bool true)∧Below w.heap.size w w':=by
 obtain ⟨l0,rfl,hr0,hm0,hw0,hc0⟩:=ReadsInt.ofRowC w0
 obtain ⟨k,h⟩:=P l0 a1 a2 hm0 y0 hw0 w1 w2
 refine (law15_ShapeMoves.calls k _ _ l0 a1 a2 true w (Kd.C_of_reads (d:=(0:Int)) (h1:=fun _=>rfl) hr0) hc0 h).mono ?_
 rintro e w' ⟨rfl,hd⟩
 exact ⟨rfl,hd⟩

end Go.Proofs.Ytcgefpklljclgaa.Print

namespace Go.Proofs.Ytcgefpklljclgaa.Print
open Go.RowKit Go.Proofs.YtcgefpklljclgaaW.PrintWords Go.Proofs.YtcgefpklljclgaaW.PrintLast
abbrev Item:=S31
abbrev Vec:=S27
abbrev zItem:Item:=z31
theorem rd_item (l:List Item) (i:Int):rd_T31 l i=l.getD i.toNat zItem:=rfl
instance baLawful:LawfulBEq ByteArray where
 eq_of_beq {a b} h:=by
  obtain ⟨a⟩:=a
  obtain ⟨b⟩:=b
  have:(a==b)=true:=h
  rw [eq_of_beq this]
 rfl {a}:=by
  obtain ⟨a⟩:=a
  show (a==a)=true
  exact beq_self_eq_true a
theorem nm_inj {a b:ByteArray}:a.toList=b.toList↔a=b:=by
  constructor
  rotate_left
  · rintro rfl;rfl
  intro h
  rw [ByteArray.toList_eq,ByteArray.toList_eq] at h
  exact ByteArray.ext (Array.toList_inj.1 h)
theorem nm_beq (a b:ByteArray):(a.toList==b.toList)=decide (a=b):=by
 rw [Bool.eq_iff_iff,beq_iff_eq,nm_inj,decide_eq_true_iff]
theorem nm_empty {a:ByteArray}:a.toList=([]:List UInt8)↔a=⟨#[]⟩:=by
 rw [←nm_inj];rw [show (ByteArray.mk #[]).toList=[] from by rw [ByteArray.toList_eq]]
theorem Ev.const {α:Type} {g:Option α} {r:α} (h:g=some r):Ev (fun _=>g) r:=⟨0,fun _ _=>h⟩
theorem w64 {n:Int} (h0: -9223372036854775808≤n) (h1:n≤9223372036854775807):wrap64 n=n:=by unfold wrap64;omega
def look (l:List Item) (n:ByteArray):Option Item:=l.find? (fun x=>x.f0=n)
def fnd (l:List Item) (n:ByteArray):Int:=fidx (fun x:Item=>x.f0.toList==n.toList) l 0
theorem fidx_none {α:Type} {p:α→Bool}: ∀{l:List α} {i:Int},(∀x∈l,p x=false)→fidx p l i= -1
  |[],_,_=>rfl
  | x :: l, i, h => by
    unfold fidx
    rw [if_neg (by rw [h x (by simp)];simp)]
    exact fidx_none (fun y hy=>h y (by simp [hy]))
theorem fidx_some {α:Type} {p:α→Bool} (z:α): ∀{l:List α} {i:Int} {x:α},l.find? p=some x→ ∃j:Nat,j<l.length∧fidx p l i=i+j∧l.getD j z=x∧p x=true∧ ∀m,m<j→p (l.getD m z)=false
  |[],_,_,h=>by simp at h
  | y :: l, i, x, h => by
    unfold fidx
    by_cases hy:p y=true
    · rw [if_pos hy]
      simp only [List.find?_cons,hy] at h
      obtain rfl:=Option.some.inj h
      exact ⟨0,by simp,by simp,by simp,hy,fun m hm=>by omega⟩
    rw [if_neg hy]
    have hy':p y=false:=by simpa using hy
    simp only [List.find?_cons,hy'] at h
    obtain ⟨j,hj,h1,h2,h3,h4⟩:=fidx_some z (i:=i+1) h
    refine ⟨j+1,by simp;omega,by rw [h1];omega,by simpa using h2,h3,fun m hm=> ?_⟩
    cases m with
    |zero=>simpa using hy'
    |succ m=>simpa using h4 m (by omega)
theorem look_pred (n:ByteArray):(fun x:Item=>x.f0.toList==n.toList)=(fun x:Item=>decide (x.f0=n)):=by
 funext x;exact nm_beq _ _
theorem look_mem {l:List Item} {n:ByteArray} {x:Item} (h:look l n=some x):x∈l∧x.f0=n:=by
 unfold look at h
 exact ⟨List.mem_of_find?_eq_some h,by simpa using List.find?_some h⟩
theorem look_none {l:List Item} {n:ByteArray}:look l n=none↔ ∀x∈l,x.f0≠n:=by
 unfold look
 simp
theorem fnd_none {l:List Item} {n:ByteArray} (h:look l n=none):fnd l n= -1:=by
 unfold fnd
 refine fidx_none fun x hx=> ?_
 rw [nm_beq]
 simpa using look_none.1 h x hx
theorem fnd_some {l:List Item} {n:ByteArray} {x:Item} (h:look l n=some x): ∃j:Nat,j<l.length∧fnd l n=j∧l.getD j zItem=x∧x.f0=n∧ ∀m,m<j→(l.getD m zItem).f0≠n:=by
 have h':l.find? (fun x:Item=>x.f0.toList==n.toList)=some x:=by rw [look_pred];exact h
 obtain ⟨j,h1,h2,h3,h4,h5⟩:=fidx_some zItem (i:=0) h'
 refine ⟨j,h1,by unfold fnd;rw [h2];omega,h3,by simpa [nm_beq] using h4,fun m hm=> ?_⟩
 simpa [nm_beq] using h5 m hm
theorem fnd_lt (l:List Item) (n:ByteArray):fnd l n<l.length:=by
 cases h:look l n with
 |none=>rw [fnd_none h];omega
 |some x=>obtain ⟨j,h1,h2,_⟩:=fnd_some h;omega
theorem fnd_neg {l:List Item} {n:ByteArray}:fnd l n<0↔look l n=none:=by
 cases h:look l n with
 |none=>rw [fnd_none h];simp
 |some x=>obtain ⟨j,h1,h2,_⟩:=fnd_some h;simp;omega
theorem fnd_ge {l:List Item} {n:ByteArray}:0≤fnd l n↔ ∃x,look l n=some x:=by
 cases h:look l n with
 |none=>rw [fnd_none h];simp
 |some x=>obtain ⟨j,h1,h2,_⟩:=fnd_some h;simp;omega
theorem fnd_rd {l:List Item} {n:ByteArray} {x:Item} (h:look l n=some x):rd_T31 l (fnd l n)=x:=by
 obtain ⟨j,h1,h2,h3,_⟩:=fnd_some h
 rw [rd_item,h2,Int.toNat_natCast];exact h3
theorem tree_Find_eq (l:List Item) (n:ByteArray):tree_Find.f l n=some (fnd l n):=rfl
inductive Chain (l:List Item):ByteArray→List ByteArray→Prop where
 |nil {n:ByteArray}:look l n=none→Chain l n []
 |cons {n:ByteArray} {x:Item} {us:List ByteArray}:look l n=some x→Chain l x.f1 us→Chain l n (n::us)
def upGo (l:List Item):Nat→ByteArray→List ByteArray
  |0,_=> []
  | m + 1, n => match look l n with
    |none=> []
    |some x=>n::upGo l m x.f1
def up (l:List Item) (n:ByteArray):List ByteArray:=upGo l (l.length+1) n
theorem upGo_len (l:List Item): ∀(m:Nat) (n:ByteArray),(upGo l m n).length≤m
  |0,_=>by simp [upGo]
  | m + 1, n => by
    unfold upGo
    cases look l n with
    |none=>simp
    |some x=>have:=upGo_len l m x.f1;simp;omega
theorem up_len (l:List Item) (n:ByteArray):(up l n).length≤l.length+1:=upGo_len l _ n
theorem upGo_none {l:List Item} {n:ByteArray} (h:look l n=none) (m:Nat):upGo l m n=[]:=by
 cases m with
 |zero=>rfl
 |succ m=>unfold upGo;rw [h]
theorem upGo_some {l:List Item} {n:ByteArray} {x:Item} (h:look l n=some x) (m:Nat):upGo l (m+1) n=n::upGo l m x.f1:=by
 rw [upGo.eq_2,h]
theorem Chain.det {l:List Item} {n:ByteArray} {us:List ByteArray} (h:Chain l n us): ∀{vs:List ByteArray},Chain l n vs→us=vs:=by
  induction h with
  | nil h =>
    intro vs k
    cases k with
    |nil _=>rfl
    |cons k _=>rw [h] at k;cases k
  | cons h _ ih =>
    intro vs k
    cases k with
    |nil k=>rw [h] at k;cases k
    | cons k k2 =>
      rw [h] at k
      cases k
      rw [ih k2]
theorem Chain.upGo {l:List Item} {n:ByteArray} {us:List ByteArray} (h:Chain l n us): ∀m,us.length≤m→upGo l m n=us:=by
  induction h with
  |nil h=>intro m _;exact upGo_none h m
  | cons h _ ih =>
    intro m hm
    cases m with
    |zero=>simp at hm
    | succ m =>
      rw [upGo_some h,ih m (by simpa using hm)]
theorem Chain.suffix {l:List Item} {n:ByteArray} {us:List ByteArray} (h:Chain l n us): ∀{m:ByteArray},m∈us→ ∃vs ws,us=ws++vs∧Chain l m vs∧ ∃vt,vs=m::vt:=by
  induction h with
  |nil _=>intro m hm;cases hm
  | @cons n x us h k ih =>
    intro m hm
    rcases List.mem_cons.1 hm with rfl|hm
    · exact ⟨_,[],rfl, .cons h k,_,rfl⟩
    obtain ⟨vs,ws,e,hc,he⟩:=ih hm
    exact ⟨vs,n::ws,by rw [e];rfl,hc,he⟩
theorem Chain.mem_look {l:List Item} {n:ByteArray} {us:List ByteArray} (h:Chain l n us) {m:ByteArray} (hm:m∈us): ∃x,look l m=some x:=by
 obtain ⟨vs,ws,_,hc,vt,rfl⟩:=h.suffix hm
 cases hc with
 |cons h _=>exact ⟨_,h⟩
theorem Chain.nodup {l:List Item} {n:ByteArray} {us:List ByteArray} (h:Chain l n us):us.Nodup:=by
  induction h with
  |nil _=>simp
  | @cons n x us h k ih =>
    rw [List.nodup_cons]
    refine ⟨fun hm=> ?_,ih⟩
    obtain ⟨vs,ws,e,hc,_⟩:=k.suffix hm
    have:=hc.det (.cons h k)
    rw [this] at e
    have:=congrArg List.length e
    simp at this
    omega
theorem Chain.len {l:List Item} {n:ByteArray} {us:List ByteArray} (h:Chain l n us):us.length≤l.length:=by
 have:=h.nodup.length_le_of_subset (l₂:=l.map (·.f0)) (fun m hm=>by
  obtain ⟨x,hx⟩:=h.mem_look hm
  obtain ⟨h1,rfl⟩:=look_mem hx
  exact List.mem_map_of_mem h1)
 simpa using this
theorem Chain.up {l:List Item} {n:ByteArray} {us:List ByteArray} (h:Chain l n us):up l n=us:=h.upGo _ (by have:=h.len;omega)
def lt (a b:ByteArray):Bool:=Op.bytesLess a.toList b.toList
theorem bl_irrefl: ∀a:List UInt8,Op.bytesLess a a=false
 |[]=>rfl
 |x::a=>by unfold Op.bytesLess;simp [bl_irrefl a]
theorem bl_trans: ∀{a b c:List UInt8},Op.bytesLess a b=true→Op.bytesLess b c=true→Op.bytesLess a c=true
  |[],[],_,h,_=>by simp [Op.bytesLess] at h
  |[],_::_,[],_,k=>by simp [Op.bytesLess] at k
  |[],_::_,_::_,_,_=>by simp [Op.bytesLess]
  |_::_,[],_,h,_=>by simp [Op.bytesLess] at h
  |_::_,_::_,[],_,k=>by simp [Op.bytesLess] at k
  | x :: a, y :: b, z :: c, h, k => by
    simp only [Op.bytesLess,Bool.or_eq_true,Bool.and_eq_true,decide_eq_true_eq,beq_iff_eq] at h k ⊢
    rcases h with h|⟨rfl,h⟩
    · rcases k with k | ⟨rfl, k⟩
      · exact .inl (UInt8.lt_trans h k)
      exact .inl h
    rcases k with k|⟨rfl,k⟩
    · exact .inl k
    exact .inr ⟨rfl,bl_trans h k⟩
theorem bl_total: ∀{a b:List UInt8},Op.bytesLess a b=false→a≠b→Op.bytesLess b a=true
  |[],[],_,h=>absurd rfl h
  |[],_::_,h,_=>by simp [Op.bytesLess] at h
  |_::_,[],_,_=>by simp [Op.bytesLess]
  | x :: a, y :: b, h, k => by
    simp only [Op.bytesLess,Bool.or_eq_true,Bool.or_eq_false_iff,Bool.and_eq_false_iff,Bool.and_eq_true,decide_eq_true_eq,decide_eq_false_iff_not,beq_iff_eq,beq_eq_false_iff_ne] at h ⊢
    obtain ⟨h1,h2⟩:=h
    by_cases e:x=y
    · subst e
      rcases h2 with h2|h2
      · exact absurd rfl h2
      exact .inr ⟨rfl,bl_total h2 (fun e=>k (by rw [e]))⟩
    left
    have h3: ¬x.toNat<y.toNat:=by rwa [←UInt8.lt_iff_toNat_lt]
    have h4:x.toNat≠y.toNat:=fun q=>e (UInt8.toNat_inj.1 q)
    rw [UInt8.lt_iff_toNat_lt];omega
theorem lt_irrefl (a:ByteArray):lt a a=false:=bl_irrefl _
theorem lt_trans {a b c:ByteArray} (h:lt a b=true) (k:lt b c=true):lt a c=true:=bl_trans h k
theorem lt_total {a b:ByteArray} (h:lt a b=false) (k:a≠b):lt b a=true:=bl_total h (fun e=>k (nm_inj.1 e))
theorem lt_ne {a b:ByteArray} (h:lt a b=true):a≠b:=by rintro rfl;rw [lt_irrefl] at h;cases h
inductive Comp where|cpu|mem|pods
def Comp.of:Comp→Vec→Int| .cpu,v=>v.f0| .mem,v=>v.f1| .pods,v=>v.f2
theorem vec_ext {a b:Vec} (h: ∀c:Comp,c.of a=c.of b):a=b:=by
 cases a;cases b
 have h0:=h .cpu;have h1:=h .mem;have h2:=h .pods
 simp [Comp.of] at h0 h1 h2
 simp [h0,h1,h2]
def vadd (a b:Vec):Vec:=⟨a.f0+b.f0,a.f1+b.f1,a.f2+b.f2⟩
def vsub (a b:Vec):Vec:=⟨a.f0 - b.f0,a.f1 - b.f1,a.f2 - b.f2⟩
theorem of_vadd (c:Comp) (a b:Vec):c.of (vadd a b)=c.of a+c.of b:=by cases c<;>rfl
theorem of_vsub (c:Comp) (a b:Vec):c.of (vsub a b)=c.of a - c.of b:=by cases c<;>rfl
def MayP (v:Vec):Prop:= ∀c:Comp,0≤c.of v∧c.of v≤1099511627776
def LeP (a b:Vec):Prop:= ∀c:Comp,c.of a≤c.of b
theorem comp_all {p:Comp→Prop}:(∀c,p c)↔p .cpu∧p .mem∧p .pods:=
 ⟨fun h=>⟨h _,h _,h _⟩,fun ⟨a,b,d⟩ c=>by cases c<;>assumption⟩
instance (v:Vec):Decidable (MayP v):=decidable_of_iff _ comp_all.symm
instance (a b:Vec):Decidable (LeP a b):=decidable_of_iff _ comp_all.symm
theorem mayP_iff {a b d:Int}:MayP ⟨a,b,d⟩↔(0≤a∧a≤1099511627776)∧(0≤b∧b≤1099511627776)∧(0≤d∧d≤1099511627776):=comp_all
theorem leP_iff {a b d a' b' d':Int}:LeP ⟨a,b,d⟩ ⟨a',b',d'⟩↔a≤a'∧b≤b'∧d≤d':=comp_all
def sumBy (g:Item→Int) (l:List Item):Int:=(l.map g).sum
theorem sumBy_nil (g:Item→Int):sumBy g []=0:=rfl
theorem sumBy_cons (g:Item→Int) (x:Item) (l:List Item):sumBy g (x::l)=g x+sumBy g l:=by simp [sumBy]
theorem sumBy_append (g:Item→Int) (l m:List Item):sumBy g (l++m)=sumBy g l+sumBy g m:=by simp [sumBy]
theorem sumBy_congr {g h:Item→Int}: ∀{l:List Item},(∀x∈l,g x=h x)→sumBy g l=sumBy h l
 |[],_=>rfl
 |x::l,e=>by rw [sumBy_cons,sumBy_cons,e x (by simp),sumBy_congr (fun y hy=>e y (by simp [hy]))]
theorem sumBy_add (g h:Item→Int): ∀l:List Item,sumBy (fun x=>g x+h x) l=sumBy g l+sumBy h l
 |[]=>rfl
 |x::l=>by rw [sumBy_cons,sumBy_cons,sumBy_cons,sumBy_add g h l];omega
theorem sumBy_sub (g h:Item→Int): ∀l:List Item,sumBy (fun x=>g x - h x) l=sumBy g l - sumBy h l
 |[]=>rfl
 |x::l=>by rw [sumBy_cons,sumBy_cons,sumBy_cons,sumBy_sub g h l];omega
theorem sumBy_map (g:Item→Int) (f:Item→Item): ∀l:List Item,sumBy g (l.map f)=sumBy (fun x=>g (f x)) l
 |[]=>rfl
 |x::l=>by rw [List.map_cons,sumBy_cons,sumBy_cons,sumBy_map g f l]
theorem sumBy_zero {g:Item→Int}: ∀{l:List Item},(∀x∈l,g x=0)→sumBy g l=0
 |[],_=>rfl
 |x::l,e=>by rw [sumBy_cons,e x (by simp),sumBy_zero (fun y hy=>e y (by simp [hy]))];rfl
theorem sumBy_nonneg {g:Item→Int}: ∀{l:List Item},(∀x∈l,0≤g x)→0≤sumBy g l
 |[],_=>by simp [sumBy_nil]
 |x::l,e=>by rw [sumBy_cons];have:=e x (by simp);have:=sumBy_nonneg (l:=l) (fun y hy=>e y (by simp [hy]));omega
theorem sumBy_one {v:Int} {l:List Item} (hn:(l.map (·.f0)).Nodup) {x:Item} (hx:x∈l):sumBy (fun y=>if y.f0=x.f0 then v else 0) l=v:=by
  induction l with
  |nil=>cases hx
  | cons y l ih =>
    rw [List.map_cons,List.nodup_cons] at hn
    rw [sumBy_cons]
    rcases List.mem_cons.1 hx with rfl|hx
    · rw [if_pos rfl,sumBy_zero (fun z hz=>if_neg (fun e=>hn.1 (by rw [←e];exact List.mem_map_of_mem hz)))];omega
    rw [if_neg (fun e=>hn.1 (by rw [e];exact List.mem_map_of_mem hx)),ih hn.2 hx];omega
def csum (c:Comp) (l:List Item) (n:ByteArray):Int:=sumBy (fun y=>if y.f1=n then c.of y.f4 else 0) l
structure ItemOK (x:Item):Prop where
 name:x.f0≠⟨#[]⟩
 size:x.f0.size≤24
 lim:MayP x.f2
 own:MayP x.f3
 sub:MayP x.f4
 fit:LeP x.f4 x.f2
 ver:1≤x.f5∧x.f5≤9007199254740992
structure RightP (l:List Item):Prop where
 len:l.length≤120
 ok: ∀x∈l,ItemOK x
 sorted:l.Pairwise (fun x y=>lt x.f0 y.f0=true)
 par: ∀x∈l,x.f1=⟨#[]⟩∨ ∃y,look l x.f1=some y
 sum: ∀c:Comp,∀x∈l,c.of x.f4=c.of x.f3+csum c l x.f0
 chain: ∀x∈l,∃us,Chain l x.f0 us
theorem sorted_nodup {l:List Item} (h:l.Pairwise (fun x y=>lt x.f0 y.f0=true)):(l.map (·.f0)).Nodup:=by
 rw [List.Nodup,List.pairwise_map]
 exact h.imp (fun hxy=>lt_ne hxy)
theorem RightP.nodup {l:List Item} (h:RightP l):(l.map (·.f0)).Nodup:=sorted_nodup h.sorted
theorem look_of_mem {l:List Item} (hn:(l.map (·.f0)).Nodup) {x:Item} (hx:x∈l):look l x.f0=some x:=by
  induction l with
  |nil=>cases hx
  | cons y l ih =>
    rw [List.map_cons,List.nodup_cons] at hn
    unfold look
    rw [List.find?_cons]
    rcases List.mem_cons.1 hx with rfl|hx
    · simp
    have:y.f0≠x.f0:=fun e=>hn.1 (by rw [e];exact List.mem_map_of_mem hx)
    simp only [this,decide_false]
    exact ih hn.2 hx
theorem RightP.look {l:List Item} (h:RightP l) {x:Item} (hx:x∈l):look l x.f0=some x:=look_of_mem h.nodup hx
theorem RightP.chainAll {l:List Item} (h:RightP l) (n:ByteArray):Chain l n (up l n):=by
  cases hl:Print.look l n with
  |none=>have c:=Chain.nil hl;rw [c.up];exact c
  | some x =>
    obtain ⟨hx,rfl⟩:=look_mem hl
    obtain ⟨us,c⟩:=h.chain x hx
    rw [c.up];exact c
theorem right_nil:RightP []:=⟨by simp,by simp,by simp,by simp,by simp,by simp⟩
theorem RightP.eq_of {l:List Item} (h:RightP l) {x y:Item} (hx:x∈l) (hy:y∈l) (e:x.f0=y.f0):x=y:=by
 have h1:=h.look hx
 rw [e,h.look hy] at h1
 exact (Option.some.inj h1).symm
theorem look_map {f:Item→Item} (hf: ∀x,(f x).f0=x.f0) (l:List Item) (n:ByteArray):look (l.map f) n=(look l n).map f:=by
 unfold look
 rw [List.find?_map]
 congr 2
 funext x
 simp [hf]
theorem Chain.map {f:Item→Item} (hf: ∀x,(f x).f0=x.f0) (hp: ∀x,(f x).f1=x.f1) {l:List Item} {n:ByteArray} {us:List ByteArray} (h:Chain l n us):Chain (l.map f) n us:=by
 induction h with
 |nil h=>exact .nil (by rw [look_map hf,h];rfl)
 |@cons n x us h k ih=>exact .cons (x:=f x) (by rw [look_map hf,h];rfl) (by rw [hp];exact ih)
theorem up_self {l:List Item} {n:ByteArray} {x:Item} (h:look l n=some x):n∈up l n:=by
 unfold up
 rw [upGo_some h]
 simp
theorem chain_kids {l:List Item} (hl:RightP l) {n:ByteArray} {us:List ByteArray} (h:Chain l n us) (v:Int) {x:Item} (hx:x∈l):
    sumBy (fun y=>if y.f1=x.f0∧y.f0∈us then v else 0) l=if x.f0∈us∧x.f0≠n then v else 0:=by
  induction h with
  |nil _=>rw [sumBy_zero (fun y _=>by simp)];simp
  | @cons n z us h k ih =>
    obtain ⟨hz,rfl⟩:=look_mem h
    have hnd:=(Chain.cons h k).nodup
    rw [List.nodup_cons] at hnd
    have e:sumBy (fun y=>if y.f1=x.f0∧y.f0∈z.f0::us then v else 0) l=sumBy (fun y=>(if y.f0=z.f0 then (if z.f1=x.f0 then v else 0) else 0)+(if y.f1=x.f0∧y.f0∈us then v else 0)) l:=by
      refine sumBy_congr fun y hy=> ?_
      by_cases e1:y.f0=z.f0
      rotate_left
      · simp [e1]
      have:=hl.eq_of hy hz e1
      subst this
      by_cases e2:y.f1=x.f0<;>simp [e2,hnd.1]
    rw [e,sumBy_add,ih,sumBy_one hl.nodup hz]
    by_cases e2:z.f1=x.f0
    rotate_left
    · by_cases e3 : x.f0 = z.f0
      · simp [e2, e3, hnd.1]
        exact fun q=>absurd (q.trans e3.symm) e2
      have e4:x.f0≠z.f1:=fun q=>e2 q.symm
      simp [e2,e3,e4]
    have hm:x.f0∈us:=by
      rw [e2] at k
      cases k with
      |nil k=>rw [hl.look hx] at k;cases k
      |cons _ _=>simp
    have hne:x.f0≠z.f0:=fun q=>hnd.1 (by rw [←q];exact hm)
    simp [e2,hm,hne]
def admF (us:List ByteArray) (n:ByteArray) (v:Vec) (x:Item):Item:=⟨x.f0,x.f1,x.f2,if x.f0=n then vadd x.f3 v else x.f3,if x.f0∈us then vadd x.f4 v else x.f4,x.f5⟩
def admL (l:List Item) (n:ByteArray) (v:Vec):List Item:=l.map (admF (up l n) n v)
theorem csum_adm {l:List Item} (hl:RightP l) (c:Comp) (n:ByteArray) (v:Vec) {x:Item} (hx:x∈l):
  csum c (admL l n v) x.f0=csum c l x.f0+if x.f0∈up l n∧x.f0≠n then c.of v else 0:=by
 unfold csum admL
 rw [sumBy_map,←chain_kids hl (hl.chainAll n) (c.of v) hx,←sumBy_add]
 refine sumBy_congr fun y hy=> ?_
 simp only [admF]
 by_cases e1:y.f1=x.f0<;>by_cases e2:y.f0∈up l n<;>simp [e1,e2,of_vadd]
theorem adm_right {l:List Item} (hl:RightP l) {n:ByteArray} (v:Vec) (hin: ∃x,look l n=some x)
    (hown: ∀x∈l,x.f0=n→MayP (vadd x.f3 v)) (hsub: ∀x∈l,x.f0∈up l n→MayP (vadd x.f4 v)) (hfit: ∀x∈l,x.f0∈up l n→LeP (vadd x.f4 v) x.f2):RightP (admL l n v) where
  len:=by unfold admL;rw [List.length_map];exact hl.len
  ok:=by
    intro y hy
    obtain ⟨x,hx,rfl⟩:=List.mem_map.1 hy
    have k:=hl.ok x hx
    refine ⟨k.name,k.size,k.lim, ?_, ?_, ?_,k.ver⟩
    · show MayP (if x.f0 = n then vadd x.f3 v else x.f3)
      split
      · exact hown x hx (by assumption)
      exact k.own
    · show MayP (if x.f0 ∈ up l n then vadd x.f4 v else x.f4)
      split
      · exact hsub x hx (by assumption)
      exact k.sub
    show LeP (if x.f0∈up l n then vadd x.f4 v else x.f4) x.f2
    split
    · exact hfit x hx (by assumption)
    exact k.fit
  sorted:=by
    unfold admL
    rw [List.pairwise_map]
    exact hl.sorted
  par:=by
    intro y hy
    obtain ⟨x,hx,rfl⟩:=List.mem_map.1 hy
    rcases hl.par x hx with h|⟨z,h⟩
    · exact .inl h
    exact .inr ⟨_,by unfold admL;rw [look_map (f:=admF (up l n) n v) (fun _=>rfl)];show (look l x.f1).map _=_;rw [h];rfl⟩
  sum:=by
    intro c y hy
    obtain ⟨x,hx,rfl⟩:=List.mem_map.1 hy
    show c.of (if x.f0∈up l n then vadd x.f4 v else x.f4)=c.of (if x.f0=n then vadd x.f3 v else x.f3)+csum c (admL l n v) x.f0
    rw [csum_adm hl c n v hx]
    have hs:=hl.sum c x hx
    by_cases e:x.f0=n
    rotate_left
    · by_cases hm : x.f0 ∈ up l n
      · simp [e,hm,of_vadd];omega
      simp [e,hm];omega
    have hm:x.f0∈up l n:=by
      obtain ⟨z,hz⟩:=hin
      rw [e];exact up_self hz
    simp [e] at hm ⊢
    rw [if_pos hm,of_vadd,of_vadd,hs,e];omega
  chain:=by
    intro y hy
    obtain ⟨x,hx,rfl⟩:=List.mem_map.1 hy
    obtain ⟨us,h⟩:=hl.chain x hx
    exact ⟨us,h.map (f:=admF (up l n) n v) (fun _=>rfl) (fun _=>rfl)⟩
def insL (l:List Item) (it:Item):List Item:=l.takeWhile (fun x=>lt x.f0 it.f0)++it::l.dropWhile (fun x=>lt x.f0 it.f0)
theorem look_ins (a b:List Item) (it:Item) (n:ByteArray) (h:look (a++b) it.f0=none):look (a++it::b) n=if n=it.f0 then some it else look (a++b) n:=by
  unfold look at h ⊢
  rw [List.find?_append] at h ⊢
  rw [List.find?_append,List.find?_cons]
  by_cases e:it.f0=n
  rotate_left
  · have e' : n ≠ it.f0 := fun q => e q.symm
    simp [e,e']
  subst e
  cases ha:a.find? (fun x=>decide (x.f0=it.f0)) with
  |some y=>rw [ha] at h;simp at h
  |none=>simp
theorem insL_eq (l:List Item) (it:Item): ∃a b,l=a++b∧insL l it=a++it::b∧(∀x∈a,lt x.f0 it.f0=true)∧(∀x t,b=x::t→lt x.f0 it.f0=false):=by
  refine ⟨l.takeWhile (fun x=>lt x.f0 it.f0),l.dropWhile (fun x=>lt x.f0 it.f0),(List.takeWhile_append_dropWhile).symm,rfl,fun x hx=> ?_,fun x t e=> ?_⟩
  · exact List.all_eq_true.1 (List.all_takeWhile (p:=fun x:Item=>lt x.f0 it.f0) (l:=l)) x hx
  have:=List.head?_dropWhile_not (fun x:Item=>lt x.f0 it.f0) l
  rw [e] at this
  simpa using this
theorem csum_ins (c:Comp) (a b:List Item) (it:Item) (n:ByteArray):csum c (a++it::b) n=csum c (a++b) n+if it.f1=n then c.of it.f4 else 0:=by
 unfold csum
 rw [sumBy_append,sumBy_append,sumBy_cons];omega
theorem ins_right {l:List Item} (hl:RightP l) {it:Item} (hi:ItemOK it) (h0: ∀c:Comp,c.of it.f3=0∧c.of it.f4=0) (hn:look l it.f0=none)
    (hp:it.f1=⟨#[]⟩∨ ∃y,look l it.f1=some y) (hlen:l.length<120):RightP (insL l it):=by
  obtain ⟨a,b,e,e',ha,hb⟩:=insL_eq l it
  rw [e']
  subst e
  have hlk:=fun n=>look_ins a b it n hn
  have hmem: ∀x,x∈a++it::b↔x=it∨x∈a++b:=fun x=>by simp;constructor<;>(intro h;rcases h with h|h|h<;>simp [h])
  have hnew: ∀m y,look (a++b) m=some y→m≠it.f0:=fun m y h q=>by rw [q,hn] at h;cases h
  have hne:it.f0≠⟨#[]⟩:=hi.name
  have hpar: ∀x∈a++b,x.f1≠it.f0:=fun x hx q=>by
    rcases hl.par x hx with h|⟨y,h⟩
    · exact hne (q.symm.trans h)
    exact hnew _ _ h q
  have hch: ∀{n us},Chain (a++b) n us→n≠it.f0→Chain (a++it::b) n us:=by
    intro n us h
    induction h with
    |nil h=>intro q;exact .nil (by rw [hlk,if_neg q];exact h)
    | @cons n x us h k ih =>
      intro q
      exact .cons (x:=x) (by rw [hlk,if_neg q];exact h) (ih (hpar x (look_mem h).1))
  have hip:it.f1≠it.f0:=by
    rcases hp with h|⟨y,h⟩
    · rw [h];exact fun q=>hne q.symm
    exact hnew _ _ h
  refine ⟨?_, ?_, ?_, ?_, ?_, ?_⟩
  · simp at hlen ⊢;omega
  · intro x hx
    rcases (hmem x).1 hx with rfl|hx
    · exact hi
    exact hl.ok x hx
  · have hs := hl.sorted
    rw [List.pairwise_append] at hs ⊢
    obtain ⟨h1,h2,h3⟩:=hs
    have hbx: ∀y∈b,lt it.f0 y.f0=true:=by
      intro y hy
      cases b with
      |nil=>cases hy
      | cons x t =>
        have hx:lt it.f0 x.f0=true:=lt_total (hb x t rfl) (fun q=>look_none.1 hn x (by simp) q)
        rcases List.mem_cons.1 hy with rfl|hy
        · exact hx
        exact lt_trans hx ((List.pairwise_cons.1 h2).1 y hy)
    refine ⟨h1,List.pairwise_cons.2 ⟨hbx,h2⟩,fun x hx y hy=> ?_⟩
    rcases List.mem_cons.1 hy with rfl|hy
    · exact ha x hx
    exact h3 x hx y hy
  · intro x hx
    rcases (hmem x).1 hx with rfl|hx
    · rcases hp with h | ⟨y, h⟩
      · exact .inl h
      exact .inr ⟨y,by rw [hlk,if_neg hip];exact h⟩
    rcases hl.par x hx with h|⟨y,h⟩
    · exact .inl h
    exact .inr ⟨y,by rw [hlk,if_neg (hpar x hx)];exact h⟩
  · intro c x hx
    rw [csum_ins,(h0 c).2,ite_self,Int.add_zero]
    rcases (hmem x).1 hx with rfl|hx
    rotate_left
    · exact hl.sum c x hx
    rw [(h0 c).1,(h0 c).2]
    unfold csum
    rw [sumBy_zero (fun y hy=>if_neg (hpar y hy))];rfl
  intro x hx
  rcases (hmem x).1 hx with rfl|hx
  · have := hch (hl.chainAll x.f1) hip
    exact ⟨_, .cons (x:=x) (by rw [hlk,if_pos rfl]) this⟩
  obtain ⟨us,h⟩:=hl.chain x hx
  exact ⟨us,hch h (fun q=>look_none.1 hn x hx q)⟩
theorem ite_iff {α:Type} {p q:Prop} [Decidable p] [Decidable q] (h:p↔q) {a b:α}:(if p then a else b)=if q then a else b:=by
  by_cases hp:p
  · rw [if_pos hp,if_pos (h.1 hp)]
  rw [if_neg hp,if_neg (fun k=>hp (h.2 k))]
theorem r10_Le_eq (a b d a' b' d':Int):r10_Le.f a b d a' b' d'=some (decide (LeP ⟨a,b,d⟩ ⟨a',b',d'⟩)):=by
 unfold r10_Le.f
 by_cases h0:a≤a'<;>by_cases h1:b≤b'<;>simp [h0,h1,leP_iff]
theorem r10_unit_eq (a:Int):r10_unit.f a=some (decide (0≤a∧a≤1099511627776)):=by
  unfold r10_unit.f
  by_cases h0:0≤a
  · rw [if_pos (by omega)];simp [h0]
  rw [if_neg (by omega)];simp [h0]
theorem r10_MayVec_eq (a b d:Int):r10_MayVec.f a b d=some (decide (MayP ⟨a,b,d⟩)):=by
 unfold r10_MayVec.f
 simp only [r10_unit_eq,Option.bind_some]
 by_cases h0:0≤a∧a≤1099511627776<;>by_cases h1:0≤b∧b≤1099511627776<;>simp [h0,h1,mayP_iff]
theorem r10_MayName_eq (n:ByteArray):r10_MayName.f n=some (decide (n≠⟨#[]⟩∧n.size≤24)):=by
  unfold r10_MayName.f
  by_cases h:n=⟨#[]⟩
  · rw [if_pos (nm_empty.2 h)];simp [h]
  rw [if_neg (fun q=>h (nm_empty.1 q))];simp [h];omega
theorem r10_copied_eq (l:List Item) (h:l.length<1000000):r10_copied.f l=some l:=by
 unfold r10_copied.f
 simp only [Option.bind_some,List.length_nil,List.nil_append]
 rw [if_pos (by omega)]
theorem r10_Find_l0 (l:List Item) (n:ByteArray) (hl:l.length<1000000): ∀(d i:Nat),l.length - i=d→i≤l.length→
    Ev (fun k=>r10_Find.l0 k l n i) (fidx (fun x:Item=>x.f0.toList==n.toList) (l.drop i) i)
  | 0, i, hd, hi => by
    obtain rfl:i=l.length:=by omega
    refine Ev.step (f:=fun _=>some (-1)) (fun k=> ?_) (by rw [List.drop_length];exact Ev.now _)
    simp only [r10_Find.l0]
    rw [if_neg (by omega)]
  | d + 1, i, hd, hi => by
    have hlt:i<l.length:=by omega
    rw [fidx_drop _ zItem l i hlt]
    have hrd:rd_T31 l (i:Int)=l.getD i zItem:=by rw [rd_item,Int.toNat_natCast]
    by_cases e:(l.getD i zItem).f0.toList=n.toList
    · rw [if_pos (beq_iff_eq.2 e)]
      refine Ev.step (f:=fun _=>some (i:Int)) (fun k=> ?_) (Ev.now _)
      simp only [r10_Find.l0]
      rw [if_pos (by omega),if_pos (by omega),hrd,if_pos e]
    rw [if_neg (fun q=>e (beq_iff_eq.1 q))]
    refine Ev.step (f:=fun k=>r10_Find.l0 k l n ((i+1:Nat):Int)) (fun k=> ?_) (r10_Find_l0 l n hl d (i+1) (by omega) (by omega))
    simp only [r10_Find.l0]
    rw [if_pos (by omega),if_pos (by omega),hrd,if_neg e,w64 (by omega) (by omega)]
    rfl
theorem r10_Find_ev (l:List Item) (n:ByteArray) (hl:l.length<1000000):Ev (fun k=>r10_Find.f k l n) (fnd l n):=r10_Find_l0 l n hl _ 0 rfl (by omega)
theorem r10_Up_l0 (l:List Item) (hl:l.length<1000000): ∀(m:Nat) (n:ByteArray) (out:List ByteArray),out.length+m=l.length+1→
    Ev (fun k=>r10_Up.l0 k l out (fnd l n)) (out++upGo l m n)
  | 0, n, out, hm => by
    rw [upGo.eq_1,List.append_nil]
    refine Ev.step (f:=fun _=>some out) (fun k=> ?_) (Ev.now _)
    simp only [r10_Up.l0]
    by_cases h:0≤fnd l n
    · rw [if_pos h,if_neg (by omega)]
    rw [if_neg h]
  | m + 1, n, out, hm => by
    cases h:look l n with
    | none =>
      rw [upGo_none h,List.append_nil]
      refine Ev.step (f:=fun _=>some out) (fun k=> ?_) (Ev.now _)
      simp only [r10_Up.l0]
      rw [fnd_none h,if_neg (by omega)]
    | some x =>
      rw [upGo_some h]
      have h0:=fnd_ge.2 ⟨x,h⟩
      have h1:=fnd_lt l n
      obtain ⟨hx,hn⟩:=look_mem h
      refine Ev.step (f:=fun k=>(r10_Find.f k l x.f1).bind fun t=>r10_Up.l0 k l (out++ [n]) t) (fun k=> ?_) (Ev.bind (r10_Find_ev l x.f1 hl) ?_)
      · simp only [r10_Up.l0]
        rw [if_pos h0,if_pos (by omega),if_pos h0,if_pos h1,if_pos (by omega),fnd_rd h,hn]
      have:=r10_Up_l0 l hl m x.f1 (out++ [n]) (by simp;omega)
      simpa using this
theorem r10_Up_ev (l:List Item) (n:ByteArray) (hl:l.length<1000000):Ev (fun k=>r10_Up.f k l n) (up l n):=
 Ev.bind (r10_Find_ev l n hl) (by have:=r10_Up_l0 l hl (l.length+1) n [] (by simp);rw [List.nil_append] at this;exact this)
theorem set_at {l:List Item} (hn:(l.map (·.f0)).Nodup) {n:ByteArray} {x:Item} (h:look l n=some x) (y:Item):
    l.set (fnd l n).toNat y=l.map (fun z=>if z.f0=n then y else z):=by
  obtain ⟨j,h1,h2,h3,h4,h5⟩:=fnd_some h
  rw [h2,Int.toNat_natCast]
  have hx:l[j]=x:=by rw [←h3];simp [h1]
  apply List.ext_getElem (by simp)
  intro m hm hm'
  simp only [List.length_set] at hm
  rw [List.getElem_set,List.getElem_map]
  by_cases e:j=m
  · subst e
    rw [if_pos rfl,if_pos (by rw [hx];exact h4)]
  rw [if_neg e,if_neg]
  intro q
  have h6:(l.map (·.f0))[j]'(by simpa using h1)=(l.map (·.f0))[m]'(by simpa using hm):=by simp [hx,h4,q]
  exact e ((List.getElem_inj hn).1 h6)
theorem fnd_map {f:Item→Item} (hf: ∀x,(f x).f0=x.f0) (l:List Item) (n:ByteArray):fnd (l.map f) n=fnd l n:=by
 have: ∀(l:List Item) (i:Int),fidx (fun x:Item=>x.f0.toList==n.toList) (l.map f) i=fidx (fun x:Item=>x.f0.toList==n.toList) l i:=by
  intro l
  induction l with
  |nil=>intro i;rfl
  |cons x l ih=>intro i;simp only [List.map_cons,fidx,hf,ih]
 exact this l 0
def admS (us:List ByteArray) (v:Vec) (x:Item):Item:=⟨x.f0,x.f1,x.f2,x.f3,if x.f0∈us then vadd x.f4 v else x.f4,x.f5⟩
def admR (l:List Item) (n:ByteArray) (v:Vec):List Item×Int:=
 if¬MayP v then ([],1) else if (look l n).isNone=true then ([],2) else if∀x∈l,x.f0∈up l n→LeP (vadd x.f4 v) x.f2 then (admL l n v,0) else ([],12)
theorem vadd_wrap {a b:Vec} (ha:MayP a) (hb:MayP b):(wrap64 (a.f0+b.f0),wrap64 (a.f1+b.f1),wrap64 (a.f2+b.f2))=((vadd a b).f0,(vadd a b).f1,(vadd a b).f2):=by
 have a0:=ha .cpu;have a1:=ha .mem;have a2:=ha .pods
 have b0:=hb .cpu;have b1:=hb .mem;have b2:=hb .pods
 simp only [Comp.of] at a0 a1 a2 b0 b1 b2
 rw [w64 (by omega) (by omega),w64 (by omega) (by omega),w64 (by omega) (by omega)]
 rfl
theorem r10_Add_eq {a b:Vec} (ha:MayP a) (hb:MayP b):r10_Add.f a.f0 a.f1 a.f2 b.f0 b.f1 b.f2=some ((vadd a b).f0,(vadd a b).f1,(vadd a b).f2):=by
 unfold r10_Add.f;rw [vadd_wrap ha hb]
theorem look_admS (us:List ByteArray) (v:Vec) (l:List Item) (n:ByteArray):look (l.map (admS us v)) n=(look l n).map (admS us v):=look_map (f:=admS us v) (fun _=>rfl) l n
theorem drop_cons {us:List ByteArray} {i:Nat} (h:i<us.length):us.drop i=rdOf ByteArray.empty us i::us.drop (i+1):=by
 rw [List.drop_eq_getElem_cons h];simp [rdOf,h]
theorem take_snoc_ {us:List ByteArray} {i:Nat} (h:i<us.length):us.take (i+1)=us.take i++ [rdOf ByteArray.empty us i]:=by
 rw [List.take_succ_eq_append_getElem h];simp [rdOf,h]
theorem fnd_admS (us:List ByteArray) (v:Vec) (l:List Item) (n:ByteArray):fnd (l.map (admS us v)) n=fnd l n:=fnd_map (f:=admS us v) (fun _=>rfl) l n
theorem nodup_admS {us:List ByteArray} {v:Vec} {l:List Item} (h:(l.map (·.f0)).Nodup):((l.map (admS us v)).map (·.f0)).Nodup:=by
 rw [List.map_map];exact h
theorem r10_Admit_l0 {l:List Item} (hl:RightP l) (n:ByteArray) {v:Vec} (hv:MayP v) (hin: ∃x,look l n=some x): ∀(d i:Nat),(up l n).length - i=d→i≤(up l n).length→
    Ev (fun k=>r10_Admit.l0 k n (up l n) (l.map (admS ((up l n).take i) v)) i v.f0 v.f1 v.f2) (if∀x∈l,x.f0∈(up l n).drop i→LeP (vadd x.f4 v) x.f2 then (admL l n v,0) else ([],12))
  | 0, i, hd, hi => by
    obtain rfl:i=(up l n).length:=by omega
    rw [List.drop_length,List.take_length,if_pos (by simp)]
    obtain ⟨x,hx⟩:=hin
    obtain ⟨hm,hxn⟩:=look_mem hx
    have hlk:look (l.map (admS (up l n) v)) n=some (admS (up l n) v x):=by rw [look_admS,hx];rfl
    have h0:0≤fnd l n:=fnd_ge.2 ⟨x,hx⟩
    have h1:fnd l n<l.length:=fnd_lt l n
    obtain ⟨K,hK⟩:=r10_Find_ev (l.map (admS (up l n) v)) n (by rw [List.length_map];have:=hl.len;omega)
    dsimp only at hK
    refine ⟨K+1,fun k hk=> ?_⟩
    obtain ⟨k,rfl⟩: ∃m,k=m+1:=⟨k - 1,by omega⟩
    have hrd:=fnd_rd hlk
    rw [fnd_admS] at hrd
    simp only [r10_Admit.l0]
    rw [if_neg (by omega),hK k (by omega),fnd_admS]
    simp only [Option.bind_some]
    rw [if_pos h0,if_pos (by rw [List.length_map];omega),hrd,r10_Add_eq (a:=(admS (up l n) v x).f3) (hl.ok x hm).own hv]
    simp only [Option.bind_some]
    have hset:=set_at (nodup_admS (us:=up l n) (v:=v) hl.nodup) hlk
    rw [fnd_admS] at hset
    rw [hset,List.map_map]
    congr 2
    unfold admL
    refine List.map_congr_left fun z hz=> ?_
    simp only [Function.comp,admF]
    by_cases e:z.f0=n
    · obtain rfl : z = x := hl.eq_of hz hm (e.trans hxn.symm)
      rw [if_pos (by exact e),if_pos e]
      rfl
    rw [if_neg (by exact e),if_neg e]
    rfl
  | d + 1, i, hd, hi => by
    have hlt:i<(up l n).length:=by omega
    have hc:=hl.chainAll n
    have hnd:=hc.nodup
    rw [drop_cons hlt]
    have hu:rdOf ByteArray.empty (up l n) i∈up l n:=by simp [rdOf,hlt]
    obtain ⟨x,hx⟩:=hc.mem_look hu
    obtain ⟨hm,hxn⟩:=look_mem hx
    have hnot:x.f0 ∉ (up l n).take i:=by
      rw [hxn]
      rw [←List.take_append_drop i (up l n),drop_cons hlt,List.nodup_append] at hnd
      exact fun q=>hnd.2.2 _ q _ (by simp) rfl
    generalize hU:rdOf ByteArray.empty (up l n) i=u at*
    have hlk:look (l.map (admS ((up l n).take i) v)) u=some (admS ((up l n).take i) v x):=by rw [look_admS,hx];rfl
    have hsame:admS ((up l n).take i) v x=x:=by unfold admS;rw [if_neg hnot]
    rw [hsame] at hlk
    have h0:0≤fnd l u:=fnd_ge.2 ⟨x,hx⟩
    have h1:fnd l u<l.length:=fnd_lt l u
    have hrd:=fnd_rd hlk
    have hset:=set_at (nodup_admS (us:=(up l n).take i) (v:=v) hl.nodup) hlk
    rw [fnd_admS] at hrd
    rw [fnd_admS] at hset
    obtain ⟨K,hK⟩:=r10_Find_ev (l.map (admS ((up l n).take i) v)) u (by rw [List.length_map];have:=hl.len;omega)
    obtain ⟨K',hK'⟩:=r10_Admit_l0 hl n hv hin d (i+1) (by omega) (by omega)
    dsimp only at hK hK'
    refine ⟨K+K'+1,fun k hk=> ?_⟩
    obtain ⟨k,rfl⟩: ∃m,k=m+1:=⟨k - 1,by omega⟩
    have hup:(up l n).length≤l.length:=hc.len
    have hlen:=hl.len
    simp only [r10_Admit.l0]
    rw [if_pos (by omega),if_pos (by omega),hU,hK k (by omega),fnd_admS]
    simp only [Option.bind_some]
    rw [if_pos h0,if_pos (by rw [List.length_map];omega),hrd,r10_Add_eq (a:=x.f4) (hl.ok x hm).sub hv]
    simp only [Option.bind_some]
    rw [hset,List.map_map]
    have hnew:(l.map ((fun z:Item=>if z.f0=u then (⟨x.f0,x.f1,⟨x.f2.f0,x.f2.f1,x.f2.f2⟩,⟨x.f3.f0,x.f3.f1,x.f3.f2⟩,⟨(vadd x.f4 v).f0,(vadd x.f4 v).f1,(vadd x.f4 v).f2⟩,x.f5⟩:Item) else z) ∘ admS ((up l n).take i) v))=l.map (admS ((up l n).take (i+1)) v):=by
      refine List.map_congr_left fun z hz=> ?_
      simp only [Function.comp]
      rw [take_snoc_ hlt,hU]
      by_cases e:z.f0=u
      · obtain rfl : z = x := hl.eq_of hz hm (e.trans hxn.symm)
        rw [if_pos (by exact e)]
        unfold admS
        rw [if_pos (by simp [e])]
      rw [if_neg (by exact e)]
      unfold admS
      simp [e]
    rw [hnew]
    have hlk2:look (l.map (admS ((up l n).take (i+1)) v)) u=some (admS ((up l n).take (i+1)) v x):=by rw [look_admS,hx];rfl
    have hrd2:=fnd_rd hlk2
    rw [fnd_admS] at hrd2
    have hx2:admS ((up l n).take (i+1)) v x=⟨x.f0,x.f1,x.f2,x.f3,vadd x.f4 v,x.f5⟩:=by unfold admS;rw [if_pos (by rw [take_snoc_ hlt,hU,hxn];simp)]
    rw [hrd2,hx2,r10_Le_eq]
    simp only [Option.bind_some]
    by_cases hfit:LeP (vadd x.f4 v) x.f2
    rotate_left
    · rw [if_neg (by simpa using hfit), if_neg (fun q => hfit (q x hm (by rw [hxn]; simp)))]
      rfl
    rw [if_pos (by exact decide_eq_true hfit),w64 (by omega) (by omega)]
    have h2:=hK' k (by omega)
    rw [show ((i:Int)+1)=((i+1:Nat):Int) from by omega,h2]
    congr 1
    refine ite_iff ⟨fun q z hz hzm=> ?_,fun q z hz hzm=>q z hz (by simp [hzm])⟩
    rcases List.mem_cons.1 hzm with e|hzm
    · obtain rfl : z = x := hl.eq_of hz hm (e.trans hxn.symm)
      exact hfit
    exact q z hz hzm
theorem r10_Admit_ev {l:List Item} (hl:RightP l) (n:ByteArray) (v:Vec):Ev (fun k=>r10_Admit.f k l n v.f0 v.f1 v.f2) (admR l n v):=by
  have hlen:=hl.len
  refine Ev.bind (r10_Up_ev l n (by omega)) ?_
  have hmv:r10_MayVec.f v.f0 v.f1 v.f2=some (decide (MayP v)):=r10_MayVec_eq _ _ _
  unfold admR
  by_cases hv:MayP v
  rotate_left
  · rw [if_pos hv]
    refine Ev.congr (fun k=> ?_) (Ev.now _)
    rw [hmv]
    simp only [Option.bind_some]
    rw [if_neg (by simpa using hv)]
    rfl
  rw [if_neg (by simpa using hv)]
  cases hx:look l n with
  | none =>
    rw [if_pos (show (none:Option Item).isNone=true from rfl)]
    refine Ev.congr (fun k=> ?_) (Ev.now _)
    rw [hmv]
    simp only [Option.bind_some]
    rw [if_pos (by exact decide_eq_true hv),show up l n=[] from upGo_none hx _]
    rfl
  | some x =>
    rw [if_neg (by simp)]
    have h:=r10_Admit_l0 hl n hv ⟨x,hx⟩ _ 0 rfl (by omega)
    rw [List.take_zero,List.drop_zero,show l.map (admS [] v)=l from by rw [show admS [] v=id from by funext z;simp [admS]];simp] at h
    refine Ev.congr (fun k=> ?_) h
    rw [hmv]
    simp only [Option.bind_some]
    have:(up l n).length≠0:=by have:=up_self hx;intro q;rw [List.length_eq_zero_iff.1 q] at this;cases this
    rw [if_pos (by exact decide_eq_true hv),if_neg (by omega),r10_copied_eq l (by omega)]
    rfl
def zVec:Vec:=⟨0,0,0⟩
def newItem (n p:ByteArray) (v:Vec):Item:=⟨n,p,v,zVec,zVec,1⟩
def creR (l:List Item) (n p:ByteArray) (v:Vec):List Item×Int:=
 if¬((n≠⟨#[]⟩∧n.size≤24)∧MayP v) then ([],1) else if (look l n).isSome=true then ([],3) else if p≠⟨#[]⟩∧(look l p).isNone=true then ([],2) else if 120≤l.length then ([],4) else (insL l (newItem n p v),0)
theorem insL_cons (x:Item) (l:List Item) (it:Item):insL (x::l) it=if lt x.f0 it.f0=true then x::insL l it else it::x::l:=by
 unfold insL
 rw [List.takeWhile_cons,List.dropWhile_cons]
 cases lt x.f0 it.f0<;>simp
theorem r10_Create_l0 (n p:ByteArray) (v:Vec) (b:List Item): ∀(a l:List Item),l=a++b→l.length<1000000→Ev (fun k=>r10_Create.l0 k l n p a.length v.f0 v.f1 v.f2) (a++insL b (newItem n p v),0):=by
  induction b with
  | nil =>
    rintro a l rfl hl
    simp only [List.append_nil] at hl ⊢
    refine Ev.step (f:=fun _=>some (a++ [newItem n p v],0)) (fun k=> ?_) (Ev.now _)
    simp only [r10_Create.l0]
    rw [if_neg (by omega),if_pos (by omega),if_pos (by omega),Int.toNat_natCast,List.take_length,r10_copied_eq a (by omega)]
    simp only [Option.bind_some,List.drop_length,List.length_append,List.length_cons,List.length_nil]
    rw [if_pos (by omega),if_pos (by omega),List.append_nil]
    rfl
  | cons x b ih =>
    rintro a l rfl hl
    have hlen:(a++x::b).length=a.length+b.length+1:=by simp;omega
    have hrd:rd_T31 (a++x::b) (a.length:Int)=x:=by rw [rd_item,Int.toNat_natCast];simp
    rw [insL_cons]
    by_cases e:lt x.f0 n=true
    · rw [if_pos (by exact e)]
      have h:=ih (a++ [x]) (a++x::b) (by simp) hl
      refine Ev.step (f:=fun k=>r10_Create.l0 k (a++x::b) n p (a++ [x]).length v.f0 v.f1 v.f2) (fun k=> ?_) (by simpa using h)
      simp only [r10_Create.l0]
      rw [if_pos (by omega),if_pos (by omega),hrd,if_pos (by exact e),w64 (by omega) (by omega)]
      simp
    rw [if_neg (by exact e)]
    refine Ev.step (f:=fun _=>some (a++newItem n p v::x::b,0)) (fun k=> ?_) (Ev.now _)
    simp only [r10_Create.l0]
    rw [if_pos (by omega),if_pos (by omega),hrd,if_neg (by exact e),if_pos (by omega),Int.toNat_natCast,List.take_left,r10_copied_eq a (by omega)]
    simp only [Option.bind_some,List.drop_left,List.length_append,List.length_cons,List.length_nil]
    rw [if_pos (by omega),if_pos (by omega)]
    simp
    rfl
theorem r10_Create_ev {l:List Item} (hl:l.length<1000000) (n p:ByteArray) (v:Vec):Ev (fun k=>r10_Create.f k l n p v.f0 v.f1 v.f2) (creR l n p v):=by
  have hmv:r10_MayVec.f v.f0 v.f1 v.f2=some (decide (MayP v)):=r10_MayVec_eq _ _ _
  have hno: ∀e:Int,((r10_no.f e).bind fun bt=>some (bt.1,bt.2))=some (([]:List Item),e):=fun _=>rfl
  have hj1: ∀b,Ev (fun k=>r10_Create.j1 k l n p b v.f0 v.f1 v.f2) (if b=true then ([],2) else if 120≤l.length then ([],4) else (insL l (newItem n p v),0)):=by
    intro b
    cases b with
    | true =>
      refine Ev.step (f:=fun _=>some ([],2)) (fun k=> ?_) (Ev.now _)
      simp only [r10_Create.j1,if_true]
      exact hno 2
    | false =>
      simp only [Bool.false_eq_true,if_false]
      by_cases h:120≤l.length
      · rw [if_pos h]
        refine Ev.step (f:=fun _=>some ([],4)) (fun k=> ?_) (Ev.now _)
        simp only [r10_Create.j1,Bool.false_eq_true,if_false]
        rw [if_pos (by omega)];exact hno 4
      rw [if_neg h]
      refine Ev.step (f:=fun k=>r10_Create.l0 k l n p 0 v.f0 v.f1 v.f2) (fun k=> ?_) (by have:=r10_Create_l0 n p v l [] l rfl hl;simpa using this)
      simp only [r10_Create.j1,Bool.false_eq_true,if_false]
      rw [if_neg (by omega)]
  have hj0: ∀b,Ev (fun k=>r10_Create.j0 k l n p b v.f0 v.f1 v.f2) (if b=true then ([],1) else if (look l n).isSome=true then ([],3) else if p≠⟨#[]⟩∧(look l p).isNone=true then ([],2) else if 120≤l.length then ([],4) else (insL l (newItem n p v),0)):=by
    intro b
    cases b with
    | true =>
      refine Ev.step (f:=fun _=>some ([],1)) (fun k=> ?_) (Ev.now _)
      simp only [r10_Create.j0,if_true]
      exact hno 1
    | false =>
      simp only [Bool.false_eq_true,if_false]
      refine Ev.step (f:=fun k=>(r10_Find.f k l n).bind fun t=>if t≥0 then some ([],3) else if p.toList=([]:List UInt8) then r10_Create.j1 k l n p false v.f0 v.f1 v.f2 else (r10_Find.f k l p).bind fun t=>r10_Create.j1 k l n p (decide (t<0)) v.f0 v.f1 v.f2) (fun k=> ?_) (Ev.bind (r10_Find_ev l n hl) ?_)
      · simp only [r10_Create.j0,Bool.false_eq_true,if_false];rfl
      cases hn:look l n with
      | some x =>
        refine Ev.congr (fun k=> ?_) (Ev.now _)
        rw [if_pos (fnd_ge.2 ⟨x,hn⟩)];rfl
      | none =>
        simp only [Option.isSome_none,Bool.false_eq_true,if_false]
        by_cases hp:p=⟨#[]⟩
        · have h := hj1 false
          simp only [Bool.false_eq_true,if_false] at h
          rw [if_neg (fun q=>q.1 hp)]
          refine Ev.congr (fun k=> ?_) h
          rw [fnd_none hn,if_neg (by omega),if_pos (nm_empty.2 hp)]
        have h:=hj1 (decide (fnd l p<0))
        refine Ev.congr (g:=fun k=>_) (f:=fun k=>(r10_Find.f k l p).bind fun t=>r10_Create.j1 k l n p (decide (t<0)) v.f0 v.f1 v.f2) (fun k=> ?_) (Ev.bind (r10_Find_ev l p hl) ?_)
        · rw [fnd_none hn,if_neg (by omega),if_neg (fun q=>hp (nm_empty.1 q))]
        have e:(p≠⟨#[]⟩∧(look l p).isNone=true)↔(decide (fnd l p<0)=true):=by
          rw [decide_eq_true_iff,fnd_neg];simp [hp]
        rw [ite_iff e];exact h
  unfold creR
  by_cases hn:n≠⟨#[]⟩∧n.size≤24
  · have h := hj0 (!decide (MayP v))
    rw [ite_iff (q:=(!decide (MayP v))=true) (by simp [hn])]
    refine Ev.congr (fun k=> ?_) h
    unfold r10_Create.f
    rw [r10_MayName_eq,hmv]
    simp only [Option.bind_some]
    rw [if_pos (by exact decide_eq_true hn)]
  have h:=hj0 true
  rw [if_pos (fun q=>hn q.1)]
  rw [if_pos rfl] at h
  refine Ev.congr (fun k=> ?_) h
  unfold r10_Create.f
  rw [r10_MayName_eq]
  simp only [Option.bind_some]
  rw [if_neg (by simpa using hn)]
theorem creR_right {l:List Item} (hl:RightP l) {n p:ByteArray} {v:Vec} (h:(creR l n p v).2=0):
    (creR l n p v).1=insL l (newItem n p v)∧RightP (insL l (newItem n p v))∧look l n=none∧l.length<120∧n≠⟨#[]⟩∧n.size≤24∧MayP v∧(p=⟨#[]⟩∨ ∃y,look l p=some y):=by
  unfold creR at h ⊢
  split at h
  · simp at h
  rename_i h1
  split at h
  · simp at h
  rename_i h2
  split at h
  · simp at h
  rename_i h3
  split at h
  · simp at h
  rename_i h4
  rw [if_neg h1,if_neg h2,if_neg h3,if_neg h4]
  obtain ⟨⟨h5,h6⟩,h7⟩:=Classical.not_not.1 h1
  have hn:look l n=none:=by cases q:look l n with
    |none=>rfl
    |some x=>rw [q] at h2;simp at h2
  have hp:p=⟨#[]⟩∨ ∃y,look l p=some y:=by
    by_cases e:p=⟨#[]⟩
    · exact .inl e
    right
    cases q:look l p with
    |none=>rw [q] at h3;exact absurd ⟨e,rfl⟩ h3
    |some y=>exact ⟨y,rfl⟩
  have hz: ∀c:Comp,c.of zVec=0:=fun c=>by cases c<;>rfl
  refine ⟨rfl,ins_right hl ⟨h5,h6,h7,fun c=> ?_,fun c=> ?_,fun c=> ?_, ?_⟩ (fun c=>⟨hz c,hz c⟩) hn hp (by omega),hn,by omega,h5,h6,h7,hp⟩
  · show 0≤c.of zVec∧c.of zVec≤_;rw [hz];omega
  · show 0≤c.of zVec∧c.of zVec≤_;rw [hz];omega
  · show c.of zVec≤c.of v;rw [hz];exact (h7 c).1
  show (1:Int)≤1∧(1:Int)≤_;omega
theorem mem_insL {l:List Item} {it x:Item}:x∈insL l it↔x=it∨x∈l:=by
 obtain ⟨a,b,e,e',_,_⟩:=insL_eq l it
 rw [e',e];simp;constructor<;>(intro h;rcases h with h|h|h<;>simp [h])
theorem len_insL (l:List Item) (it:Item):(insL l it).length=l.length+1:=by
 obtain ⟨a,b,e,e',_,_⟩:=insL_eq l it
 rw [e',e];simp;omega
theorem admR_right {l:List Item} (hl:RightP l) {n:ByteArray} {v:Vec} (h:(admR l n v).2=0):(admR l n v).1=admL l n v∧RightP (admL l n v)∧MayP v∧(∃x,look l n=some x)∧ ∀x∈l,x.f0∈up l n→LeP (vadd x.f4 v) x.f2:=by
  unfold admR at h ⊢
  split at h
  · simp at h
  rename_i h1
  split at h
  · simp at h
  rename_i h2
  split at h
  rotate_left
  · simp at h
  rename_i h3
  rw [if_neg h1,if_neg h2,if_pos h3]
  have hv:MayP v:=Classical.not_not.1 h1
  have hin: ∃x,look l n=some x:=by
    cases q:look l n with
    |none=>rw [q] at h2;simp at h2
    |some x=>exact ⟨x,rfl⟩
  have hsub: ∀x∈l,x.f0∈up l n→MayP (vadd x.f4 v):=fun x hx hm c=>by
    have a:=(hl.ok x hx).sub c;have b:=hv c;have d:=h3 x hx hm c;have e:=(hl.ok x hx).lim c
    rw [of_vadd] at d ⊢;omega
  refine ⟨rfl,adm_right hl v hin (fun x hx e c=> ?_) hsub h3,hv,hin,h3⟩
  have hm:x.f0∈up l n:=by obtain ⟨y,hy⟩:=hin;rw [e];exact up_self hy
  have a:=(hl.ok x hx).own c;have b:=hv c;have d:=hsub x hx hm c;have f:=hl.sum c x hx
  have g:0≤csum c l x.f0:=sumBy_nonneg fun y hy=>by
    split
    · exact ((hl.ok y hy).sub c).1
    omega
  rw [of_vadd] at d ⊢;omega
theorem u8_bd {x:Int} (h:(Lit.int .u8 x).wf=true):0≤x∧x≤255:=by
 simp only [Lit.wf,Bool.and_eq_true,decide_eq_true_eq] at h
 exact h
def Bytes (ns:List Int):Prop:= ∀x∈ns,0≤x∧x≤255
theorem Bytes.rd {ns:List Int} (h:Bytes ns) (i:Int):0≤rd ns i∧rd ns i≤255:=by
 unfold Go.Proofs.YtcgefpklljclgaaW.PrintWords.rd
 rw [List.getD_eq_getElem?_getD]
 cases e:ns[i.toNat]? with
 |none=>simp
 |some x=>exact h x (List.mem_of_getElem? e)
def one (c:Int):ByteArray:=strOfNums [c]
structure MadeP (l:List Item):Prop where
 right:RightP l
 len:l.length≤24
 name: ∀x∈l,∃c:Int,97≤c∧c≤120∧x.f0=one c
 ver: ∀x∈l,x.f5=1
 lim: ∀x∈l,∀c:Comp,20≤c.of x.f2∧c.of x.f2≤275
theorem made_nil:MadeP []:=⟨right_nil,by simp,by simp,by simp,by simp⟩
theorem made_ins {l:List Item} (h:MadeP l) {n p:ByteArray} {v:Vec} {c:Int} (hc:97≤c∧c≤120) (hn:n=one c) (hv: ∀c:Comp,20≤c.of v∧c.of v≤275) (hl:l.length<24) (hr:RightP (insL l (newItem n p v))):MadeP (insL l (newItem n p v)) where
  right:=hr
  len:=by rw [len_insL];omega
  name:=fun x hx=>by
    rcases mem_insL.1 hx with rfl|hx
    · exact ⟨c,hc.1,hc.2,hn⟩
    exact h.name x hx
  ver:=fun x hx=>by
    rcases mem_insL.1 hx with rfl|hx
    · rfl
    exact h.ver x hx
  lim:=fun x hx=>by
    rcases mem_insL.1 hx with rfl|hx
    · exact hv
    exact h.lim x hx
theorem made_adm {l:List Item} (h:MadeP l) {n:ByteArray} {v:Vec} (hr:RightP (admL l n v)):MadeP (admL l n v) where
 right:=hr
 len:=by unfold admL;rw [List.length_map];exact h.len
 name:=fun x hx=>by
  obtain ⟨y,hy,rfl⟩:=List.mem_map.1 hx
  exact h.name y hy
 ver:=fun x hx=>by
  obtain ⟨y,hy,rfl⟩:=List.mem_map.1 hx
  exact h.ver y hy
 lim:=fun x hx=>by
  obtain ⟨y,hy,rfl⟩:=List.mem_map.1 hx
  exact h.lim y hy
def MakesFrom (ns:List Int) (i:Int):Prop:= ∀l,MadeP l→ ∃r,Ev (fun k=>law12_Make.l0 k ns l i) r∧MadeP r
theorem tmod_in {a b:Int} (ha:0≤a) (hb:0<b):0≤a.tmod b∧a.tmod b<b:=by
 rw [Int.tmod_eq_emod_of_nonneg ha];exact ⟨Int.emod_nonneg _ (by omega),Int.emod_lt_of_pos _ hb⟩
theorem tdiv_in {a b:Int} (ha:0≤a) (hb:0<b):0≤a.tdiv b∧a.tdiv b≤a:=by
 rw [Int.tdiv_eq_ediv_of_nonneg ha];exact ⟨Int.ediv_nonneg ha (by omega),Int.ediv_le_self _ ha⟩
theorem made_j3 {ns:List Int} (hb:Bytes ns) (hs:ns.length≤1000) {i:Int} (h0:0≤i) (h2:i+2<ns.length) (ih:MakesFrom ns (i+3)) {l:List Item} (h:MadeP l) (hl:l.length<24) (p:ByteArray):
    ∃r,Ev (fun k=>law12_Make.j3 k ns l i p) r∧MadeP r:=by
  have b1:=hb.rd (i+1)
  have b2:=hb.rd (i+2)
  have hlen:=h.right.len
  have hnm:(wrap64 (97+(Int.tmod (wrap64 ((l.length:Int)*5)) 24))) % 256=97+((l.length:Int)*5) % 24:=by
    rw [w64 (n:=(l.length:Int)*5) (by omega) (by omega),Int.tmod_eq_emod_of_nonneg (by omega),w64 (by omega) (by omega)];omega
  generalize hc:97+((l.length:Int)*5) % 24=c at hnm
  have hcb:97≤c∧c≤120:=by omega
  have hlim:wrap64 (20+wrap64 (rd ns (i+1)))=20+rd ns (i+1):=by rw [w64 (n:=rd ns (i+1)) (by omega) (by omega),w64 (by omega) (by omega)]
  obtain ⟨K,hK⟩:=r10_Create_ev (l:=l) (by omega) (one c) p ⟨20+rd ns (i+1),20+rd ns (i+1),20+rd ns (i+1)⟩
  dsimp only at hK
  have hw1:wrap64 (i+1)=i+1:=w64 (by omega) (by omega)
  have hw2:wrap64 (i+2)=i+2:=w64 (by omega) (by omega)
  have hw3:wrap64 (i+3)=i+3:=w64 (by omega) (by omega)
  have hr2:wrap64 (rd ns (i+2))=rd ns (i+2):=w64 (by omega) (by omega)
  by_cases hE:(creR l (one c) p ⟨20+rd ns (i+1),20+rd ns (i+1),20+rd ns (i+1)⟩).2=0
  rotate_left
  · obtain ⟨r, ⟨K3, hK3⟩, hM⟩ := ih l h
    dsimp only at hK3
    refine ⟨r,⟨K+K3+1,fun k hk=> ?_⟩,hM⟩
    obtain ⟨k,rfl⟩: ∃m,k=m+1:=⟨k - 1,by omega⟩
    simp only [law12_Make.j3]
    rw [hw1,hw2,hw3,hnm,hlim,if_pos (by omega),if_pos (by omega)]
    rw [show strOfNums [c]=one c from rfl,hK k (by omega)]
    simp only [Option.bind_some]
    rw [if_neg hE]
    exact hK3 k (by omega)
  obtain ⟨e1,hR,hno, -, -, -,hv, -⟩:=creR_right h.right hE
  have hm:=made_ins h (p:=p) hcb rfl (v:=⟨20+rd ns (i+1),20+rd ns (i+1),20+rd ns (i+1)⟩) (fun c=>by cases c<;>(simp only [Comp.of];omega)) hl hR
  generalize hL:insL l (newItem (one c) p ⟨20+rd ns (i+1),20+rd ns (i+1),20+rd ns (i+1)⟩)=l1 at*
  have hl1:0<l1.length:=by rw [←hL,len_insL];omega
  have hd:=tdiv_in (a:=rd ns (i+2)) (b:=16) (by omega) (by omega)
  have hw4:wrap64 (Int.tdiv (rd ns (i+2)) 16)=Int.tdiv (rd ns (i+2)) 16:=w64 (by omega) (by omega)
  have hq:=tmod_in (a:=Int.tdiv (rd ns (i+2)) 16) (b:=(l1.length:Int)) hd.1 (by omega)
  generalize hJ:Int.tmod (Int.tdiv (rd ns (i+2)) 16) (l1.length:Int)=j at*
  obtain ⟨v,hv'⟩: ∃v:Vec,v=⟨Int.tmod (rd ns (i+2)) 16,wrap64 (Int.tdiv (Int.tmod (rd ns (i+2)) 16) 2),Int.tmod (Int.tmod (rd ns (i+2)) 16) 3⟩:=⟨_,rfl⟩
  obtain ⟨K2,hK2⟩:=r10_Admit_ev hm.right (rd_T31 l1 j).f0 v
  dsimp only at hK2
  have main: ∀r,Ev (fun k=>law12_Make.l0 k ns (if (admR l1 (rd_T31 l1 j).f0 v).2=0 then (admR l1 (rd_T31 l1 j).f0 v).1 else l1) (i+3)) r→Ev (fun k=>law12_Make.j3 k ns l i p) r:=by
    rintro r ⟨K3,hK3⟩
    refine ⟨K+K2+K3+1,fun k hk=> ?_⟩
    dsimp only at hK3
    obtain ⟨k,rfl⟩: ∃m,k=m+1:=⟨k - 1,by omega⟩
    simp only [law12_Make.j3]
    rw [hw1,hw2,hw3,hnm,hlim,hr2,if_pos (by omega),if_pos (by omega)]
    rw [show strOfNums [c]=one c from rfl,hK k (by omega)]
    simp only [Option.bind_some]
    rw [if_pos hE,if_pos (by omega),if_pos (by omega),e1,if_neg (by omega),hw4,hJ,if_pos hq.1,if_pos hq.2]
    have:=hK2 k (by omega)
    rw [hv'] at this
    rw [this]
    simp only [Option.bind_some]
    rw [←hv']
    have:=hK3 k (by omega)
    by_cases q:(admR l1 (rd_T31 l1 j).f0 v).2=0
    · rw [if_pos q] at this ⊢;exact this
    rw [if_neg q] at this ⊢;exact this
  by_cases q:(admR l1 (rd_T31 l1 j).f0 v).2=0
  rotate_left
  · rw [if_neg q] at main
    obtain ⟨r,hr,hM⟩:=ih _ hm
    exact ⟨r,main r hr,hM⟩
  rw [if_pos q] at main
  obtain ⟨e2,hR2, -⟩:=admR_right hm.right q
  rw [e2] at main
  obtain ⟨r,hr,hM⟩:=ih _ (made_adm hm hR2)
  exact ⟨r,main r hr,hM⟩
theorem made_step {ns:List Int} (hb:Bytes ns) (hs:ns.length≤1000) {i:Int} (h0:0≤i) (h2:i+2<ns.length) (ih:MakesFrom ns (i+3)):MakesFrom ns i:=by
  intro l h
  have hw2:wrap64 (i+2)=i+2:=w64 (by omega) (by omega)
  have b0:=hb.rd i
  have hr0:wrap64 (rd ns i)=rd ns i:=w64 (by omega) (by omega)
  by_cases hl:l.length<24
  rotate_left
  · refine ⟨l, Ev.step (f := fun k => law12_Make.j1 k ns l i false) (fun k => ?_) (Ev.step (f := fun _ => some l) (fun k => ?_) (Ev.now _)), h⟩
    · simp only [law12_Make.l0]
      rw [hw2,if_pos (by omega),show decide ((l.length:Int)<24)=false from decide_eq_false (by omega)]
    simp only [law12_Make.j1,Bool.false_eq_true,if_false]
  have h3:=made_j3 hb hs h0 h2 ih h hl
  have hj2: ∀b,(b=true→0<l.length)→ ∃r,Ev (fun k=>law12_Make.j2 k ns l i (rd ns i) ⟨#[]⟩ b) r∧MadeP r:=by
    intro b hbl
    cases b with
    | false =>
      obtain ⟨r,hr,hM⟩:=h3 ⟨#[]⟩
      refine ⟨r,Ev.step (fun k=> ?_) hr,hM⟩
      simp only [law12_Make.j2,Bool.false_eq_true,if_false]
    | true =>
      have hpos:=hbl rfl
      have hd:=tdiv_in (a:=rd ns i) (b:=3) (by omega) (by omega)
      have hw:wrap64 (Int.tdiv (rd ns i) 3)=Int.tdiv (rd ns i) 3:=w64 (by omega) (by omega)
      have hq:=tmod_in (a:=Int.tdiv (rd ns i) 3) (b:=(l.length:Int)) hd.1 (by omega)
      obtain ⟨r,hr,hM⟩:=h3 (rd_T31 l (Int.tmod (Int.tdiv (rd ns i) 3) (l.length:Int))).f0
      refine ⟨r,Ev.step (fun k=> ?_) hr,hM⟩
      simp only [law12_Make.j2,if_true]
      rw [hw,if_neg (by omega),if_pos hq.1,if_pos hq.2]
  have hj1: ∃r,Ev (fun k=>law12_Make.j1 k ns l i true) r∧MadeP r:=by
    by_cases hpos:0<l.length
    · obtain ⟨r, hr, hM⟩ := hj2 (decide ((Int.tmod (rd ns i) 3) > 0)) (fun _ => hpos)
      refine ⟨r,Ev.step (fun k=> ?_) hr,hM⟩
      simp only [law12_Make.j1,if_true]
      rw [if_pos (by omega),if_pos (by omega),if_pos (by omega),hr0]
    obtain ⟨r,hr,hM⟩:=hj2 false (fun q=>by cases q)
    refine ⟨r,Ev.step (fun k=> ?_) hr,hM⟩
    simp only [law12_Make.j1,if_true]
    rw [if_pos (by omega),if_pos (by omega),if_neg (by omega),hr0]
  obtain ⟨r,hr,hM⟩:=hj1
  refine ⟨r,Ev.step (fun k=> ?_) hr,hM⟩
  simp only [law12_Make.l0]
  rw [hw2,if_pos (by omega),show decide ((l.length:Int)<24)=true from decide_eq_true (by omega)]
theorem made_from {ns:List Int} (hb:Bytes ns) (hs:ns.length≤1000): ∀(d:Nat) (i:Int),0≤i→i≤1003→(ns.length:Int) - i≤d→MakesFrom ns i
  | d, i, h0, h1, hd => by
    by_cases h2:i+2<ns.length
    · cases d with
      |zero=>omega
      |succ d=>exact made_step hb hs h0 h2 (made_from hb hs d (i+3) (by omega) (by omega) (by omega))
    intro l h
    have hw2:wrap64 (i+2)=i+2:=w64 (by omega) (by omega)
    refine ⟨l,Ev.step (f:=fun k=>law12_Make.j1 k ns l i false) (fun k=> ?_) (Ev.step (f:=fun _=>some l) (fun k=> ?_) (Ev.now _)),h⟩
    · simp only [law12_Make.l0]
      rw [hw2,if_neg (by omega)]
    simp only [law12_Make.j1,Bool.false_eq_true,if_false]
theorem made_all {ns:List Int} (hb:Bytes ns) (hs:ns.length≤1000): ∃l,Ev (fun k=>law12_Make.f k ns) l∧MadeP l:=made_from hb hs ns.length 0 (by omega) (by omega) (by omega) [] made_nil
end Go.Proofs.Ytcgefpklljclgaa.Print

namespace Go.Proofs.Ytcgefpklljclgaa.Print
open Go.RowKit Go.Proofs.YtcgefpklljclgaaW.PrintWords Go.Proofs.YtcgefpklljclgaaW.PrintLast Go.Proofs.YtcgefpklljclgaaW.PrintMore
theorem shape_made_eq (l:List Item) (n:ByteArray) (hl:l.length<1000000):shape_made.f l n=some (l,fnd l n):=by
 unfold shape_made.f slices_Clone_Item.f
 rw [if_pos (by omega)]
 rfl
theorem sh_Le_eq (a b d a' b' d':Int):vec_Le.f a b d a' b' d'=some (decide (LeP ⟨a,b,d⟩ ⟨a',b',d'⟩)):=by
 unfold vec_Le.f
 rw [show decide (LeP ⟨a,b,d⟩ ⟨a',b',d'⟩)=decide (a≤a'∧b≤b'∧d≤d') from decide_eq_decide.2 leP_iff]
 by_cases h1:a≤a'<;>by_cases h2:b≤b'<;>simp [h1,h2]
theorem shape_parent_eq (l:List Item) (j:Int) (p:ByteArray):shape_change_parent.f l j p=some (decide (¬(p≠⟨#[]⟩∧(look l p).isNone=true))):=by
  unfold shape_change_parent.f
  by_cases hp:p=⟨#[]⟩
  · rw [if_pos (nm_empty.2 hp)]
    simp [hp]
  rw [if_neg (fun e=>hp (nm_empty.1 e)),tree_Find_eq]
  simp only [Option.bind_some]
  congr 1
  apply decide_eq_decide.2
  rw [show (fnd l p≥0)↔ ∃x,look l p=some x from fnd_ge]
  cases look l p<;>simp [hp]
end Go.Proofs.Ytcgefpklljclgaa.Print

namespace Go.Proofs.Ytcgefpklljclgaa.Print
open Go.RowKit Go.Proofs.YtcgefpklljclgaaW.PrintWords Go.Proofs.YtcgefpklljclgaaW.PrintLast Go.Proofs.YtcgefpklljclgaaW.PrintMore
attribute [local go_sem] max2_int min2_int max_two min_two max_three min_three max_four min_four

end Go.Proofs.Ytcgefpklljclgaa.Print

namespace Go.Proofs.Ytcgefpklljclgaa.Print
open Go.RowKit Go.Proofs.YtcgefpklljclgaaW.PrintWords Go.Proofs.YtcgefpklljclgaaW.PrintLast Go.Proofs.YtcgefpklljclgaaW.PrintMore
theorem tree_Up_l0 (l:List Item) (hl:l.length<1000000): ∀(m:Nat) (n:ByteArray) (out:List ByteArray),out.length+m=l.length+1→
    Ev (fun k=>tree_Up.l0 k l out (fnd l n)) (out++upGo l m n)
  | 0, n, out, hm => by
    rw [upGo.eq_1,List.append_nil]
    refine Ev.step (f:=fun _=>some out) (fun k=> ?_) (Ev.now _)
    simp only [tree_Up.l0]
    by_cases h:0≤fnd l n
    · rw [if_pos h,if_neg (by omega)]
    rw [if_neg h]
  | m + 1, n, out, hm => by
    cases h:look l n with
    | none =>
      rw [upGo_none h,List.append_nil]
      refine Ev.step (f:=fun _=>some out) (fun k=> ?_) (Ev.now _)
      simp only [tree_Up.l0]
      rw [fnd_none h,if_neg (by omega)]
    | some x =>
      rw [upGo_some h]
      have h0:=fnd_ge.2 ⟨x,h⟩
      have h1:=fnd_lt l n
      obtain ⟨hx,hn⟩:=look_mem h
      refine Ev.step (f:=fun k=>tree_Up.l0 k l (out++ [n]) (fnd l x.f1)) (fun k=> ?_) ?_
      · simp only [tree_Up.l0]
        rw [if_pos h0,if_pos (by omega),if_pos h0,if_pos h1,if_pos (by omega),fnd_rd h,hn,tree_Find_eq]
        rfl
      have:=tree_Up_l0 l hl m x.f1 (out++ [n]) (by simp;omega)
      simpa using this
theorem tree_Up_ev (l:List Item) (n:ByteArray) (hl:l.length<1000000):Ev (fun k=>tree_Up.f k l n) (up l n):=by
 have:=tree_Up_l0 l hl (l.length+1) n [] (by simp)
 rw [List.nil_append] at this
 exact this
end Go.Proofs.Ytcgefpklljclgaa.Print

namespace Go.Proofs.Ytcgefpklljclgaa.Print
open Go.RowKit Go.Proofs.YtcgefpklljclgaaW.PrintWords Go.Proofs.YtcgefpklljclgaaW.PrintLast Go.Proofs.YtcgefpklljclgaaW.PrintMore
attribute [local go_sem] max2_int min2_int max_two min_two max_three min_three max_four min_four

def hasStr (l:List ByteArray) (s:ByteArray):Bool:=l.any (fun x=>decide (s.toList=x.toList))
theorem index_some (l:List ByteArray) (s:ByteArray) (hl:l.length<1000000000): ∀(d i:Nat),l.length - i=d→i≤l.length→ ∃r,slices_Index_string_string.l0 (d+1) l s l.length i=some r∧decide (r≥0)=hasStr (l.drop i) s
  | 0, i, hd, hi => by
    obtain rfl:i=l.length:=by omega
    refine ⟨-1, ?_,by rw [List.drop_length];rfl⟩
    simp only [slices_Index_string_string.l0]
    rw [if_neg (by omega)]
  | d + 1, i, hd, hi => by
    have hlt:i<l.length:=by omega
    have hrd:rdOf ByteArray.empty l (i:Int)=l[i]:=by simp [rdOf,hlt]
    rw [List.drop_eq_getElem_cons hlt]
    obtain ⟨r,h1,h2⟩:=index_some l s hl d (i+1) (by omega) (by omega)
    rw [slices_Index_string_string.l0,if_pos (by omega),if_pos (by omega),if_pos (by omega),hrd]
    by_cases e:s.toList=l[i].toList
    · refine ⟨i, if_pos e, ?_⟩
      unfold hasStr
      rw [List.any_cons,decide_eq_true e]
      simp
    refine ⟨r, ?_, ?_⟩
    · rw [if_neg e,show wrap64 ((i:Int)+1)=((i+1:Nat):Int) from by unfold wrap64;omega];exact h1
    rw [h2];unfold hasStr;rw [List.any_cons,decide_eq_false e,Bool.false_or]
end Go.Proofs.Ytcgefpklljclgaa.Print

namespace Go.Proofs.Ytcgefpklljclgaa.Print
open Go.RowKit Go.Proofs.YtcgefpklljclgaaW.PrintWords Go.Proofs.YtcgefpklljclgaaW.PrintLast Go.Proofs.YtcgefpklljclgaaW.PrintMore
end Go.Proofs.Ytcgefpklljclgaa.Print

namespace Go.Proofs.Ytcgefpklljclgaa.Print
open Go.RowKit Go.Proofs.YtcgefpklljclgaaW.PrintWords Go.Proofs.YtcgefpklljclgaaW.PrintLast Go.Proofs.YtcgefpklljclgaaW.PrintMore
attribute [local go_sem] max2_int min2_int max_two min_two max_three min_three max_four min_four

end Go.Proofs.Ytcgefpklljclgaa.Print

namespace Go.Proofs.Ytcgefpklljclgaa.Print
open Go.RowKit Go.Proofs.YtcgefpklljclgaaW.PrintWords Go.Proofs.YtcgefpklljclgaaW.PrintLast Go.Proofs.YtcgefpklljclgaaW.PrintMore
theorem up_cons {l:List Item} (hl:RightP l) {x:Item} (hx:x∈l):up l x.f0=x.f0::up l x.f1:=(Chain.cons (hl.look hx) (hl.chainAll x.f1)).up
end Go.Proofs.Ytcgefpklljclgaa.Print

namespace Go.Proofs.Ytcgefpklljclgaa.Print
open Go.RowKit Go.Proofs.YtcgefpklljclgaaW.PrintWords Go.Proofs.YtcgefpklljclgaaW.PrintLast Go.Proofs.YtcgefpklljclgaaW.PrintMore
attribute [local go_sem] max2_int min2_int max_two min_two max_three min_three max_four min_four

attribute [local go_sem high] eqA27
end Go.Proofs.Ytcgefpklljclgaa.Print

namespace Go.Proofs.Ytcgefpklljclgaa.Print
open Go.RowKit Go.Proofs.YtcgefpklljclgaaW.PrintWords Go.Proofs.YtcgefpklljclgaaW.PrintLast Go.Proofs.YtcgefpklljclgaaW.PrintMore
def oldR (l:List Item) (n:ByteArray) (ver:Int):Int:=match look l n with
 |none=>2
 |some x=>if 0≤ver∧x.f5≠ver then 14 else 0
theorem oldR_none {l:List Item} {n:ByteArray} {ver:Int} (h:look l n=none):oldR l n ver=2:=by unfold oldR;rw [h]
theorem oldR_some {l:List Item} {n:ByteArray} {ver:Int} {x:Item} (h:look l n=some x):oldR l n ver=if 0≤ver∧x.f5≠ver then 14 else 0:=by unfold oldR;rw [h]
theorem oldR_zero {l:List Item} {n:ByteArray} {ver:Int} (h:oldR l n ver=0): ∃x,look l n=some x∧(0≤ver→x.f5=ver):=by
  cases q:look l n with
  |none=>rw [oldR_none q] at h;cases h
  | some x =>
    rw [oldR_some q] at h
    refine ⟨x,rfl,fun hv=> ?_⟩
    by_cases e:x.f5=ver
    · exact e
    rw [if_pos ⟨hv,e⟩] at h;cases h
theorem guardF_eq (l:List Item) (n:ByteArray) (ver:Int):guardF l (fnd l n) ver=some (oldR l n ver):=by
  unfold guardF
  cases q:look l n with
  |none=>rw [fnd_none q,oldR_none q,if_pos (by omega)]
  | some x =>
    have h0:=fnd_ge.2 ⟨x,q⟩
    have h1:=fnd_lt l n
    rw [if_neg (by omega),if_pos h1,fnd_rd q,oldR_some q]
    by_cases e:0≤ver∧x.f5≠ver
    · rw [if_pos e,if_pos e]
    rw [if_neg e,if_neg e]
theorem rd_set {l:List Item} {j:Int} (h0:0≤j) (h1:j<(l.length:Int)) (y:Item):rd_T31 (l.set j.toNat y) j=y:=by
 rw [rd_item]
 simp [List.getD_eq_getElem?_getD,show j.toNat<l.length by omega]
theorem ver_step {x:Item} (h:ItemOK x):wrap64 (x.f5+1)=x.f5+1:=by
 have:=h.ver
 exact w64 (by omega) (by omega)
theorem olderF_eq {l:List Item} (hl:RightP l) {n:ByteArray} {x:Item} (h:look l n=some x):olderF l (fnd l n)=if 9007199254740992≤x.f5 then some (4,l) else some (0,l.set (fnd l n).toNat ⟨x.f0,x.f1,x.f2,x.f3,x.f4,x.f5+1⟩):=by
 unfold olderF
 have h0:=fnd_ge.2 ⟨x,h⟩
 have h1:=fnd_lt l n
 rw [if_pos ⟨h0,h1⟩,fnd_rd h]
 unfold verF
 rw [ver_step (hl.ok x (look_mem h).1)]
end Go.Proofs.Ytcgefpklljclgaa.Print

namespace Go.Proofs.Ytcgefpklljclgaa.Print
open Go.RowKit Go.Proofs.YtcgefpklljclgaaW.PrintWords Go.Proofs.YtcgefpklljclgaaW.PrintLast Go.Proofs.YtcgefpklljclgaaW.PrintMore
attribute [local go_sem] max2_int min2_int max_two min_two max_three min_three max_four min_four

end Go.Proofs.Ytcgefpklljclgaa.Print

namespace Go.Proofs.Ytcgefpklljclgaa.Print
open Go.RowKit Go.Proofs.YtcgefpklljclgaaW.PrintWords Go.Proofs.YtcgefpklljclgaaW.PrintLast Go.Proofs.YtcgefpklljclgaaW.PrintMore
def updF (us:List ByteArray) (f:Item→Item) (x:Item):Item:=if x.f0∈us then f x else x
theorem updF_name {us:List ByteArray} {f:Item→Item} (hf: ∀x,(f x).f0=x.f0) (x:Item):(updF us f x).f0=x.f0:=by
  unfold updF
  split
  · exact hf x
  rfl
theorem set_upd {l:List Item} (hn:(l.map (·.f0)).Nodup) {s:ByteArray} {x:Item} (h:look l s=some x) (f:Item→Item):l.set (fnd l s).toNat (f x)=l.map (updF [s] f):=by
  rw [set_at hn h]
  refine List.map_congr_left fun z hz=> ?_
  unfold updF
  by_cases e:z.f0=s
  rotate_left
  · rw [if_neg e,if_neg (by simpa using e)]
  rw [if_pos e,if_pos (by simp [e])]
  have h1:=look_of_mem hn hz
  rw [e,h] at h1
  rw [Option.some.inj h1]
theorem upd_cons {us:List ByteArray} {s:ByteArray} (hs:s ∉ us) {f:Item→Item} (hf: ∀x,(f x).f0=x.f0) (l:List Item):(l.map (updF [s] f)).map (updF us f)=l.map (updF (s::us) f):=by
  rw [List.map_map]
  refine List.map_congr_left fun z hz=> ?_
  simp only [Function.comp]
  by_cases e:z.f0=s
  · have e1 : updF [s] f z = f z := by unfold updF; rw [if_pos (by simp [e])]
    rw [e1]
    unfold updF
    rw [if_neg (by rw [hf,e];exact hs),if_pos (by simp [e])]
  have e1:updF [s] f z=z:=by unfold updF;rw [if_neg (by simpa using e)]
  rw [e1]
  unfold updF
  by_cases e2:z.f0∈us
  · rw [if_pos e2,if_pos (List.mem_cons_of_mem _ e2)]
  rw [if_neg e2,if_neg (by simp [e,e2])]
theorem upd_nil (f:Item→Item) (l:List Item):l.map (updF [] f)=l:=by
 rw [show updF [] f=id from by funext z;simp [updF]]
 simp
theorem nodup_upd {us:List ByteArray} {f:Item→Item} (hf: ∀x,(f x).f0=x.f0) {l:List Item} (hn:(l.map (·.f0)).Nodup):((l.map (updF us f)).map (·.f0)).Nodup:=by
 rw [List.map_map,show ((fun x:Item=>x.f0) ∘ updF us f)=(fun x=>x.f0) from by funext z;exact updF_name hf z]
 exact hn
theorem look_upd {us:List ByteArray} {f:Item→Item} (hf: ∀x,(f x).f0=x.f0) (l:List Item) (m:ByteArray):look (l.map (updF us f)) m=(look l m).map (updF us f):=look_map (f:=updF us f) (updF_name hf) l m
theorem shSub_name (op:Vec→Vec) (x:Item):(shSub op x).f0=x.f0:=rfl
theorem shiftF_eq (op:Vec→Vec): ∀(us:List ByteArray) (l:List Item),(l.map (·.f0)).Nodup→us.Nodup→(∀s∈us,∃x,look l s=some x)→shiftF op us l=some (l.map (updF us (shSub op)))
  |[],l,_,_,_=>by rw [upd_nil];rfl
  | s :: us, l, hn, hu, hin => by
    rw [List.nodup_cons] at hu
    obtain ⟨x,hx⟩:=hin s (List.mem_cons_self ..)
    have j0:=fnd_ge.2 ⟨x,hx⟩
    have j1:=fnd_lt l s
    unfold shiftF
    rw [tree_Find_eq]
    simp only [Option.bind_some]
    rw [if_pos ⟨j0,j1⟩,fnd_rd hx,set_upd hn hx,shiftF_eq op us _ (nodup_upd (shSub_name op) hn) hu.2 (fun t ht=>by
      obtain ⟨y,hy⟩:=hin t (List.mem_cons_of_mem _ ht)
      exact ⟨_,by rw [look_upd (shSub_name op),hy];rfl⟩),upd_cons hu.1 (shSub_name op)]
theorem contains_ev (l:List ByteArray) (s:ByteArray) (hl:l.length<1000000):Ev (fun k=>slices_Contains_string_string.f k l s) (hasStr l s):=by
 obtain ⟨r,h1,h2⟩:=index_some l s (by omega) l.length 0 (by omega) (by omega)
 refine Ev.of (fun k=>slices_Contains_string_string.mono l s k) (k:=l.length+1) ?_
 unfold slices_Contains_string_string.f slices_Index_string_string.f
 rw [show slices_Index_string_string.l0 (l.length+1) l s (l.length:Int) 0=some r from h1]
 simp only [Option.bind_some]
 rw [h2,List.drop_zero]
theorem hasStr_iff {l:List ByteArray} {s:ByteArray}:hasStr l s=true↔s∈l:=by
  unfold hasStr
  rw [List.any_eq_true]
  constructor
  · rintro ⟨x, hx, e⟩
    rw [nm_inj.1 (of_decide_eq_true e)]
    exact hx
  intro h
  exact ⟨s,h,decide_eq_true rfl⟩
def SmP (v:Vec):Prop:= ∀c:Comp, -2199023255552≤c.of v∧c.of v≤2199023255552
theorem MayP.sm {v:Vec} (h:MayP v):SmP v:=fun c=>by have:=h c;omega
theorem mvSub_eq {v u:Vec} (hv:MayP v) (hu:MayP u):mvSub v u=vsub u v:=by
 have a0:=hv .cpu;have a1:=hv .mem;have a2:=hv .pods
 have b0:=hu .cpu;have b1:=hu .mem;have b2:=hu .pods
 simp only [Comp.of] at a0 a1 a2 b0 b1 b2
 unfold mvSub vsub
 rw [w64 (by omega) (by omega),w64 (by omega) (by omega),w64 (by omega) (by omega)]
theorem vsub_sm {v u:Vec} (hv:MayP v) (hu:MayP u):SmP (vsub u v):=fun c=>by
 have a:=hv c;have b:=hu c
 rw [of_vsub];omega
theorem mvAdd_eq {v u:Vec} (hv:MayP v) (hu:SmP u):mvAdd v u=vadd u v:=by
 have a0:=hv .cpu;have a1:=hv .mem;have a2:=hv .pods
 have b0:=hu .cpu;have b1:=hu .mem;have b2:=hu .pods
 simp only [Comp.of] at a0 a1 a2 b0 b1 b2
 unfold mvAdd vec_Add.f
 simp only [vecByF,Option.getD_some]
 unfold vadd
 rw [w64 (n:=0+u.f0) (by omega) (by omega),w64 (n:=0+u.f1) (by omega) (by omega),w64 (n:=0+u.f2) (by omega) (by omega),w64 (by omega) (by omega),w64 (by omega) (by omega),w64 (by omega) (by omega)]
 simp
def mvS (fs ts:List ByteArray) (v:Vec) (z:Item):Vec:=if z.f0∈ts then vadd (if z.f0∈fs then vsub z.f4 v else z.f4) v else if z.f0∈fs then vsub z.f4 v else z.f4
def movG (n p:ByteArray) (fs ts:List ByteArray) (v:Vec) (z:Item):Item:=⟨z.f0,if z.f0=n then p else z.f1,z.f2,z.f3,mvS fs ts v z,if z.f0=n then z.f5+1 else z.f5⟩
def movL (l:List Item) (n p:ByteArray) (x:Item):List Item:=l.map (movG n p (up l x.f1) (up l p) x.f4)
def movB (l:List Item) (x:Item) (p:ByteArray):Bool:=(up l p).all fun s=>hasStr (up l x.f1) s||match look l s with
 |none=>false
 |some y=>decide (LeP (vadd y.f4 x.f4) y.f2)
def movR (l:List Item) (n p:ByteArray) (ver:Int):List Item×Int:=
 if oldR l n ver≠0 then ([],oldR l n ver) else if p≠⟨#[]⟩∧(look l p).isNone=true then ([],2) else if n∈up l p then ([],10) else match look l n with
  |none=>([],2)
  |some x=>if 9007199254740992≤x.f5 then ([],4) else if movB l x p=true then (movL l n p x,0) else ([],12)
theorem mv_in {l:List Item} (hl:RightP l) {m s:ByteArray} (h:s∈up l m): ∃x,look l s=some x:=(hl.chainAll m).mem_look h
theorem not_own_way {l:List Item} (hl:RightP l) {n:ByteArray} {x:Item} (hx:look l n=some x):n ∉ up l x.f1:=by
 have h:=(Chain.cons hx (hl.chainAll x.f1)).nodup
 rw [List.nodup_cons] at h
 exact h.1
theorem way_len {l:List Item} (hl:RightP l) (m:ByteArray):(up l m).length<1000000:=by
 have:=up_len l m
 have:=hl.len
 omega
theorem fits_ev {l:List Item} (hl:RightP l) {x:Item} (hx:MayP x.f4) (fs:List ByteArray) (hf:fs.length<1000000): ∀us:List ByteArray,(∀s∈us,∃y,look l s=some y)→Ev (fun k=>fitsF k l fs x.f4 us) (us.all fun s=>hasStr fs s||match look l s with
  |none=>false
  |some y=>decide (LeP (vadd y.f4 x.f4) y.f2))
  |[],_=>Ev.now _
  | s :: us, hin => by
    obtain ⟨y,hy⟩:=hin s (List.mem_cons_self ..)
    have j0:=fnd_ge.2 ⟨y,hy⟩
    have j1:=fnd_lt l s
    have ih:=fits_ev hl hx fs hf us (fun t ht=>hin t (List.mem_cons_of_mem _ ht))
    have hya:=mvAdd_eq hx (hl.ok y (look_mem hy).1).sub.sm
    unfold fitsF
    simp only [tree_Find_eq,Option.bind_some,eq_true j0,eq_true j1,true_and,if_true,fnd_rd hy,hya]
    refine Ev.bind (contains_ev fs s hf) ?_
    rw [List.all_cons,hy]
    cases hasStr fs s with
    | true =>
      simp only [if_true,Bool.true_or,Bool.true_and]
      exact ih
    | false =>
      simp only [Bool.false_or,sh_Le_eq,Option.bind_some]
      by_cases hle:LeP (vadd y.f4 x.f4) y.f2
      · rw [decide_eq_true (show LeP ⟨(vadd y.f4 x.f4).f0, (vadd y.f4 x.f4).f1, (vadd y.f4 x.f4).f2⟩ ⟨y.f2.f0, y.f2.f1, y.f2.f2⟩ from hle), Bool.true_and]
        simp only [Bool.false_eq_true,if_false,if_true]
        exact ih
      rw [decide_eq_false (show¬LeP ⟨(vadd y.f4 x.f4).f0,(vadd y.f4 x.f4).f1,(vadd y.f4 x.f4).f2⟩ ⟨y.f2.f0,y.f2.f1,y.f2.f2⟩ from hle),Bool.false_and]
      simp only [Bool.false_eq_true,if_false]
      exact Ev.now _
theorem set_one {l:List Item} (hn:(l.map (·.f0)).Nodup) {n:ByteArray} {x:Item} (h:look l n=some x) {f:Item→Item} {y:Item} (hy:y=f x):l.set (fnd l n).toNat y=l.map (updF [n] f):=by
 rw [hy]
 exact set_upd hn h f
theorem mov_prog {l:List Item} (hl:RightP l) {n p:ByteArray} {x:Item} (hx:look l n=some x) (hnt:n ∉ up l p):
    let l4:=((l.set (fnd l n).toNat (⟨x.f0,x.f1,x.f2,x.f3,x.f4,x.f5+1⟩:Item)).map (updF (up l x.f1) (shSub (mvSub x.f4)))).map (updF (up l p) (shSub (mvAdd x.f4)))
    l4.set (fnd l n).toNat (parF p (rd_T31 l4 (fnd l n)))=movL l n p x:=by
  intro l4
  obtain ⟨hxm,hxn⟩:=look_mem hx
  have hxs:=(hl.ok x hxm).sub
  have hnf:=not_own_way hl hx
  have hver: ∀z:Item,(⟨z.f0,z.f1,z.f2,z.f3,z.f4,z.f5+1⟩:Item).f0=z.f0:=fun _=>rfl
  have e2:l.set (fnd l n).toNat (⟨x.f0,x.f1,x.f2,x.f3,x.f4,x.f5+1⟩:Item)=l.map (updF [n] fun z=>⟨z.f0,z.f1,z.f2,z.f3,z.f4,z.f5+1⟩):=set_one (f:=fun z=>⟨z.f0,z.f1,z.f2,z.f3,z.f4,z.f5+1⟩) hl.nodup hx rfl
  have e4:l4=l.map fun z=>updF (up l p) (shSub (mvAdd x.f4)) (updF (up l x.f1) (shSub (mvSub x.f4)) (updF [n] (fun z=>⟨z.f0,z.f1,z.f2,z.f3,z.f4,z.f5+1⟩) z)):=by
    show ((l.set _ _).map _).map _=_
    rw [e2,List.map_map,List.map_map]
    rfl
  have hname: ∀z:Item,(updF (up l p) (shSub (mvAdd x.f4)) (updF (up l x.f1) (shSub (mvSub x.f4)) (updF [n] (fun z=>⟨z.f0,z.f1,z.f2,z.f3,z.f4,z.f5+1⟩) z))).f0=z.f0:=fun z=>by
    rw [updF_name (shSub_name _),updF_name (shSub_name _),updF_name hver]
  have hn4:(l4.map (·.f0)).Nodup:=by
    rw [e4,List.map_map]
    rw [show ((fun x:Item=>x.f0) ∘ fun z=>updF (up l p) (shSub (mvAdd x.f4)) (updF (up l x.f1) (shSub (mvSub x.f4)) (updF [n] (fun z=>⟨z.f0,z.f1,z.f2,z.f3,z.f4,z.f5+1⟩) z)))=(fun x=>x.f0) from funext hname]
    exact hl.nodup
  have hlk:=look_map hname l n
  rw [hx,←e4] at hlk
  have hf4:fnd l4 n=fnd l n:=by rw [e4];exact fnd_map hname l n
  rw [←hf4,fnd_rd hlk,set_upd hn4 hlk (parF p),e4,List.map_map]
  unfold movL
  refine List.map_congr_left fun z hz=> ?_
  have hzs:=(hl.ok z hz).sub
  simp only [Function.comp]
  by_cases e:z.f0=n
  · have q1 : z.f0 ∉ up l x.f1 := by rw [e]; exact hnf
    have q2:z.f0 ∉ up l p:=by rw [e];exact hnt
    simp [updF,movG,mvS,parF,e,hnf,hnt]
  have ev:mvSub x.f4 z.f4=vsub z.f4 x.f4:=mvSub_eq hxs hzs
  have ea:mvAdd x.f4 z.f4=vadd z.f4 x.f4:=mvAdd_eq hxs hzs.sm
  have ea2:mvAdd x.f4 (vsub z.f4 x.f4)=vadd (vsub z.f4 x.f4) x.f4:=mvAdd_eq hxs (vsub_sm hxs hzs)
  by_cases q1:z.f0∈up l x.f1<;>by_cases q2:z.f0∈up l p<;>simp [updF,movG,mvS,shSub,e,q1,q2,ev,ea,ea2]
end Go.Proofs.Ytcgefpklljclgaa.Print

namespace Go.Proofs.Ytcgefpklljclgaa.Print
open Go.RowKit Go.Proofs.YtcgefpklljclgaaW.PrintWords Go.Proofs.YtcgefpklljclgaaW.PrintLast Go.Proofs.YtcgefpklljclgaaW.PrintMore
attribute [local go_sem] max2_int min2_int max_two min_two max_three min_three max_four min_four

end Go.Proofs.Ytcgefpklljclgaa.Print

namespace Go.Proofs.Ytcgefpklljclgaa.Print
open Go.RowKit Go.Proofs.YtcgefpklljclgaaW.PrintWords Go.Proofs.YtcgefpklljclgaaW.PrintLast Go.Proofs.YtcgefpklljclgaaW.PrintMore
theorem movR_eq {l:List Item} {n p:ByteArray} {ver:Int} {x:Item} (h2:oldR l n ver=0) (hx:look l n=some x) (h3: ¬(p≠⟨#[]⟩∧(look l p).isNone=true)) (h4:n ∉ up l p):movR l n p ver=if 9007199254740992≤x.f5 then ([],4) else if movB l x p=true then (movL l n p x,0) else ([],12):=by
 unfold movR
 rw [if_neg (by simpa using h2),if_neg h3,if_neg h4]
 simp only [hx]
theorem hasStr_false {l:List ByteArray} {s:ByteArray} (h:s ∉ l):hasStr l s=false:=by
 cases q:hasStr l s with
 |false=>rfl
 |true=>exact absurd (hasStr_iff.1 q) h
theorem shape_Move_ev {l:List Item} (hl:RightP l) (n p:ByteArray) (ver:Int):Ev (fun k=>shape_Move.f k l n p ver) (movR l n p ver):=by
  have hlen:=hl.len
  unfold shape_Move.f
  rw [shape_made_eq l n (by omega)]
  simp only [Option.bind_some,guardF_eq]
  by_cases h2:oldR l n ver=0
  rotate_left
  · unfold movR
    simp only [h2,ne_eq,not_false_eq_true,if_true]
    exact Ev.now _
  obtain ⟨x,hx,_⟩:=oldR_zero h2
  have hxm:=(look_mem hx).1
  simp only [h2,ne_eq,not_true_eq_false,if_false]
  refine Ev.bind (tree_Up_ev l p (by omega)) ?_
  simp only [shape_parent_eq,Option.bind_some]
  by_cases h3:p≠⟨#[]⟩∧(look l p).isNone=true
  · unfold movR
    rw [if_neg (by simpa using h2),if_pos h3]
    exact Ev.congr (fun k=>if_pos (by simpa using h3)) (Ev.now _)
  refine Ev.congr (fun k=>if_neg (by simpa using h3)) ?_
  refine Ev.bind (contains_ev _ _ (way_len hl p)) ?_
  by_cases h4:n∈up l p
  · unfold movR
    rw [if_neg (by simpa using h2),if_neg h3,if_pos h4,hasStr_iff.2 h4]
    exact Ev.congr (fun k=>if_pos rfl) (Ev.now _)
  rw [movR_eq h2 hx h3 h4,hasStr_false h4]
  refine Ev.congr (fun k=>if_neg (by simp)) ?_
  rw [olderF_eq hl hx]
  by_cases h5:9007199254740992≤x.f5
  · simp only [h5, if_true, Option.bind_some]
    exact Ev.congr (fun k=>if_pos (by simp)) (Ev.now _)
  simp only [h5,if_false,Option.bind_some]
  refine Ev.congr (fun k=>if_neg (by simp)) ?_
  have j0:=fnd_ge.2 ⟨x,hx⟩
  have j1:=fnd_lt l n
  simp only [rd_set j0 j1]
  refine Ev.bind (tree_Up_ev l x.f1 (by omega)) ?_
  have hf:Ev (fun k=>fitsF k l (up l x.f1) x.f4 (up l p)) (movB l x p):=fits_ev hl (hl.ok x hxm).sub (up l x.f1) (way_len hl _) (up l p) (fun s hs=>mv_in hl hs)
  refine Ev.bind hf ?_
  cases movB l x p with
  |false=>exact Ev.congr (fun k=>if_pos rfl) (Ev.now _)
  | true =>
    refine Ev.congr (fun k=>if_neg (by simp)) ?_
    have hver: ∀z:Item,(⟨z.f0,z.f1,z.f2,z.f3,z.f4,z.f5+1⟩:Item).f0=z.f0:=fun _=>rfl
    have e2:l.set (fnd l n).toNat (⟨x.f0,x.f1,x.f2,x.f3,x.f4,x.f5+1⟩:Item)=l.map (updF [n] fun z=>⟨z.f0,z.f1,z.f2,z.f3,z.f4,z.f5+1⟩):=set_one (f:=fun z=>⟨z.f0,z.f1,z.f2,z.f3,z.f4,z.f5+1⟩) hl.nodup hx rfl
    have hn2:((l.set (fnd l n).toNat (⟨x.f0,x.f1,x.f2,x.f3,x.f4,x.f5+1⟩:Item)).map (·.f0)).Nodup:=by rw [e2];exact nodup_upd hver hl.nodup
    have hs1:=shiftF_eq (mvSub x.f4) (up l x.f1) _ hn2 (hl.chainAll _).nodup (fun s hs=>by
      obtain ⟨y,hy⟩:=mv_in hl hs
      exact ⟨_,by rw [e2,look_upd hver,hy];rfl⟩)
    have hs2:=shiftF_eq (mvAdd x.f4) (up l p) _ (nodup_upd (shSub_name (mvSub x.f4)) hn2) (hl.chainAll _).nodup (fun s hs=>by
      obtain ⟨y,hy⟩:=mv_in hl hs
      exact ⟨_,by rw [look_upd (us:=up l x.f1) (shSub_name (mvSub x.f4)),e2,look_upd (us:=[n]) hver,hy];rfl⟩)
    simp only [if_true]
    refine Ev.const ?_
    rw [hs1]
    simp only [Option.bind_some]
    rw [hs2]
    simp only [Option.bind_some]
    exact congrArg (fun q=>some (q,(0:Int))) (mov_prog hl hx h4)
theorem sumBy_ge {g:Item→Int}: ∀{l:List Item},(∀x∈l,0≤g x)→ ∀{x:Item},x∈l→g x≤sumBy g l
  |[],_,_,h=>by cases h
  | y :: l, hn, x, hx => by
    rw [sumBy_cons]
    have h0:=hn y (by simp)
    have h1:=sumBy_nonneg (g:=g) (l:=l) (fun z hz=>hn z (by simp [hz]))
    rcases List.mem_cons.1 hx with rfl|hx
    · omega
    have:=sumBy_ge (g:=g) (l:=l) (fun z hz=>hn z (by simp [hz])) hx
    omega
theorem child_le {l:List Item} (hl:RightP l) {x y:Item} (hx:x∈l) (hy:look l x.f1=some y) (c:Comp):c.of x.f4≤c.of y.f4:=by
  obtain ⟨hy1,hy2⟩:=look_mem hy
  have h1:=hl.sum c y hy1
  have h2:=((hl.ok y hy1).own c).1
  have h3:c.of x.f4≤csum c l y.f0:=by
    have:=sumBy_ge (g:=fun z=>if z.f1=y.f0 then c.of z.f4 else 0) (l:=l) (fun z hz=>by
      show 0≤(if z.f1=y.f0 then c.of z.f4 else 0)
      split
      · exact ((hl.ok z hz).sub c).1
      omega) hx
    rw [if_pos hy2.symm] at this
    exact this
  omega
theorem sub_up' {l:List Item} (hl:RightP l) (c:Comp) {n:ByteArray} {us:List ByteArray} (h:Chain l n us): ∀{x:Item},look l n=some x→ ∀{z:Item},z∈l→z.f0∈us→c.of x.f4≤c.of z.f4:=by
  induction h with
  |nil h=>intro x _ z _ hz;cases hz
  | @cons n x us h k ih =>
    intro x' hx' z hz hm
    rw [h] at hx'
    obtain rfl:=Option.some.inj hx'
    obtain ⟨hx,hn⟩:=look_mem h
    rcases List.mem_cons.1 hm with e|hm
    · obtain rfl := hl.eq_of hz hx (e.trans hn.symm)
      omega
    cases k with
    |nil _=>cases hm
    | @cons _ y _ hy k =>
      have h1:=child_le hl hx hy c
      have h2:=ih hy hz hm
      omega
theorem sub_up {l:List Item} (hl:RightP l) {x z:Item} (hx:x∈l) (hz:z∈l) (hm:z.f0∈up l x.f0) (c:Comp):c.of x.f4≤c.of z.f4:=sub_up' hl c (hl.chainAll x.f0) (hl.look hx) hz hm
theorem of_mvS (c:Comp) (fs ts:List ByteArray) (v:Vec) (z:Item):c.of (mvS fs ts v z)=c.of z.f4 - (if z.f0∈fs then c.of v else 0)+(if z.f0∈ts then c.of v else 0):=by
 unfold mvS
 by_cases h1:z.f0∈ts<;>by_cases h2:z.f0∈fs<;>simp only [h1,h2,if_true,if_false,of_vadd,of_vsub]<;>omega
theorem movB_fits {l:List Item} {x:Item} {p:ByteArray} (h:movB l x p=true): ∀z,look l z.f0=some z→z.f0∈up l p→z.f0∈up l x.f1∨LeP (vadd z.f4 x.f4) z.f2:=by
  intro z hz hm
  have:=List.all_eq_true.1 h z.f0 hm
  rw [hz,Bool.or_eq_true] at this
  rcases this with h|h
  · exact .inl (hasStr_iff.1 h)
  exact .inr (of_decide_eq_true h)
theorem mov_right {l:List Item} (hl:RightP l) {n p:ByteArray} {x:Item} (hx:look l n=some x) (hp:p=⟨#[]⟩∨ ∃y,look l p=some y) (hnt:n ∉ up l p) (h5: ¬9007199254740992≤x.f5) (hb:movB l x p=true):RightP (movL l n p x):=by
  obtain ⟨hxm,hxn⟩:=look_mem hx
  have hxs:=(hl.ok x hxm).sub
  have hnf:=not_own_way hl hx
  have heq: ∀z∈l,z.f0=n→z=x:=fun z hz e=>hl.eq_of hz hxm (e.trans hxn.symm)
  have hfits:=movB_fits hb
  have hge: ∀c:Comp,∀z∈l,z.f0∈up l x.f1→c.of x.f4≤c.of z.f4:=fun c z hz hm=>sub_up hl hxm hz (by rw [up_cons hl hxm];exact List.mem_cons_of_mem _ hm) c
  have hname: ∀z,(movG n p (up l x.f1) (up l p) x.f4 z).f0=z.f0:=fun _=>rfl
  have hfit: ∀c:Comp,∀z∈l,0≤c.of (mvS (up l x.f1) (up l p) x.f4 z)∧c.of (mvS (up l x.f1) (up l p) x.f4 z)≤c.of z.f2:=fun c z hz=>by
    have k:=hl.ok z hz
    have a:=k.sub c;have b:=k.fit c;have d:=hxs c
    rw [of_mvS]
    by_cases h1:z.f0∈up l x.f1
    · have e := hge c z hz h1
      by_cases h2:z.f0∈up l p
      · rw [if_pos h1,if_pos h2];omega
      rw [if_pos h1,if_neg h2];omega
    by_cases h2:z.f0∈up l p
    rotate_left
    · rw [if_neg h1,if_neg h2];omega
    rw [if_neg h1,if_pos h2]
    rcases hfits z (hl.look hz) h2 with q|q
    · exact absurd q h1
    have:=q c
    rw [of_vadd] at this
    omega
  refine ⟨?_, ?_, ?_, ?_, ?_, ?_⟩
  · unfold movL;rw [List.length_map];exact hl.len
  · intro y hy
    obtain ⟨z,hz,rfl⟩:=List.mem_map.1 hy
    have k:=hl.ok z hz
    refine ⟨k.name,k.size,k.lim,k.own,fun c=> ?_,fun c=>(hfit c z hz).2, ?_⟩
    · have a := hfit c z hz; have b := (k.lim c).2
      exact ⟨a.1,Int.le_trans a.2 b⟩
    have:=k.ver
    show 1≤(if z.f0=n then z.f5+1 else z.f5)∧(if z.f0=n then z.f5+1 else z.f5)≤9007199254740992
    by_cases e:z.f0=n
    rotate_left
    · rw [if_neg e];exact this
    rw [if_pos e]
    have h6:=heq z hz e
    subst h6
    omega
  · unfold movL
    rw [List.pairwise_map]
    exact hl.sorted
  · intro y hy
    obtain ⟨z,hz,rfl⟩:=List.mem_map.1 hy
    have hlk: ∀m,look (movL l n p x) m=(look l m).map (movG n p (up l x.f1) (up l p) x.f4):=fun m=>look_map hname l m
    show (if z.f0=n then p else z.f1)=⟨#[]⟩∨ ∃y,look (movL l n p x) (if z.f0=n then p else z.f1)=some y
    by_cases e:z.f0=n
    · rw [if_pos e]
      rcases hp with h|⟨y,h⟩
      · exact .inl h
      exact .inr ⟨_,by rw [hlk,h];rfl⟩
    rw [if_neg e]
    rcases hl.par z hz with h|⟨y,h⟩
    · exact .inl h
    exact .inr ⟨_,by rw [hlk,h];rfl⟩
  rotate_left
  · intro y hy
    obtain ⟨z,hz,rfl⟩:=List.mem_map.1 hy
    show∃us,Chain (movL l n p x) z.f0 us
    have hlk: ∀m,look (movL l n p x) m=(look l m).map (movG n p (up l x.f1) (up l p) x.f4):=fun m=>look_map hname l m
    have apart: ∀{m:ByteArray} {us:List ByteArray},Chain l m us→n ∉ us→Chain (movL l n p x) m us:=by
      intro m us h
      induction h with
      |nil q=>intro _;exact Chain.nil (by rw [hlk,q];rfl)
      | @cons m y us q _ ih =>
        intro hn
        rw [List.mem_cons,not_or] at hn
        have hy:=ih hn.2
        have hyn:=(look_mem q).2
        refine Chain.cons (x:=movG n p (up l x.f1) (up l p) x.f4 y) (by rw [hlk,q];rfl) ?_
        show Chain _ (if y.f0=n then p else y.f1) us
        rw [if_neg (by rw [hyn];exact fun e=>hn.1 e.symm)]
        exact hy
    have hown:Chain (movL l n p x) n (n::up l p):=by
      refine Chain.cons (x:=movG n p (up l x.f1) (up l p) x.f4 x) (by rw [hlk,hx];rfl) ?_
      show Chain _ (if x.f0=n then p else x.f1) _
      rw [if_pos hxn]
      exact apart (hl.chainAll p) hnt
    have all: ∀{m:ByteArray} {us:List ByteArray},Chain l m us→ ∃us',Chain (movL l n p x) m us':=by
      intro m us h
      induction h with
      |nil q=>exact ⟨_,Chain.nil (by rw [hlk,q];rfl)⟩
      | @cons m y us q _ ih =>
        have hyn:=(look_mem q).2
        by_cases e:y.f0=n
        · rw [← hyn, e]
          exact ⟨_,hown⟩
        obtain ⟨us',h'⟩:=ih
        refine ⟨m::us',Chain.cons (us:=us') (x:=movG n p (up l x.f1) (up l p) x.f4 y) (by rw [hlk,q];rfl) ?_⟩
        show Chain _ (if y.f0=n then p else y.f1) _
        rw [if_neg e]
        exact h'
    exact all (hl.chainAll z.f0)
  intro c y hy
  obtain ⟨z,hz,rfl⟩:=List.mem_map.1 hy
  show c.of (mvS (up l x.f1) (up l p) x.f4 z)=c.of z.f3+csum c (movL l n p x) z.f0
  have k1:=chain_kids hl (hl.chainAll x.f1) (c.of x.f4) hz
  have k2:=chain_kids hl (hl.chainAll p) (c.of x.f4) hz
  have hone: ∀v:Int,sumBy (fun y=>if y.f0=n then v else 0) l=v:=fun v=>by
    have:=sumBy_one (v:=v) hl.nodup hxm
    rw [hxn] at this
    exact this
  have hcs:csum c (movL l n p x) z.f0=csum c l z.f0 - sumBy (fun y=>if y.f1=z.f0∧y.f0∈up l x.f1 then c.of x.f4 else 0) l+sumBy (fun y=>if y.f1=z.f0∧y.f0∈up l p then c.of x.f4 else 0) l - sumBy (fun y=>if y.f0=n then (if x.f1=z.f0 then c.of x.f4 else 0) else 0) l+sumBy (fun y=>if y.f0=n then (if p=z.f0 then c.of x.f4 else 0) else 0) l:=by
    unfold csum movL
    rw [sumBy_map,←sumBy_sub,←sumBy_add,←sumBy_sub,←sumBy_add]
    refine sumBy_congr fun y hy=> ?_
    show (if (if y.f0=n then p else y.f1)=z.f0 then c.of (mvS (up l x.f1) (up l p) x.f4 y) else 0)=_
    rw [of_mvS]
    by_cases e:y.f0=n
    · have h6 := heq y hy e
      subst h6
      have q1:y.f0 ∉ up l y.f1:=by rw [e];exact hnf
      have q2:y.f0 ∉ up l p:=by rw [e];exact hnt
      simp only [e,if_true,hnf,hnt,if_false,and_false]
      by_cases a1:y.f1=z.f0<;>by_cases a2:p=z.f0<;>simp only [a1,a2,if_true,if_false]<;>omega
    simp only [e,if_false]
    by_cases a1:y.f1=z.f0
    · by_cases a2:y.f0∈up l x.f1<;>by_cases a3:y.f0∈up l p<;>simp only [a1,a2,a3,true_and,if_true,if_false]<;>omega
    simp only [a1,false_and,if_false]
    omega
  rw [hcs,hone,hone,k1,k2,of_mvS]
  have hs:=hl.sum c z hz
  have m1:z.f0=x.f1→z.f0∈up l x.f1:=fun e=>by rw [←e];exact up_self (hl.look hz)
  have m2:z.f0=p→z.f0∈up l p:=fun e=>by rw [←e];exact up_self (hl.look hz)
  have t1:(if z.f0∈up l x.f1∧z.f0≠x.f1 then c.of x.f4 else 0)+(if x.f1=z.f0 then c.of x.f4 else 0)=if z.f0∈up l x.f1 then c.of x.f4 else 0:=by
    by_cases e:z.f0=x.f1
    · rw [if_neg (fun h=>h.2 e),if_pos e.symm,if_pos (m1 e)];omega
    have e': ¬x.f1=z.f0:=fun q=>e q.symm
    by_cases q:z.f0∈up l x.f1<;>simp [e,e',q]
  have t2:(if z.f0∈up l p∧z.f0≠p then c.of x.f4 else 0)+(if p=z.f0 then c.of x.f4 else 0)=if z.f0∈up l p then c.of x.f4 else 0:=by
    by_cases e:z.f0=p
    · rw [if_neg (fun h=>h.2 e),if_pos e.symm,if_pos (m2 e)];omega
    have e': ¬p=z.f0:=fun q=>e q.symm
    by_cases q:z.f0∈up l p<;>simp [e,e',q]
  omega
end Go.Proofs.Ytcgefpklljclgaa.Print

namespace Go.Proofs.Ytcgefpklljclgaa.Print
open Go.RowKit Go.Proofs.YtcgefpklljclgaaW.PrintWords Go.Proofs.YtcgefpklljclgaaW.PrintLast Go.Proofs.YtcgefpklljclgaaW.PrintMore
attribute [local go_sem] max2_int min2_int max_two min_two max_three min_three max_four min_four

attribute [local go_sem high] eqA31
end Go.Proofs.Ytcgefpklljclgaa.Print

namespace Go.Proofs.Ytcgefpklljclgaa.Print
open Go.RowKit Go.Proofs.YtcgefpklljclgaaW.PrintWords Go.Proofs.YtcgefpklljclgaaW.PrintLast Go.Proofs.YtcgefpklljclgaaW.PrintMore
theorem ss_num (e:Int):law1_Num.f e=some e:=rfl
theorem ss_awake:law15_awake.f=some true:=by kernel_rfl
theorem ss_awake_ev:Ev (fun _=>law15_awake.f.bind fun t=>some t) true:=Ev.const (by rw [ss_awake];rfl)
theorem mb_look {l:List Item} {n p:ByteArray} {x:Item} (m:ByteArray):look (movL l n p x) m=(look l m).map (movG n p (up l x.f1) (up l p) x.f4):=by
 unfold movL
 exact look_map (f:=movG n p (up l x.f1) (up l p) x.f4) (fun z=>rfl) l m
theorem mb_chain {l:List Item} {n p:ByteArray} {x:Item} {q:ByteArray} {us:List ByteArray} (h:Chain l q us):n ∉ us→Chain (movL l n p x) q us:=by
  induction h with
  |nil h=>exact fun _=> .nil (by rw [mb_look,h];rfl)
  | @cons q z us h hc ih =>
    intro hn
    have hq:z.f0=q:=(look_mem h).2
    have hne:z.f0≠n:=by rw [hq];exact fun e=>hn (by simp [e])
    refine .cons (x:=movG n p (up l x.f1) (up l p) x.f4 z) (by rw [mb_look,h];rfl) ?_
    have e:(movG n p (up l x.f1) (up l p) x.f4 z).f1=z.f1:=by unfold movG;exact if_neg hne
    rw [e]
    exact ih (fun q=>hn (by simp [q]))
def verU (n:ByteArray) (z:Item):Item:=⟨z.f0,z.f1,z.f2,z.f3,z.f4,if z.f0=n then z.f5+2 else z.f5⟩
theorem mb_back {l:List Item} (hl:RightP l) {n p:ByteArray} {x:Item} (hx:look l n=some x) (hnt:n ∉ up l p) (h5:x.f5=1):movR (movL l n p x) n x.f1 (x.f5+1)=(l.map (verU n),0):=by
  have hn:=(look_mem hx).2
  have hxm:=(look_mem hx).1
  have hnf:=not_own_way hl hx
  obtain ⟨x',ex'⟩: ∃y,y=movG n p (up l x.f1) (up l p) x.f4 x:=⟨_,rfl⟩
  have hx':look (movL l n p x) n=some x':=by rw [mb_look,hx,ex'];rfl
  have e1:x'.f1=p:=by rw [ex'];unfold movG;exact if_pos hn
  have e4:x'.f4=x.f4:=by rw [ex'];unfold movG mvS;dsimp only;rw [hn,if_neg hnt,if_neg hnf]
  have e5:x'.f5=x.f5+1:=by rw [ex'];unfold movG;exact if_pos hn
  have u1:up (movL l n p x) x.f1=up l x.f1:=(mb_chain (hl.chainAll x.f1) hnf).up
  have u2:up (movL l n p x) x'.f1=up l p:=by rw [e1];exact (mb_chain (hl.chainAll p) hnt).up
  have a2:oldR (movL l n p x) n (x.f5+1)=0:=by rw [oldR_some hx',if_neg (by rw [e5];simp)]
  have a3: ¬(x.f1≠⟨#[]⟩∧(look (movL l n p x) x.f1).isNone=true):=by
    rintro ⟨q1,q2⟩
    rcases hl.par x hxm with h|⟨y,hy⟩
    · exact q1 h
    rw [mb_look,hy] at q2;cases q2
  have a4:n ∉ up (movL l n p x) x.f1:=by rw [u1];exact hnf
  rw [movR_eq a2 hx' a3 a4,if_neg (by rw [e5,h5];decide)]
  have a6:movB (movL l n p x) x' x.f1=true:=by
    unfold movB
    rw [u1,u2]
    refine List.all_eq_true.2 fun s hs=> ?_
    rw [Bool.or_eq_true]
    by_cases ht:s∈up l p
    · exact .inl (hasStr_iff.2 ht)
    right
    obtain ⟨z,hz⟩:=mv_in hl hs
    have hzn:=(look_mem hz).2
    have hzm:=(look_mem hz).1
    rw [mb_look,hz]
    show decide (LeP (vadd (movG n p (up l x.f1) (up l p) x.f4 z).f4 x'.f4) z.f2)=true
    rw [decide_eq_true_iff]
    intro c
    have:=(hl.ok z hzm).fit c
    rw [of_vadd,e4]
    show c.of (mvS (up l x.f1) (up l p) x.f4 z)+c.of x.f4≤c.of z.f2
    rw [of_mvS,hzn,if_pos hs,if_neg ht]
    omega
  rw [if_pos a6]
  unfold movL at u1 u2 ⊢
  rw [u1,u2,List.map_map]
  congr 1
  refine List.map_congr_left fun z hz=> ?_
  show movG n x.f1 (up l p) (up l x.f1) x'.f4 (movG n p (up l x.f1) (up l p) x.f4 z)=verU n z
  rw [e4]
  have s4:mvS (up l p) (up l x.f1) x.f4 (movG n p (up l x.f1) (up l p) x.f4 z)=z.f4:=vec_ext fun c=>by
    rw [of_mvS]
    show c.of (mvS (up l x.f1) (up l p) x.f4 z) - (if z.f0∈up l p then c.of x.f4 else 0)+(if z.f0∈up l x.f1 then c.of x.f4 else 0)=c.of z.f4
    rw [of_mvS]
    omega
  unfold verU
  show (⟨z.f0,if z.f0=n then x.f1 else (if z.f0=n then p else z.f1),z.f2,z.f3,mvS (up l p) (up l x.f1) x.f4 (movG n p (up l x.f1) (up l p) x.f4 z),if z.f0=n then (if z.f0=n then z.f5+1 else z.f5)+1 else (if z.f0=n then z.f5+1 else z.f5)⟩:Item)=_
  rw [s4]
  by_cases e:z.f0=n
  rotate_left
  · simp only [if_neg e]
  have:z=x:=hl.eq_of hz hxm (by rw [e,hn])
  subst this
  simp only [if_pos e]
  congr 1
  omega
theorem mb_stale {l:List Item} (hl:RightP l) {n p:ByteArray} {x:Item} (hx:look l n=some x) (h5:x.f5=1):(movR (movL l n p x) n x.f1 x.f5).2=14:=by
 have hn:=(look_mem hx).2
 have hx':look (movL l n p x) n=some (movG n p (up l x.f1) (up l p) x.f4 x):=by rw [mb_look,hx];rfl
 have e5:(movG n p (up l x.f1) (up l p) x.f4 x).f5=x.f5+1:=by unfold movG;exact if_pos hn
 have a2:oldR (movL l n p x) n x.f5=14:=by rw [oldR_some hx',if_pos (by rw [e5,h5];decide)]
 unfold movR
 rw [a2,if_pos (by decide)]
theorem mb_l1 {l:List Item} (hl:l.length≤24) (hv: ∀z∈l,z.f5=1) (x:Item): ∀(d i:Nat),l.length - i=d→i≤l.length→Ev (fun k=>law15_ShapeMoves.l1 k l (l.map (verU x.f0)) (i:Int) x.f0 x.f1 x.f2.f0 x.f2.f1 x.f2.f2 x.f3.f0 x.f3.f1 x.f3.f2 x.f4.f0 x.f4.f1 x.f4.f2 x.f5) true
  | 0, i, hd, hi => by
    refine Ev.step (fun k=>law15_ShapeMoves.l1.eq_2 (k:=k) ..) (Ev.congr (fun k=>if_neg (by rw [List.length_map];omega)) ss_awake_ev)
  | d + 1, i, hd, hi => by
    have hlt:i<l.length:=by omega
    have hlm:i<(l.map (verU x.f0)).length:=by rw [List.length_map];exact hlt
    have e3:wrap64 ((i:Int)+1)=((i+1:Nat):Int):=by rw [w64 (by omega) (by omega)];rfl
    have rdl: ∀(L:List Item) (h:i<L.length),rd_T31 L (i:Int)=L[i]:=fun L h=>by rw [rd_item,Int.toNat_natCast,List.getD_eq_getElem?_getD,List.getElem?_eq_getElem h,Option.getD_some]
    have e2:wrap64 (l[i].f5+2)=l[i].f5+2:=by rw [hv l[i] (List.getElem_mem hlt)];exact w64 (by decide) (by decide)
    refine Ev.step (fun k=>law15_ShapeMoves.l1.eq_2 (k:=k) ..) ?_
    rw [e3,rdl l hlt,rdl _ hlm,List.getElem_map,e2]
    refine Ev.congr (fun k=>by rw [if_pos (by rw [List.length_map];omega),if_pos (by omega),if_pos (by omega)]) ?_
    have next:=mb_l1 hl hv x d (i+1) (by omega) (by omega)
    by_cases q:l[i].f0.toList=x.f0.toList
    · refine Ev.congr (fun k=>by rw [if_pos q,if_neg (by unfold verU;simp [nm_inj.1 q])]) next
    have q2:l[i].f0≠x.f0:=fun e=>q (by rw [e])
    refine Ev.congr (fun k=>by rw [if_neg q,if_neg (by unfold verU;simp [q2])]) next
theorem mb_j0 {l:List Item} (hM:MadeP l) {x:Item} (hx:look l x.f0=some x) (p:ByteArray) (hp:p=⟨#[]⟩∨ ∃y,look l p=some y):Ev (fun k=>law15_ShapeMoves.j0 k l p x.f0 x.f1 x.f2.f0 x.f2.f1 x.f2.f2 x.f3.f0 x.f3.f1 x.f3.f2 x.f4.f0 x.f4.f1 x.f4.f2 x.f5) true:=by
  have hl:=hM.right
  have hlen:=hM.len
  have hxm:=(look_mem hx).1
  have h5:=hM.ver x hxm
  have a2:oldR l x.f0 x.f5=0:=by rw [oldR_some hx,if_neg (by simp)]
  have a3: ¬(p≠⟨#[]⟩∧(look l p).isNone=true):=by
    rintro ⟨q1,q2⟩
    rcases hp with h|⟨y,hy⟩
    · exact q1 h
    rw [hy] at q2;cases q2
  -- behind the loop
  have fin: ∀(u:Bool) (j:Int),j<0→u=decide (x.f0∈up l p)→Ev (fun k=>law15_ShapeMoves.l0 k l p u j x.f0 x.f1 x.f2.f0 x.f2.f1 x.f2.f2 x.f3.f0 x.f3.f1 x.f3.f2 x.f4.f0 x.f4.f1 x.f4.f2 x.f5) true:=by
    intro u j hj hu
    refine Ev.step (fun k=>law15_ShapeMoves.l0.eq_2 (k:=k) ..) (Ev.congr (fun k=>if_neg (by omega)) (Ev.bind (shape_Move_ev hl x.f0 p x.f5) ?_))
    by_cases a4:x.f0∈up l p
    · have e : movR l x.f0 p x.f5 = ([], 10) := by unfold movR; rw [if_neg (by simpa using a2), if_neg a3, if_pos a4]
      rw [e]
      refine Ev.congr (fun k=>if_pos (by rw [hu];exact decide_eq_true a4)) ?_
      rw [ss_num]
      simp only [Option.bind_some,if_true]
      exact ss_awake_ev
    refine Ev.congr (fun k=>if_neg (by rw [hu];simp [a4])) ?_
    have e:movR l x.f0 p x.f5=if movB l x p=true then (movL l x.f0 p x,0) else ([],12):=by rw [movR_eq a2 hx a3 a4,if_neg (by rw [h5];decide)]
    by_cases a6:movB l x p=true
    rotate_left
    · rw [if_neg a6] at e
      rw [e,ss_num]
      simp only [Option.bind_some]
      refine Ev.congr (fun k=>by rw [if_neg (by decide)];simp) ss_awake_ev
    rw [if_pos a6] at e
    have hr:=mov_right hl hx hp a4 (by rw [h5];decide) a6
    have ew:wrap64 (x.f5+1)=x.f5+1:=by rw [h5];exact w64 (by decide) (by decide)
    have b1:=mb_back hl hx a4 h5
    have b2:=mb_stale (p:=p) hl hx h5
    have c1:=shape_Move_ev hr x.f0 x.f1 (x.f5+1)
    have c2:=shape_Move_ev hr x.f0 x.f1 x.f5
    rw [e,ew]
    rw [b1] at c1
    rw [ss_num]
    simp only [Option.bind_some,if_true]
    refine Ev.bind c1 (Ev.bind c2 ?_)
    rw [ss_num,ss_num]
    simp only [Option.bind_some,if_true]
    refine Ev.congr (fun k=>if_pos b2) (Ev.step (fun k=>law15_ShapeMoves.j2.eq_2 (k:=k) ..) (Ev.congr (fun k=>if_neg (by rw [List.length_map];simp)) ?_))
    exact mb_l1 hlen hM.ver x l.length 0 (by omega) (by omega)
  have walk: ∀{q:ByteArray} {us:List ByteArray},Chain l q us→ ∀u:Bool,(u||decide (x.f0∈us))=decide (x.f0∈up l p)→Ev (fun k=>law15_ShapeMoves.l0 k l p u (fnd l q) x.f0 x.f1 x.f2.f0 x.f2.f1 x.f2.f2 x.f3.f0 x.f3.f1 x.f3.f2 x.f4.f0 x.f4.f1 x.f4.f2 x.f5) true:=by
    intro q us hc
    induction hc with
    |nil h=>exact fun u hu=>fin u _ (fnd_neg.2 h) (by rw [←hu];simp)
    | @cons q z us h hc ih =>
      intro u hu
      have h0:=fnd_ge.2 ⟨z,h⟩
      have h1:=fnd_lt l q
      have hz:=(look_mem h).2
      refine Ev.step (fun k=>law15_ShapeMoves.l0.eq_2 (k:=k) ..) ?_
      rw [fnd_rd h]
      refine Ev.congr (fun k=>if_pos h0) ?_
      cases u with
      | true =>
        refine Ev.congr (fun k=>by rw [if_pos rfl,if_pos h0,if_pos h1]) (Ev.bind (r10_Find_ev l z.f1 (by omega)) ?_)
        exact ih true (by rw [←hu];simp)
      | false =>
        refine Ev.congr (fun k=>by rw [if_neg (by simp),if_pos h0,if_pos h1]) (Ev.bind (r10_Find_ev l z.f1 (by omega)) ?_)
        refine ih _ ?_
        rw [←hu,nm_beq,hz]
        by_cases e:q=x.f0
        · simp [e]
        have e2: ¬x.f0=q:=fun h=>e h.symm
        simp [e,e2]
  refine Ev.step (fun k=>law15_ShapeMoves.j0.eq_2 (k:=k) ..) (Ev.bind (r10_Find_ev l p (by omega)) ?_)
  exact walk (hl.chainAll p) false (by simp)
end Go.Proofs.Ytcgefpklljclgaa.Print
namespace Go.Proofs.Ytcgefpklljclgaa.Pure
open Go.RowKit Go.Proofs.Ytcgefpklljclgaa.Print Go.Proofs.YtcgefpklljclgaaW.PrintWords Go.Proofs.YtcgefpklljclgaaW.PrintLast
theorem ShapeMoves:law15_ShapeMoves.Pure:=by
  intro l0 a1 a2 _ _ hw h1 h2
  have b1:=u8_bd h1
  have b2:=u8_bd h2
  unfold law15_ShapeMoves.f
  by_cases h:(l0.length:Int)>90
  · exact Ev.rounds (Ev.congr (fun k=>if_pos h) ss_awake_ev)
  obtain ⟨l,hlev,hM⟩:=made_all (ns:=l0) (fun x hx=>u8_bd (hw x hx)) (by omega)
  have hlen:=hM.len
  refine Ev.rounds (Ev.congr (fun k=>if_neg h) (Ev.bind hlev ?_))
  by_cases hz:(l.length:Int)=0
  · exact Ev.congr (fun k=>if_pos hz) ss_awake_ev
  have e1:wrap64 a1=a1:=w64 (by omega) (by omega)
  have e2:wrap64 a2=a2:=w64 (by omega) (by omega)
  have e3:wrap64 ((l.length:Int)+1)=(l.length:Int)+1:=w64 (by omega) (by omega)
  rw [e1,e2,e3]
  have t1:=tmod_in (a:=a1) (b:=(l.length:Int)) b1.1 (by omega)
  have t2:=tmod_in (a:=a2) (b:=(l.length:Int)+1) b2.1 (by omega)
  have mem: ∀j:Int,0≤j→j<(l.length:Int)→Print.look l (rd_T31 l j).f0=some (rd_T31 l j):=fun j q0 q1=>by
    have hlt:j.toNat<l.length:=by omega
    have hrd:rd_T31 l j=l[j.toNat]:=by rw [rd_item,List.getD_eq_getElem?_getD,List.getElem?_eq_getElem hlt,Option.getD_some]
    rw [hrd]
    exact hM.right.look (List.getElem_mem hlt)
  have hx:=mem _ t1.1 t1.2
  refine Ev.congr (fun k=>by rw [if_neg hz,if_pos t1.1,if_pos t1.2,if_neg (by omega)]) ?_
  by_cases hq:Int.tmod a2 ((l.length:Int)+1)<(l.length:Int)
  · exact Ev.congr (fun k=>by rw [if_pos hq,if_pos t2.1]) (mb_j0 hM hx _ (.inr ⟨_,mem _ t2.1 hq⟩))
  exact Ev.congr (fun k=>if_neg hq) (mb_j0 hM hx _ (.inl rfl))
end Go.Proofs.Ytcgefpklljclgaa.Pure

namespace Go.Proofs.Ytcgefpklljclgaa.Head
def signs:List Char:=(List.map Char.ofNat [104,97,114,110,101,115,115,32,101,57,98,52,101,102,52,49,56,50,56,101,102,50,55,102,51,55,102,48,53,54,50,55,56,50,54,101,101,100,101,57,53,99,56,98,55,57,99,100,98,99,52,99,49,100,54,49,98,101,98,55,57,55,52,102,49,51,53,99,97,49,48,51,32,99,117,116,32,97,116,32,100,111,111,114,107,101,101,112,101,114,47,100,111,111,114,107,101,101,112,101,114,108,97,119,49,51,46,82,111,111,109,85,112,32,100,111,111,114,107,101,101,112,101,114,47,100,111,111,114,107,101,101,112,101,114,108,97,119,49,55,46,68,114,105,102,116,65,108,108,32,100,111,111,114,107,101,101,112,101,114,47,100,111,111,114,107,101,101,112,101,114,108,97,119,49,55,46,68,114,105,102,116,84,101,108,108,115,32,100,111,111,114,107,101,101,112,101,114,47,100,111,111,114,107,101,101,112,101,114,108,97,119,50,48,46,69,102,102,101,99,116,65,108,108,32,100,111,111,114,107,101,101,112,101,114,47,100,111,111,114,107,101,101,112,101,114,108,97,119,50,48,46,69,102,102,101,99,116,77,97,100,101,32,100,111,111,114,107,101,101,112,101,114,47,100,111,111,114,107,101,101,112,101,114,108,97,119,50,48,46,69,102,102,101,99,116,68,111,110,101,32,100,111,111,114,107,101,101,112,101,114,47,100,111,111,114,107,101,101,112,101,114,108,97,119,49,52,46,65,100,109,105,116,84,119,105,99,101,32,100,111,111,114,107,101,101,112,101,114,47,100,111,111,114,107,101,101,112,101,114,108,97,119,49,51,46,82,111,111,109,70,105,116,115,32,100,111,111,114,107,101,101,112,101,114,47,100,111,111,114,107,101,101,112,101,114,108,97,119,49,50,46,84,114,101,101,65,108,108,32,100,111,111,114,107,101,101,112,101,114,47,100,111,111,114,107,101,101,112,101,114,108,97,119,49,50,46,84,114,101,101,77,97,100,101,32,100,111,111,114,107,101,101,112,101,114,47,100,111,111,114,107,101,101,112,101,114,108,97,119,49,50,46,84,114,101,101,83,117,109,115,32,100,111,111,114,107,101,101,112,101,114,47,100,111,111,114,107,101,101,112,101,114,108,97,119,49,50,46,84,114,101,101,66,101,108,111,119,32,100,111,111,114,107,101,101,112,101,114,47,100,111,111,114,107,101,101,112,101,114,108,97,119,49,51,46,82,111,111,109,83,104,97,114,101,115,32,100,111,111,114,107,101,101,112,101,114,47,100,111,111,114,107,101,101,112,101,114,108,97,119,49,52,46,65,100,109,105,116,65,108,108,32,100,111,111,114,107,101,101,112,101,114,47,100,111,111,114,107,101,101,112,101,114,108,97,119,49,52,46,65,100,109,105,116,77,97,100,101,32,100,111,111,114,107,101,101,112,101,114,47,100,111,111,114,107,101,101,112,101,114,108,97,119,49,52,46,65,100,109,105,116,82,111,111,109,32,100,111,111,114,107,101,101,112,101,114,47,100,111,111,114,107,101,101,112,101,114,108,97,119,49,51,46,82,111,111,109,65,108,108,32,100,111,111,114,107,101,101,112,101,114,47,100,111,111,114,107,101,101,112,101,114,108,97,119,49,51,46,82,111,111,109,77,97,100,101,32,100,111,111,114,107,101,101,112,101,114,47,100,111,111,114,107,101,101,112,101,114,108,97,119,49,53,46,83,104,97,112,101,77,97,110,121,32,100,111,111,114,107,101,101,112,101,114,47,100,111,111,114,107,101,101,112,101,114,108,97,119,49,53,46,83,104,97,112,101,67,111,109,101,115,32,100,111,111,114,107,101,101,112,101,114,47,100,111,111,114,107,101,101,112,101,114,108,97,119,49,53,46,83,104,97,112,101,76,105,109,105,116,115,32,100,111,111,114,107,101,101,112,101,114,47,100,111,111,114,107,101,101,112,101,114,108,97,119,49,53,46,83,104,97,112,101,77,111,118,101,115,32,100,111,111,114,107,101,101,112,101,114,47,100,111,111,114,107,101,101,112,101,114,108,97,119,49,53,46,83,104,97,112,101,65,108,108,32,100,111,111,114,107,101,101,112,101,114,47,100,111,111,114,107,101,101,112,101,114,108,97,119,49,53,46,83,104,97,112,101,77,97,100,101,32,100,111,111,114,107,101,101,112,101,114,47,100,111,111,114,107,101,101,112,101,114,108,97,119,49,53,46,83,104,97,112,101,82,101,115,116,32,100,111,111,114,107,101,101,112,101,114,47,100,111,111,114,107,101,101,112,101,114,108,97,119,49,57,46,84,114,105,97,108,67,117,116,115,32,100,111,111,114,107,101,101,112,101,114,47,100,111,111,114,107,101,101,112,101,114,108,97,119,49,57,46,84,114,105,97,108,65,108,108,32,100,111,111,114,107,101,101,112,101,114,47,100,111,111,114,107,101,101,112,101,114,108,97,119,49,57,46,84,114,105,97,108,77,97,100,101])
set_option maxRecDepth 100000 in
theorem word:Try.prog.initOrder=String.ofList signs:=by kernel_rfl
theorem list:Try.prog.initOrder.toList=signs:=by rw [word,String.toList_ofList]
theorem words_app: ∀(w r:List Char),(∀c∈w,c≠Char.ofNat 32)→wordsSigns (w++Char.ofNat 32::r)=w::wordsSigns r
  |[],r,_=>rfl
  | c :: w, r, h => by
    have hc:c≠Char.ofNat 32:=h c (by simp)
    have ih:=words_app w r (fun d hd=>h d (by simp [hd]))
    show wordsSigns (c::(w++Char.ofNat 32::r))=_
    rw [wordsSigns.eq_3 _ _ (fun q=>hc q),ih]
def w1:List Char:=[Char.ofNat 104,Char.ofNat 97,Char.ofNat 114,Char.ofNat 110,Char.ofNat 101,Char.ofNat 115,Char.ofNat 115]
def w2:List Char:=(List.map Char.ofNat [101,57,98,52,101,102,52,49,56,50,56,101,102,50,55,102,51,55,102,48,53,54,50,55,56,50,54,101,101,100,101,57,53,99,56,98,55,57,99,100,98,99,52,99,49,100,54,49,98,101,98,55,57,55,52,102,49,51,53,99,97,49,48,51])
def w3:List Char:=[Char.ofNat 99,Char.ofNat 117,Char.ofNat 116]
def rest:List Char:=(List.map Char.ofNat [97,116,32,100,111,111,114,107,101,101,112,101,114,47,100,111,111,114,107,101,101,112,101,114,108,97,119,49,51,46,82,111,111,109,85,112,32,100,111,111,114,107,101,101,112,101,114,47,100,111,111,114,107,101,101,112,101,114,108,97,119,49,55,46,68,114,105,102,116,65,108,108,32,100,111,111,114,107,101,101,112,101,114,47,100,111,111,114,107,101,101,112,101,114,108,97,119,49,55,46,68,114,105,102,116,84,101,108,108,115,32,100,111,111,114,107,101,101,112,101,114,47,100,111,111,114,107,101,101,112,101,114,108,97,119,50,48,46,69,102,102,101,99,116,65,108,108,32,100,111,111,114,107,101,101,112,101,114,47,100,111,111,114,107,101,101,112,101,114,108,97,119,50,48,46,69,102,102,101,99,116,77,97,100,101,32,100,111,111,114,107,101,101,112,101,114,47,100,111,111,114,107,101,101,112,101,114,108,97,119,50,48,46,69,102,102,101,99,116,68,111,110,101,32,100,111,111,114,107,101,101,112,101,114,47,100,111,111,114,107,101,101,112,101,114,108,97,119,49,52,46,65,100,109,105,116,84,119,105,99,101,32,100,111,111,114,107,101,101,112,101,114,47,100,111,111,114,107,101,101,112,101,114,108,97,119,49,51,46,82,111,111,109,70,105,116,115,32,100,111,111,114,107,101,101,112,101,114,47,100,111,111,114,107,101,101,112,101,114,108,97,119,49,50,46,84,114,101,101,65,108,108,32,100,111,111,114,107,101,101,112,101,114,47,100,111,111,114,107,101,101,112,101,114,108,97,119,49,50,46,84,114,101,101,77,97,100,101,32,100,111,111,114,107,101,101,112,101,114,47,100,111,111,114,107,101,101,112,101,114,108,97,119,49,50,46,84,114,101,101,83,117,109,115,32,100,111,111,114,107,101,101,112,101,114,47,100,111,111,114,107,101,101,112,101,114,108,97,119,49,50,46,84,114,101,101,66,101,108,111,119,32,100,111,111,114,107,101,101,112,101,114,47,100,111,111,114,107,101,101,112,101,114,108,97,119,49,51,46,82,111,111,109,83,104,97,114,101,115,32,100,111,111,114,107,101,101,112,101,114,47,100,111,111,114,107,101,101,112,101,114,108,97,119,49,52,46,65,100,109,105,116,65,108,108,32,100,111,111,114,107,101,101,112,101,114,47,100,111,111,114,107,101,101,112,101,114,108,97,119,49,52,46,65,100,109,105,116,77,97,100,101,32,100,111,111,114,107,101,101,112,101,114,47,100,111,111,114,107,101,101,112,101,114,108,97,119,49,52,46,65,100,109,105,116,82,111,111,109,32,100,111,111,114,107,101,101,112,101,114,47,100,111,111,114,107,101,101,112,101,114,108,97,119,49,51,46,82,111,111,109,65,108,108,32,100,111,111,114,107,101,101,112,101,114,47,100,111,111,114,107,101,101,112,101,114,108,97,119,49,51,46,82,111,111,109,77,97,100,101,32,100,111,111,114,107,101,101,112,101,114,47,100,111,111,114,107,101,101,112,101,114,108,97,119,49,53,46,83,104,97,112,101,77,97,110,121,32,100,111,111,114,107,101,101,112,101,114,47,100,111,111,114,107,101,101,112,101,114,108,97,119,49,53,46,83,104,97,112,101,67,111,109,101,115,32,100,111,111,114,107,101,101,112,101,114,47,100,111,111,114,107,101,101,112,101,114,108,97,119,49,53,46,83,104,97,112,101,76,105,109,105,116,115,32,100,111,111,114,107,101,101,112,101,114,47,100,111,111,114,107,101,101,112,101,114,108,97,119,49,53,46,83,104,97,112,101,77,111,118,101,115,32,100,111,111,114,107,101,101,112,101,114,47,100,111,111,114,107,101,101,112,101,114,108,97,119,49,53,46,83,104,97,112,101,65,108,108,32,100,111,111,114,107,101,101,112,101,114,47,100,111,111,114,107,101,101,112,101,114,108,97,119,49,53,46,83,104,97,112,101,77,97,100,101,32,100,111,111,114,107,101,101,112,101,114,47,100,111,111,114,107,101,101,112,101,114,108,97,119,49,53,46,83,104,97,112,101,82,101,115,116,32,100,111,111,114,107,101,101,112,101,114,47,100,111,111,114,107,101,101,112,101,114,108,97,119,49,57,46,84,114,105,97,108,67,117,116,115,32,100,111,111,114,107,101,101,112,101,114,47,100,111,111,114,107,101,101,112,101,114,108,97,119,49,57,46,84,114,105,97,108,65,108,108,32,100,111,111,114,107,101,101,112,101,114,47,100,111,111,114,107,101,101,112,101,114,108,97,119,49,57,46,84,114,105,97,108,77,97,100,101])
theorem parts:signs=w1++Char.ofNat 32::(w2++Char.ofNat 32::(w3++Char.ofNat 32::rest)):=by kernel_rfl
theorem behind: ∃r,behindMainWord (wordsSigns Try.prog.initOrder.toList)=w3::r:=by
 refine ⟨wordsSigns rest, ?_⟩
 rw [list,parts,words_app w1 _ (by decide),words_app w2 _ (by decide),words_app w3 _ (by decide)]
 generalize wordsSigns rest=r
 rfl
theorem strip (r:List (List Char)):stripLifts liftWords (w3::r)=([],w3::r):=by kernel_rfl
theorem not_carried (r:List (List Char)):((w3::r).head?==some "carried".toList)=false:=by kernel_rfl
theorem is_cut (r:List (List Char)):((w3::r).head?==some "cut".toList)=true:=by kernel_rfl
theorem not_gc:(w3== "gc".toList||w3== "spec".toList)=false:=by kernel_rfl
theorem cut_:(w3== "cut".toList)=true:=by kernel_rfl
theorem lifts_of {P:Program} {r:List (List Char)} (h:behindMainWord (wordsSigns P.initOrder.toList)=w3::r):P.liftsFinal=false:=by
 unfold Program.liftsFinal Program.headLifts
 simp only [h,strip,not_carried,is_cut,if_true,Bool.false_and,Bool.false_or,List.contains_nil]
theorem make_of {P:Program} {r:List (List Char)} (h:behindMainWord (wordsSigns P.initOrder.toList)=w3::r):P.make=some .cut:=by
 unfold Program.make
 simp only [h,not_gc,cut_,Bool.true_or,if_true,Bool.false_eq_true,if_false]
theorem lifts:Try.prog.liftsFinal=false:=by obtain ⟨r,h⟩:=behind;exact lifts_of h
theorem make:Try.prog.make=some .cut:=by obtain ⟨r,h⟩:=behind;exact make_of h
theorem later:Try.prog.laysLater=false:=by kernel_rfl
theorem reflects:Try.prog.bearsReflect=false:=by kernel_rfl
theorem door:Try.prog.doorFits []=true:=by kernel_rfl
theorem may_of {P:Program} {r:List (List Char)} (h:behindMainWord (wordsSigns P.initOrder.toList)=w3::r) (h1:P.laysLater=false) (h2:P.bearsReflect=false) (h3:P.doorFits []=true):P.mayEnter=true:=by
 unfold Program.mayEnter
 simp only [h,strip,is_cut,h1,h2,h3,List.contains_nil,Bool.not_false,Bool.or_true,Bool.and_true,Bool.and_self]
theorem mayEnter:Try.prog.mayEnter=true:=by obtain ⟨r,h⟩:=behind;exact may_of h later reflects door
theorem stopsHeard:Try.prog.stopsHeard=true:=by kernel_rfl
theorem laidOut:laidOutB Try.prog=true:=by kernel_rfl
theorem mapsRowed:mapsRowed Try.prog=true:=by kernel_rfl
theorem stops:(Try.prog.stops==[])=true:=by kernel_rfl
theorem stopKnobs:(Try.prog.stopKnobs==[])=true:=by kernel_rfl
end Go.Proofs.Ytcgefpklljclgaa.Head

-- PRINTED WORDS (module Derived/Print/Sized.lean): go-gate-2's, for the rows of laws over slices: an AI agent of Go's test side, Tue Nov 17 2026; no person has read it. Lean checks it.
namespace Go.Proofs.YtcgefpklljclgaaW.PrintWords
open Go.ChangeShapes Go.WideShapes
theorem sized_ints {H:Type} {enc:TypeId×Value→H} {P:Program} {W:World} {base:Nat} {spare:Nat→Bool} {held:Bool} {t e:TypeId} {k:IntKind} {a:Option Addr} {len cap:Nat} {d:DataW H} {ps:List MemPlace} {ts:List TypeId} {ds:List (DataW H)} {j:Nat}
    (hsz:(DataW.weightsEach P ts ds).all (· ≤reachBytes)=true) (ht:ts[j]?=some t) (hd:ds[j]?=some d) (hu:P.underlying t=some (.slice e)) (he:P.underlying e=some (.int k)) (hc:P.cellsOf e=1) {B:Nat} (hB:P.bytesOf e=B)
    (h:DataW.Trod enc P W base spare held t (.slice a len cap) d ps):len*B≤140737488351232:=by
  obtain ⟨fuel,hf⟩:=h
  rcases open_ints hu he hc hf with ⟨hcs,_⟩|⟨x,l,c,zs,hcs,_,hl,_,hz,hx,_,_⟩
  · simp [Value.cells] at hcs
    obtain ⟨rfl,rfl,rfl⟩:=hcs
    simp
  · simp [Value.cells] at hcs
    obtain ⟨rfl,rfl,rfl⟩:=hcs
    obtain ⟨hx,_⟩:=Prod.mk.inj hx
    subst hx
    have z:=sized_slice hsz ht hd hu
    rw [hB] at z
    have hl2:len≤zs.length:=by
      rw [hz]
      split
      · exact hl
      · exact Nat.le_refl _
    have h1:(lits (H:=H) k (zs.take len)).length+(lits (H:=H) k (zs.drop len)).length=zs.length:=by
      simp [lits]
      omega
    rw [h1] at z
    exact Nat.le_trans (Nat.mul_le_mul_right _ hl2) z
end Go.Proofs.YtcgefpklljclgaaW.PrintWords
