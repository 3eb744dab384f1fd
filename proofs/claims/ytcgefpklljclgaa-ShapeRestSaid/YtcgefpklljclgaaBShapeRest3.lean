/- ShapeRest: a part -/
import Derived.Laws.Strings
import Derived.Shelf.Abstract
import Derived.Test.YtcgefpklljclgaaRows
import Derived.WalkKit
import Derived.ProofKit
import Derived.OpenShut
import Derived.JoinedOf
import Derived.SizedLaws
import Derived.ChangeSlices
import Derived.Test.YtcgefpklljclgaaBShapeRest0
import Derived.Test.YtcgefpklljclgaaBShapeRest1
import Derived.Test.YtcgefpklljclgaaBShapeRest2
set_option linter.unusedVariables false
set_option linter.unusedSimpArgs false
namespace Go.Proofs.Ytcgefpklljclgaa.Print
open Go.RowKit Go.Proofs.YtcgefpklljclgaaW.PrintWords Go.Proofs.YtcgefpklljclgaaW.PrintLast Go.Proofs.YtcgefpklljclgaaW.PrintMore
attribute [local go_sem] max2_int min2_int max_two min_two max_three min_three max_four min_four

attribute [local go_sem high] eqA31
def law15_ShapeRest.l0:Nat→List (S31)→List (S31)→Int→Int→Int→ByteArray→ByteArray→Int→Int→Int→Option (Bool)
 |0,_,_,_,_,_,_,_,_,_,_=>none
 |k+1,x9,x11,x13,x14,x12000,x12001,x12002,x12003,x12004,x12005=>if x14<(x9.length:Int) then (if 0≤x14 then (if ((rd_T31 x9 x14).f0).toList=x12001.toList then (law15_ShapeRest.l0 k x9 x11 x13 (wrap64 (x14+1)) x12000 x12001 x12002 x12003 x12004 x12005) else ((r10_Find.f k x11 ((rd_T31 x9 x14).f0)).bind fun t25=>(if t25<0 then (none) else (if 0≤t25 then (if t25<(x11.length:Int) then (if (!((((rd_T31 x9 x14).f0).toList)==(((rd_T31 x11 t25).f0).toList))||(!((((rd_T31 x9 x14).f1).toList)==(((rd_T31 x11 t25).f1).toList))||((!(((rd_T31 x9 x14).f2.f0)==((rd_T31 x11 t25).f2.f0))||(!(((rd_T31 x9 x14).f2.f1)==((rd_T31 x11 t25).f2.f1))||(!(((rd_T31 x9 x14).f2.f2)==((rd_T31 x11 t25).f2.f2)))))||((!(((rd_T31 x9 x14).f3.f0)==((rd_T31 x11 t25).f3.f0))||(!(((rd_T31 x9 x14).f3.f1)==((rd_T31 x11 t25).f3.f1))||(!(((rd_T31 x9 x14).f3.f2)==((rd_T31 x11 t25).f3.f2)))))||(!(((rd_T31 x9 x14).f5)==((rd_T31 x11 t25).f5)))))))=true then (none) else (law15_ShapeRest.l0 k x9 x11 (wrap64 (x13+1)) (wrap64 (x14+1)) x12000 x12001 x12002 x12003 x12004 x12005)) else (none)) else (none))))) else (none)) else ((r10_Find.f k x11 x12001).bind fun t18=>(if x12000=4 then (if t18<0 then (if (x11.length:Int)=x13 then ((law15_awake.f).bind fun t19=>(some t19)) else (none)) else (none)) else (if t18≥0 then (if (x11.length:Int)=(wrap64 (x13+1)) then ((law15_awake.f).bind fun t22=>(some t22)) else (none)) else (none))))
def law15_ShapeRest.f (k:Nat) (l0:List Int) (a1:Int) (a2:Int) (a3:Int):Option (Bool):=if (l0.length:Int)>90 then ((law15_awake.f).bind fun t1=>(some t1)) else ((law12_Make.f k l0).bind fun t2=>((law15_Step.f k a1 a2 a3).bind fun bt5=>((shape_Do.f k t2 bt5.1 bt5.2.1 bt5.2.2.1 bt5.2.2.2.1 bt5.2.2.2.2.1 bt5.2.2.2.2.2 (-1)).bind fun bt12=>((law1_Num.f bt12.2).bind fun t16=>(if t16=0 then (law15_ShapeRest.l0 k t2 bt12.1 0 0 bt5.1 bt5.2.1 bt5.2.2.1 bt5.2.2.2.1 bt5.2.2.2.2.1 bt5.2.2.2.2.2) else (if (bt12.1.length:Int)=0 then ((law15_awake.f).bind fun t17=>(some t17)) else (none)))))))
theorem law15_ShapeRest.mono_l: ∀k,(∀y0 y1 y2 y3 y4 y5 y6 y7 y8 y9,LeO (law15_ShapeRest.l0 k y0 y1 y2 y3 y4 y5 y6 y7 y8 y9) (law15_ShapeRest.l0 (k+1) y0 y1 y2 y3 y4 y5 y6 y7 y8 y9))
 |0=>fun _ _ _ _ _ _ _ _ _ _ r h=>by simp [law15_ShapeRest.l0] at h
 |k+1=>by
  have ih0:=law15_ShapeRest.mono_l k
  intro y0 y1 y2 y3 y4 y5 y6 y7 y8 y9
  unfold law15_ShapeRest.l0
  repeat' first
  |(with_reducible exact ih0 _ _ _ _ _ _ _ _ _ _)
  |(with_reducible exact law12_Make.mono _ _)
  |(with_reducible exact law15_Step.mono _ _ _ _)
  |(with_reducible exact r10_Find.mono _ _ _)
  |(with_reducible exact shape_Do.mono _ _ _ _ _ _ _ _ _)
  |(with_reducible exact LeO.refl _)
  |(with_reducible exact LeO.none _)
  |(with_reducible refine LeO.ite ?_ ?_)
  |(with_reducible refine LeO.bind ?_ (fun _=> ?_))
  |exact ih0 _ _ _ _ _ _ _ _ _ _
  |exact law12_Make.mono _ _
  |exact law15_Step.mono _ _ _ _
  |exact r10_Find.mono _ _ _
  |exact shape_Do.mono _ _ _ _ _ _ _ _ _
  |exact LeO.none _
  |refine LeO.ite ?_ ?_
  |refine LeO.bind ?_ (fun _=> ?_)
theorem law15_ShapeRest.mono: ∀a0 a1 a2 a3 k,LeO (law15_ShapeRest.f k a0 a1 a2 a3) (law15_ShapeRest.f (k+1) a0 a1 a2 a3):=by
 intro a0 a1 a2 a3 k
 have ih0:=law15_ShapeRest.mono_l k
 unfold law15_ShapeRest.f
 repeat' first
  |(with_reducible exact ih0 _ _ _ _ _ _ _ _ _ _)
  |(with_reducible exact law12_Make.mono _ _)
  |(with_reducible exact law15_Step.mono _ _ _ _)
  |(with_reducible exact r10_Find.mono _ _ _)
  |(with_reducible exact shape_Do.mono _ _ _ _ _ _ _ _ _)
  |(with_reducible exact LeO.refl _)
  |(with_reducible exact LeO.none _)
  |(with_reducible refine LeO.ite ?_ ?_)
  |(with_reducible refine LeO.bind ?_ (fun _=> ?_))
  |exact ih0 _ _ _ _ _ _ _ _ _ _
  |exact law12_Make.mono _ _
  |exact law15_Step.mono _ _ _ _
  |exact r10_Find.mono _ _ _
  |exact shape_Do.mono _ _ _ _ _ _ _ _ _
  |exact LeO.none _
  |refine LeO.ite ?_ ?_
  |refine LeO.bind ?_ (fun _=> ?_)
def law15_ShapeRest.T12:Bool×List (List Nat×List Nat):=(true,[([],[]),([],[]),([0,1],[0,1]),([2],[2]),([3],[3]),([],[]),([5],[5]),([4,6],[4,6])])
def law15_ShapeRest.B12:List Nat:=[0,0,3,7,15,0,32,127]
theorem law15_ShapeRest.tab12:rtab .any (opsOf Try.f27 12)=law15_ShapeRest.T12:=by kernel_rfl
theorem law15_ShapeRest.bits12:waitsOk law15_ShapeRest.T12.2 law15_ShapeRest.B12=true:=by kernel_rfl
def law15_ShapeRest.T17:Bool×List (List Nat×List Nat):=(true,[([],[]),([],[]),([0,1],[0,1]),([2],[2]),([],[]),([],[]),([4,5],[4,5]),([6],[6]),([],[]),([],[]),([8,3,0,1,2,3,8,9],[3,8]),([9,7,10,0,1,2,3,4,5,6,7,8,9,10],[7,9])])
def law15_ShapeRest.B17:List Nat:=[0,0,3,7,0,0,48,112,0,0,783,2047]
theorem law15_ShapeRest.tab17:rtab .any (opsOf Try.f27 17)=law15_ShapeRest.T17:=by kernel_rfl
theorem law15_ShapeRest.bits17:waitsOk law15_ShapeRest.T17.2 law15_ShapeRest.B17=true:=by kernel_rfl
set_option maxHeartbeats 80000000 in
set_option maxRecDepth 100000 in
theorem law15_ShapeRest.calls (k:Nat) (A0:Option Addr) (c0:Nat) (l0:List Int) (a1:Int) (a2:Int) (a3:Int) (r:Bool) (w:World) (hr0:Kd.C (Kd.int .u8) w A0 l0.length l0) (hc0:l0.length≤c0) (h:law15_ShapeRest.f k l0 a1 a2 a3=some r):
  Calls Try.prog 27 #[.slice A0 l0.length c0, .int .u8 a1, .int .u8 a2, .int .u8 a3] w fun e w'=>e= .returned (.bool r)∧Below w.heap.size w w':=by
 have hu58:=Try.underlying58
 have hu31:=Try.underlying31
 have hu27:=Try.underlying27
 have HR0:=Aside0.mk hr0
 have HC0:=Aside0.mk hc0
 clear hr0 hc0
 have HB:=am_ (Below.refl w.heap.size w)
 have H:(if (l0.length:Int)>90 then ((law15_awake.f).bind fun t1=>(some t1)) else ((law12_Make.f k l0).bind fun t2=>((law15_Step.f k a1 a2 a3).bind fun bt5=>((shape_Do.f k t2 bt5.1 bt5.2.1 bt5.2.2.1 bt5.2.2.2.1 bt5.2.2.2.2.1 bt5.2.2.2.2.2 (-1)).bind fun bt12=>((law1_Num.f bt12.2).bind fun t16=>(if t16=0 then (law15_ShapeRest.l0 k t2 bt12.1 0 0 bt5.1 bt5.2.1 bt5.2.2.1 bt5.2.2.2.1 bt5.2.2.2.2.1 bt5.2.2.2.2.2) else (if (bt12.1.length:Int)=0 then ((law15_awake.f).bind fun t17=>(some t17)) else (none))))))))=some r:=h
 clear h
 by_cases c5:(l0.length:Int)>90
 ·rw [if_pos c5] at H
  have c5b0:decide (90<(l0.length:Int))=true:=decide_eq_true c5
  have c5b1:decide (90<l0.length)=true:=decide_eq_true (by omega)
  clear c5
  replace H:=Option.bind_eq_some_iff.mp H
  obtain ⟨t1,A60,H⟩:=H
  try dsimp only at H
  have A6:=Aside0.mk A60
  clear A60
  obtain rfl:=Option.some.inj H
  go_enter Try.func27,Try.ntmps27
  go_wp2_with (first|((with_reducible refine gate_callee (f:=85) rfl ?_);refine gl_ (some 22) Try.func85 #[] ?_;(with_reducible refine (law15_awake.calls t1 _ A6.out).mono ?_);rintro e w7 ⟨rfl,hb⟩;refine ⟨_,rfl, ?_⟩;replace HB:=am_ (below_step (zl0_ HB) hb);(try clear hb);(try clear hb2);(try clear hk);(try clear hi)))
  go_ret
  exact ⟨by first|rfl|(simp [errW_none,errW_some]<;>rfl)|(simp [*,errW_none,errW_some]<;>rfl),zl0_ HB⟩
 rw [if_neg c5] at H
 have c5b0:decide (90<(l0.length:Int))=false:=decide_eq_false c5
 have c5b1:decide (90<l0.length)=false:=decide_eq_false (by omega)
 clear c5
 replace H:=Option.bind_eq_some_iff.mp H
 obtain ⟨t2,A80,H⟩:=H
 try dsimp only at H
 have A8:=Aside0.mk A80
 clear A80
 replace H:=Option.bind_eq_some_iff.mp H
 obtain ⟨⟨t5,t6,t7,t8,t9,t10⟩,A90,H⟩:=H
 try dsimp only at H
 have A9:=Aside0.mk A90
 clear A90
 replace H:=Option.bind_eq_some_iff.mp H
 obtain ⟨⟨t12,t15⟩,A100,H⟩:=H
 try dsimp only at H
 have A10:=Aside0.mk A100
 clear A100
 replace H:=Option.bind_eq_some_iff.mp H
 obtain ⟨t16,A110,H⟩:=H
 try dsimp only at H
 have A11:=Aside0.mk A110
 clear A110
 by_cases c12:t16=0
 rotate_left
 ·rw [if_neg c12] at H
  have c12b0:(t16==0)=false:=beq_eq_false_iff_ne.mpr c12
  have c12b1:(t16 !=0)=true:=bne_iff_ne.mpr c12
  by_cases c138:(t12.length:Int)=0
  rotate_left
  ·rw [if_neg c138] at H
   cases H
  rw [if_pos c138] at H
  have c138b0:((t12.length:Int)==0)=true:=beq_iff_eq.mpr c138
  have c138b1:((t12.length:Int) !=0)=false:=bne_eq_false_iff_eq.mpr c138
  clear c138
  replace H:=Option.bind_eq_some_iff.mp H
  obtain ⟨t17,A1390,H⟩:=H
  try dsimp only at H
  have A139:=Aside0.mk A1390
  clear A1390
  obtain rfl:=Option.some.inj H
  go_enter Try.func27,Try.ntmps27
  go_wp2_with (first|((with_reducible refine gate_callee (f:=32) rfl ?_);refine gl_ (some 24) Try.func32 #[.slice A0 l0.length c0] ?_;(with_reducible refine (law12_Make.calls k _ _ l0 t2 _ ?side1 ?side2 A8.out).mono ?_);(case side1=>repeat (first|exact HR0.out|(with_reducible refine Kd.C_alloc ?_ _)|(with_reducible refine Kd.C_drewN ?_ _)|(with_reducible refine Kd.C_drew ?_)));(case side2=>exact HC0.out);rintro e w140 ⟨v3,rfl,ho0,hb⟩;refine ⟨_,rfl, ?_⟩;have HO4:=am_ (Kd.R_lower ho0 (below_size (zl0_ HB)));replace HB:=am_ (below_step (zl0_ HB) hb);(try clear hb);(try clear hb2);(try clear hk);(try clear hi);(try clear ho0))|((with_reducible refine gate_callee (f:=57) rfl ?_);refine gl_ (some 28) Try.func57 #[.int .u8 a1, .int .u8 a2, .int .u8 a3] ?_;(with_reducible refine (law15_Step.calls k a1 a2 a3 t5 t6 t7 t8 t9 t10 _ A9.out).mono ?_);rintro e w141 ⟨rfl,hb⟩;refine ⟨_,rfl, ?_⟩;replace HO4:=am_ (Kd.R_below (zr_ HO4) hb);replace HB:=am_ (below_step (zl0_ HB) hb);(try clear hb);(try clear hb2);(try clear hk);(try clear hi))|((with_reducible refine gate_dst (N:=10) rfl ?_);(try (refine gate_guard (by rfl) ?_;dsimp only));refine bx_ (N:=10) (cs:=#[.int .i64 0, .string (⟨#[]⟩:ByteArray), .string (⟨#[]⟩:ByteArray), .int .i64 0, .int .i64 0, .int .i64 0]) (t:=58) ?_;intro gb11 hg w142 hbox hb;replace HO4:=am_ (Kd.R_below (zr_ HO4) hb);have BK11:=am_ (hbox);have GW11:=am_ ((zg0_ HB hg:w.heap.size≤gb11));have GE11:=am_ ((zg0_ HB hg:w.heap.size≤gb11));replace HB:=am_ (below_step (zl0_ HB) hb);clear hb hbox hg;obtain ⟨hcz143_0,hcz143_1,hcz143_2,hcz143_3,hcz143_4,hcz143_5,hfz143_0,hfz143_1,hfz143_2,hfz143_3,hfz143_4,hfz143_5⟩:=y6_ BK11;obtain ⟨Ao144,co144,eo144⟩:=Kd.R_slice HO4.out;subst eo144)|((with_reducible refine gate_callee (f:=89) rfl ?_);refine gl_ (some 32) Try.func89 #[.slice Ao144 t2.length co144, .agg #[.int .i64 t5, .string t6, .string t7, .int .i64 t8, .int .i64 t9, .int .i64 t10], .int .i64 (-1)] ?_;(with_reducible refine (shape_Do.calls k _ _ t2 t5 t6 t7 t8 t9 t10 (-1) t12 t15 _ ?side1 ?side2 A10.out).mono ?_);(case side1=>refine (Kd.R_reads' (e:=31) (base:=w.heap.size) (ok:=fun k_=>True) (n:=t2.length) (c:=co144) ?_).2.2;exact (by refine zt_ ?_;exact (Kd.R_mono (Kd.R_far (p:=⟨gb11,5,none⟩) (Kd.R_far (p:=⟨gb11,4,none⟩) (Kd.R_far (p:=⟨gb11,3,none⟩) (Kd.R_far (p:=⟨gb11,2,none⟩) (Kd.R_far (p:=⟨gb11,1,none⟩) (Kd.R_far (p:=⟨gb11,0,none⟩) (Kd.R_types HO4.out BK11.out (by decide)) (fun _ hk=>hk.2) (.int .i64 t5)) (fun _ hk=>hk.2) (.string t6)) (fun _ hk=>hk.2) (.string t7)) (fun _ hk=>hk.2) (.int .i64 t8)) (fun _ hk=>hk.2) (.int .i64 t9)) (fun _ hk=>hk.2) (.int .i64 t10)) (fun _ h_=>h_.1))));(case side2=>exact (Kd.R_reads' HO4.out).2.1);rintro e w145 ⟨v13,rfl,ho0,hb⟩;refine ⟨_,rfl, ?_⟩;have HO14:=am_ (Kd.R_lower (Kd.R_new' ho0 (Kd.R_lt (by refine zt_ ?_;exact (Kd.R_mono (Kd.R_far (p:=⟨gb11,5,none⟩) (Kd.R_far (p:=⟨gb11,4,none⟩) (Kd.R_far (p:=⟨gb11,3,none⟩) (Kd.R_far (p:=⟨gb11,2,none⟩) (Kd.R_far (p:=⟨gb11,1,none⟩) (Kd.R_far (p:=⟨gb11,0,none⟩) (Kd.R_types HO4.out BK11.out (by decide)) (fun _ hk=>hk.2) (.int .i64 t5)) (fun _ hk=>hk.2) (.string t6)) (fun _ hk=>hk.2) (.string t7)) (fun _ hk=>hk.2) (.int .i64 t8)) (fun _ hk=>hk.2) (.int .i64 t9)) (fun _ hk=>hk.2) (.int .i64 t10)) (fun _ h_=>h_.1))))) (below_size (zl1_ HB GE11)));replace HO4:=am_ (Kd.R_elder' (by refine zt_ ?_;exact (Kd.R_mono (Kd.R_far (p:=⟨gb11,5,none⟩) (Kd.R_far (p:=⟨gb11,4,none⟩) (Kd.R_far (p:=⟨gb11,3,none⟩) (Kd.R_far (p:=⟨gb11,2,none⟩) (Kd.R_far (p:=⟨gb11,1,none⟩) (Kd.R_far (p:=⟨gb11,0,none⟩) (Kd.R_types HO4.out BK11.out (by decide)) (fun _ hk=>hk.2) (.int .i64 t5)) (fun _ hk=>hk.2) (.string t6)) (fun _ hk=>hk.2) (.string t7)) (fun _ hk=>hk.2) (.int .i64 t8)) (fun _ hk=>hk.2) (.int .i64 t9)) (fun _ hk=>hk.2) (.int .i64 t10)) (fun _ h_=>h_.1))) (Kd.R_base ho0) hb);replace BK11:=am_ (blk_below (g:=gb11) (o:= .cells #[.int .i64 t5, .string t6, .string t7, .int .i64 t8, .int .i64 t9, .int .i64 t10] 58 (0,0)) (zw_ BK11) hb);replace HB:=am_ (below_step (zl1_ HB GE11) hb);(try clear hb);(try clear hb2);(try clear hk);(try clear hi);(try clear ho0))|((with_reducible refine gate_callee (f:=61) rfl ?_);refine gl_ (some 36) Try.func61 #[.int .i64 t15] ?_;(with_reducible refine (law1_Num.calls t15 t16 _ A11.out).mono ?_);rintro e w' ⟨rfl,⟨nd,rfl⟩⟩;refine ⟨_,rfl, ?_⟩;obtain ⟨Ao146,co146,eo146⟩:=Kd.R_slice HO14.out;subst eo146)|(go_at_call 85;(with_reducible refine (law15_awake.calls t17 _ A139.out).mono ?_);rintro e w147 ⟨rfl,hb⟩;replace HO4:=am_ (Kd.R_below (zr_ HO4) hb);replace HO14:=am_ (Kd.R_below (zr_ HO14) hb);replace BK11:=am_ (blk_below (zb_ BK11) hb);replace HB:=am_ (below_step (zl1_ HB GE11) hb);(try clear hb);(try clear hb2);(try clear hk);(try clear hi)))
  go_ret
  exact ⟨by first|rfl|(simp [errW_none,errW_some]<;>rfl)|(simp [*,errW_none,errW_some]<;>rfl),zl1_ HB GE11⟩
 rw [if_pos c12] at H
 have c12b0:(t16==0)=true:=beq_iff_eq.mpr c12
 have c12b1:(t16 !=0)=false:=bne_eq_false_iff_eq.mpr c12
 clear c12
 have H':=Aside0.mk H
 clear H
 go_enter Try.func27,Try.ntmps27
 go_wp2_with (first|((with_reducible refine gate_callee (f:=32) rfl ?_);refine gl_ (some 24) Try.func32 #[.slice A0 l0.length c0] ?_;(with_reducible refine (law12_Make.calls k _ _ l0 t2 _ ?side1 ?side2 A8.out).mono ?_);(case side1=>repeat (first|exact HR0.out|(with_reducible refine Kd.C_alloc ?_ _)|(with_reducible refine Kd.C_drewN ?_ _)|(with_reducible refine Kd.C_drew ?_)));(case side2=>exact HC0.out);rintro e w13 ⟨v3,rfl,ho0,hb⟩;refine ⟨_,rfl, ?_⟩;have HO4:=am_ (Kd.R_lower ho0 (below_size (zl0_ HB)));replace HB:=am_ (below_step (zl0_ HB) hb);(try clear hb);(try clear hb2);(try clear hk);(try clear hi);(try clear ho0))|((with_reducible refine gate_callee (f:=57) rfl ?_);refine gl_ (some 28) Try.func57 #[.int .u8 a1, .int .u8 a2, .int .u8 a3] ?_;(with_reducible refine (law15_Step.calls k a1 a2 a3 t5 t6 t7 t8 t9 t10 _ A9.out).mono ?_);rintro e w14 ⟨rfl,hb⟩;refine ⟨_,rfl, ?_⟩;replace HO4:=am_ (Kd.R_below (zr_ HO4) hb);replace HB:=am_ (below_step (zl0_ HB) hb);(try clear hb);(try clear hb2);(try clear hk);(try clear hi))|((with_reducible refine gate_dst (N:=10) rfl ?_);(try (refine gate_guard (by rfl) ?_;dsimp only));refine bx_ (N:=10) (cs:=#[.int .i64 0, .string (⟨#[]⟩:ByteArray), .string (⟨#[]⟩:ByteArray), .int .i64 0, .int .i64 0, .int .i64 0]) (t:=58) ?_;intro gb11 hg w15 hbox hb;replace HO4:=am_ (Kd.R_below (zr_ HO4) hb);have BK11:=am_ (hbox);have GW11:=am_ ((zg0_ HB hg:w.heap.size≤gb11));have GE11:=am_ ((zg0_ HB hg:w.heap.size≤gb11));replace HB:=am_ (below_step (zl0_ HB) hb);clear hb hbox hg;obtain ⟨hcz16_0,hcz16_1,hcz16_2,hcz16_3,hcz16_4,hcz16_5,hfz16_0,hfz16_1,hfz16_2,hfz16_3,hfz16_4,hfz16_5⟩:=y6_ BK11;obtain ⟨Ao17,co17,eo17⟩:=Kd.R_slice HO4.out;subst eo17)|((with_reducible refine gate_callee (f:=89) rfl ?_);refine gl_ (some 32) Try.func89 #[.slice Ao17 t2.length co17, .agg #[.int .i64 t5, .string t6, .string t7, .int .i64 t8, .int .i64 t9, .int .i64 t10], .int .i64 (-1)] ?_;(with_reducible refine (shape_Do.calls k _ _ t2 t5 t6 t7 t8 t9 t10 (-1) t12 t15 _ ?side1 ?side2 A10.out).mono ?_);(case side1=>refine (Kd.R_reads' (e:=31) (base:=w.heap.size) (ok:=fun k_=>True) (n:=t2.length) (c:=co17) ?_).2.2;exact (by refine zt_ ?_;exact (Kd.R_mono (Kd.R_far (p:=⟨gb11,5,none⟩) (Kd.R_far (p:=⟨gb11,4,none⟩) (Kd.R_far (p:=⟨gb11,3,none⟩) (Kd.R_far (p:=⟨gb11,2,none⟩) (Kd.R_far (p:=⟨gb11,1,none⟩) (Kd.R_far (p:=⟨gb11,0,none⟩) (Kd.R_types HO4.out BK11.out (by decide)) (fun _ hk=>hk.2) (.int .i64 t5)) (fun _ hk=>hk.2) (.string t6)) (fun _ hk=>hk.2) (.string t7)) (fun _ hk=>hk.2) (.int .i64 t8)) (fun _ hk=>hk.2) (.int .i64 t9)) (fun _ hk=>hk.2) (.int .i64 t10)) (fun _ h_=>h_.1))));(case side2=>exact (Kd.R_reads' HO4.out).2.1);rintro e w18 ⟨v13,rfl,ho0,hb⟩;refine ⟨_,rfl, ?_⟩;have HO14:=am_ (Kd.R_lower (Kd.R_new' ho0 (Kd.R_lt (by refine zt_ ?_;exact (Kd.R_mono (Kd.R_far (p:=⟨gb11,5,none⟩) (Kd.R_far (p:=⟨gb11,4,none⟩) (Kd.R_far (p:=⟨gb11,3,none⟩) (Kd.R_far (p:=⟨gb11,2,none⟩) (Kd.R_far (p:=⟨gb11,1,none⟩) (Kd.R_far (p:=⟨gb11,0,none⟩) (Kd.R_types HO4.out BK11.out (by decide)) (fun _ hk=>hk.2) (.int .i64 t5)) (fun _ hk=>hk.2) (.string t6)) (fun _ hk=>hk.2) (.string t7)) (fun _ hk=>hk.2) (.int .i64 t8)) (fun _ hk=>hk.2) (.int .i64 t9)) (fun _ hk=>hk.2) (.int .i64 t10)) (fun _ h_=>h_.1))))) (below_size (zl1_ HB GE11)));replace HO4:=am_ (Kd.R_elder' (by refine zt_ ?_;exact (Kd.R_mono (Kd.R_far (p:=⟨gb11,5,none⟩) (Kd.R_far (p:=⟨gb11,4,none⟩) (Kd.R_far (p:=⟨gb11,3,none⟩) (Kd.R_far (p:=⟨gb11,2,none⟩) (Kd.R_far (p:=⟨gb11,1,none⟩) (Kd.R_far (p:=⟨gb11,0,none⟩) (Kd.R_types HO4.out BK11.out (by decide)) (fun _ hk=>hk.2) (.int .i64 t5)) (fun _ hk=>hk.2) (.string t6)) (fun _ hk=>hk.2) (.string t7)) (fun _ hk=>hk.2) (.int .i64 t8)) (fun _ hk=>hk.2) (.int .i64 t9)) (fun _ hk=>hk.2) (.int .i64 t10)) (fun _ h_=>h_.1))) (Kd.R_base ho0) hb);replace BK11:=am_ (blk_below (g:=gb11) (o:= .cells #[.int .i64 t5, .string t6, .string t7, .int .i64 t8, .int .i64 t9, .int .i64 t10] 58 (0,0)) (zw_ BK11) hb);replace HB:=am_ (below_step (zl1_ HB GE11) hb);(try clear hb);(try clear hb2);(try clear hk);(try clear hi);(try clear ho0))|((with_reducible refine gate_callee (f:=61) rfl ?_);refine gl_ (some 36) Try.func61 #[.int .i64 t15] ?_;(with_reducible refine (law1_Num.calls t15 t16 _ A11.out).mono ?_);rintro e w' ⟨rfl,⟨nd,rfl⟩⟩;refine ⟨_,rfl, ?_⟩))
 go_loopg [13,14] k (fun kq vl13 vl14 w'=> ∃(x13_1:Int) (x14_1:Int),vl13= .int .i64 x13_1∧vl14= .int .i64 x14_1∧Aside0 (law15_ShapeRest.l0 kq t2 t12 x13_1 x14_1 t5 t6 t7 t8 t9 t10=some r)∧Aside0 (kq≤k)∧Aside0 (Kd.R k31 31 w' w.heap.size (fun k_=>some k_≠(v13:Value).ownBlock) (.slice Ao17 t2.length co17) t2)∧Aside0 (Kd.R k31 31 w' w.heap.size (fun k_=>some k_≠((.slice Ao17 t2.length co17):Value).ownBlock) v13 t12)∧Aside0 (w'.heap[gb11]?=some (.cells #[.int .i64 t5, .string t6, .string t7, .int .i64 t8, .int .i64 t9, .int .i64 t10] 58 (0,0)))∧Aside0 (Below w.heap.size w w'))
 case atStart=>exact ⟨(0),(0),(by first|rfl|(simp;done)|(simp [*];done)),(by first|rfl|(simp;done)|(simp [*];done)),H',⟨Nat.le_refl _⟩,⟨by (with_reducible repeat (first|apply Kd.R_alloc|apply Kd.R_drewN|apply Kd.R_drew));exact Kd.R_mono HO4.out (fun _ hk=>hk.2)⟩,⟨by (with_reducible repeat (first|apply Kd.R_alloc|apply Kd.R_drewN|apply Kd.R_drew));exact Kd.R_mono HO14.out (fun _ hk=>hk.2)⟩,⟨by refine zk_ ?_;exact BK11.out⟩,⟨zl1_ HB GE11⟩⟩
 case round=>
  clear H'
  try clear c1
  try clear c2
  try clear p2
  try clear c3
  try clear c5
  try clear c5b0
  try clear c5b1
  try clear c6
  try clear c8
  try clear c12
  try clear c12b0
  try clear c12b1
  try clear hcz16_0
  try clear hcz16_1
  try clear hcz16_2
  try clear hcz16_3
  try clear hcz16_4
  try clear hcz16_5
  try clear hfz16_0
  try clear hfz16_1
  try clear hfz16_2
  try clear hfz16_3
  try clear hfz16_4
  try clear hfz16_5
  obtain ⟨x13_1,x14_1,rfl,rfl,HA,HK1,HO_9,HO_11,BK11,HB⟩:=hrel
  cases gk with
  |zero=>exact absurd HA.out (by simp [law15_ShapeRest.l0])
  |succ k1=>
   have H:=HA.out
   clear HA
   simp only [law15_ShapeRest.l0] at H
   by_cases c19:x14_1<(t2.length:Int)
   rotate_left
   ·rw [if_neg c19] at H
    have c19b0:decide (x14_1<(t2.length:Int))=false:=decide_eq_false c19
    clear c19
    replace H:=Option.bind_eq_some_iff.mp H
    obtain ⟨t18,A1000,H⟩:=H
    try dsimp only at H
    have A100:=Aside0.mk A1000
    clear A1000
    by_cases c101:t5=4
    ·rw [if_pos c101] at H
     have c101b0:(t5==4)=true:=beq_iff_eq.mpr c101
     have c101b1:(t5 !=4)=false:=bne_eq_false_iff_eq.mpr c101
     clear c101
     by_cases c102:t18<0
     rotate_left
     ·rw [if_neg c102] at H
      cases H
     rw [if_pos c102] at H
     have c102b0:decide (t18<0)=true:=decide_eq_true c102
     clear c102
     by_cases c103:(t12.length:Int)=x13_1
     rotate_left
     ·rw [if_neg c103] at H
      cases H
     rw [if_pos c103] at H
     have c103b0:((t12.length:Int)==x13_1)=true:=beq_iff_eq.mpr c103
     have c103b1:((t12.length:Int) !=x13_1)=false:=bne_eq_false_iff_eq.mpr c103
     clear c103
     replace H:=Option.bind_eq_some_iff.mp H
     obtain ⟨t19,A1040,H⟩:=H
     try dsimp only at H
     have A104:=Aside0.mk A1040
     clear A1040
     obtain rfl:=Option.some.inj H
     obtain ⟨hcz105_0,hcz105_1,hcz105_2,hcz105_3,hcz105_4,hcz105_5,hfz105_0,hfz105_1,hfz105_2,hfz105_3,hfz105_4,hfz105_5⟩:=y6_ BK11
     obtain ⟨Ao106,co106,eo106⟩:=Kd.R_slice HO_11.out
     subst eo106
     go_wp2_with (first|((with_reducible refine gate_callee (f:=50) rfl ?_);refine gl_ (some 86) Try.func50 #[.slice Ao106 t12.length co106, .string t6] ?_;(with_reducible refine (r10_Find.calls k1 _ _ t12 t6 t18 _ ?side1 ?side2 A100.out).mono ?_);(case side1=>exact zc_ (Kd.R_reads' HO_11.out).2.2);(case side2=>exact (Kd.R_reads' HO_11.out).2.1);rintro e w' ⟨rfl,⟨nd,rfl⟩⟩;refine ⟨_,rfl, ?_⟩)|(go_at_call 85;(with_reducible refine (law15_awake.calls t19 _ A104.out).mono ?_);rintro e w107 ⟨rfl,hb⟩;replace HO_9:=am_ (Kd.R_below (zr_ HO_9) hb);replace HO_11:=am_ (Kd.R_below (zr_ HO_11) hb);replace BK11:=am_ (blk_below (zb_ BK11) hb);replace HB:=am_ (below_step (zl1_ HB GE11) hb);(try clear hb);(try clear hb2);(try clear hk);(try clear hi)))
     go_ret
     exact ⟨by first|rfl|(simp [errW_none,errW_some]<;>rfl)|(simp [*,errW_none,errW_some]<;>rfl),zl1_ HB GE11⟩
    rw [if_neg c101] at H
    have c101b0:(t5==4)=false:=beq_eq_false_iff_ne.mpr c101
    have c101b1:(t5 !=4)=true:=bne_iff_ne.mpr c101
    by_cases c128:t18≥0
    rotate_left
    ·rw [if_neg c128] at H
     cases H
    rw [if_pos c128] at H
    have c128b0:decide (0≤t18)=true:=decide_eq_true c128
    clear c128
    by_cases c129:(t12.length:Int)=(wrap64 (x13_1+1))
    rotate_left
    ·rw [if_neg c129] at H
     cases H
    rw [if_pos c129] at H
    have c129b0:((t12.length:Int)==(wrap64 (x13_1+1)))=true:=beq_iff_eq.mpr c129
    have c129b1:((t12.length:Int) !=(wrap64 (x13_1+1)))=false:=bne_eq_false_iff_eq.mpr c129
    clear c129
    replace H:=Option.bind_eq_some_iff.mp H
    obtain ⟨t22,A1300,H⟩:=H
    try dsimp only at H
    have A130:=Aside0.mk A1300
    clear A1300
    obtain rfl:=Option.some.inj H
    obtain ⟨hcz131_0,hcz131_1,hcz131_2,hcz131_3,hcz131_4,hcz131_5,hfz131_0,hfz131_1,hfz131_2,hfz131_3,hfz131_4,hfz131_5⟩:=y6_ BK11
    obtain ⟨Ao132,co132,eo132⟩:=Kd.R_slice HO_11.out
    subst eo132
    go_wp2_with (first|((with_reducible refine gate_callee (f:=50) rfl ?_);refine gl_ (some 86) Try.func50 #[.slice Ao132 t12.length co132, .string t6] ?_;(with_reducible refine (r10_Find.calls k1 _ _ t12 t6 t18 _ ?side1 ?side2 A100.out).mono ?_);(case side1=>exact zc_ (Kd.R_reads' HO_11.out).2.2);(case side2=>exact (Kd.R_reads' HO_11.out).2.1);rintro e w' ⟨rfl,⟨nd,rfl⟩⟩;refine ⟨_,rfl, ?_⟩)|(go_at_call 85;(with_reducible refine (law15_awake.calls t22 _ A130.out).mono ?_);rintro e w133 ⟨rfl,hb⟩;replace HO_9:=am_ (Kd.R_below (zr_ HO_9) hb);replace HO_11:=am_ (Kd.R_below (zr_ HO_11) hb);replace BK11:=am_ (blk_below (zb_ BK11) hb);replace HB:=am_ (below_step (zl1_ HB GE11) hb);(try clear hb);(try clear hb2);(try clear hk);(try clear hi)))
    go_ret
    exact ⟨by first|rfl|(simp [errW_none,errW_some]<;>rfl)|(simp [*,errW_none,errW_some]<;>rfl),zl1_ HB GE11⟩
   rw [if_pos c19] at H
   have c19b0:decide (x14_1<(t2.length:Int))=true:=decide_eq_true c19
   clear c19
   by_cases c20:0≤x14_1
   rotate_left
   ·rw [if_neg c20] at H
    exact absurd H (by simp)
   rw [if_pos c20] at H
   have c20b0:decide (0≤x14_1)=true:=decide_eq_true c20
   clear c20
   by_cases c21:((rd_T31 t2 x14_1).f0).toList=t6.toList
   ·rw [if_pos c21] at H
    have c21b0:(((rd_T31 t2 x14_1).f0).toList==t6.toList)=true:=beq_iff_eq.mpr c21
    have c21b1:(((rd_T31 t2 x14_1).f0).toList !=t6.toList)=false:=bne_eq_false_iff_eq.mpr c21
    clear c21
    have H':=Aside0.mk H
    clear H
    try go_wp2
    replace HO_9:=am_ (Kd.R_drew HO_9.out)
    replace HO_11:=am_ (Kd.R_drew HO_11.out)
    replace BK11:=am_ (blk_drew BK11.out)
    replace HB:=am_ (below_drew1 HB.out)
    have p23:0≤(x14_1:Int):=of_decide_eq_true zq_
    have q23:x14_1<(t2.length:Int):=of_decide_eq_true zq_
    obtain ⟨ad23,e23,hx23_0,hx23_1,hx23_2,hx23_3,hx23_4,hx23_5,hx23_6,hx23_7,hx23_8,hx23_9,hx23_10,hx23_11⟩:=at_T31 (Kd.R_reads' HO_9.out).2.2 x14_1 p23 q23
    cases e23
    replace p23:=eq_true p23
    replace q23:=eq_true q23
    refine start_ (n:=8) (S:=fun w'=>w'.cell? ⟨gb11,0,none⟩=some (.int .i64 t5)∧w'.cell? ⟨gb11,1,none⟩=some (.string t6)∧w'.cell? ⟨gb11,2,none⟩=some (.string t7)∧w'.cell? ⟨gb11,3,none⟩=some (.int .i64 t8)∧w'.cell? ⟨gb11,4,none⟩=some (.int .i64 t9)∧w'.cell? ⟨gb11,5,none⟩=some (.int .i64 t10)∧w'.cell? (ad23.add ((x14_1).toNat*12))=some (.string ((rd_T31 t2 x14_1).f0))∧w'.cell? ⟨(ad23.add ((x14_1).toNat*12)).block,(ad23.add ((x14_1).toNat*12)).off+1,none⟩=some (.string ((rd_T31 t2 x14_1).f1))∧w'.cell? ⟨(ad23.add ((x14_1).toNat*12)).block,(ad23.add ((x14_1).toNat*12)).off+2,none⟩=some (.int .i64 ((rd_T31 t2 x14_1).f2.f0))∧w'.cell? ⟨(ad23.add ((x14_1).toNat*12)).block,(ad23.add ((x14_1).toNat*12)).off+3,none⟩=some (.int .i64 ((rd_T31 t2 x14_1).f2.f1))∧w'.cell? ⟨(ad23.add ((x14_1).toNat*12)).block,(ad23.add ((x14_1).toNat*12)).off+4,none⟩=some (.int .i64 ((rd_T31 t2 x14_1).f2.f2))∧w'.cell? ⟨(ad23.add ((x14_1).toNat*12)).block,(ad23.add ((x14_1).toNat*12)).off+5,none⟩=some (.int .i64 ((rd_T31 t2 x14_1).f3.f0))∧w'.cell? ⟨(ad23.add ((x14_1).toNat*12)).block,(ad23.add ((x14_1).toNat*12)).off+6,none⟩=some (.int .i64 ((rd_T31 t2 x14_1).f3.f1))∧w'.cell? ⟨(ad23.add ((x14_1).toNat*12)).block,(ad23.add ((x14_1).toNat*12)).off+7,none⟩=some (.int .i64 ((rd_T31 t2 x14_1).f3.f2))∧w'.cell? ⟨(ad23.add ((x14_1).toNat*12)).block,(ad23.add ((x14_1).toNat*12)).off+8,none⟩=some (.int .i64 ((rd_T31 t2 x14_1).f4.f0))∧w'.cell? ⟨(ad23.add ((x14_1).toNat*12)).block,(ad23.add ((x14_1).toNat*12)).off+9,none⟩=some (.int .i64 ((rd_T31 t2 x14_1).f4.f1))∧w'.cell? ⟨(ad23.add ((x14_1).toNat*12)).block,(ad23.add ((x14_1).toNat*12)).off+10,none⟩=some (.int .i64 ((rd_T31 t2 x14_1).f4.f2))∧w'.cell? ⟨(ad23.add ((x14_1).toNat*12)).block,(ad23.add ((x14_1).toNat*12)).off+11,none⟩=some (.int .i64 ((rd_T31 t2 x14_1).f5))) (ds:=[]) (bt_ 8 0) (by kernel_rfl) rfl rfl ⟨(blk_cell BK11.out 0).trans rfl,(blk_cell BK11.out 1).trans rfl,(blk_cell BK11.out 2).trans rfl,(blk_cell BK11.out 3).trans rfl,(blk_cell BK11.out 4).trans rfl,(blk_cell BK11.out 5).trans rfl,hx23_0,hx23_1,hx23_2,hx23_3,hx23_4,hx23_5,hx23_6,hx23_7,hx23_8,hx23_9,hx23_10,hx23_11⟩ (fun hHeld=> ?_);refine with_tabW law15_ShapeRest.tab12 law15_ShapeRest.bits12 (fun HT_ HW_=> ?_)
    generalize wr.drew=w22 at HO_9 HO_11 BK11 HB hx23_0 hx23_1 hx23_10 hx23_11 hx23_2 hx23_3 hx23_4 hx23_5 hx23_6 hx23_7 hx23_8 hx23_9 hHeld ⊢
    refine pu_ (i:=0) (N:=some 50) (bt_ 8 1) HT_ ?_
    refine pu_ (i:=1) (N:=some 51) (bt_ 8 3) HT_ ?_
    refine pu_ (i:=2) (N:=some 52) (bt_ 8 7) HT_ ?_
    refine pu_ (i:=3) (N:=some 53) (bt_ 8 15) HT_ ?_
    refine pu_ (i:=5) (N:=some 55) (bt_ 8 47) HT_ ?_
    refine tk_ (i:=4) (N:=some 54) (bt_ 8 63) HT_ HW_ hHeld ?_
    refine tk_ (i:=6) (N:=some 56) (bt_ 8 127) HT_ HW_ hHeld ?_
    refine pu_ (i:=7) (N:=some 57) (bt_ 8 255) HT_ ?_
    refine done_ (done_of HT_.out (by kernel_rfl)) ?_
    try go_wp2
    go_roundg k1
    case measure=>have:=HK1.out;omega
    case rel=>exact ⟨(x13_1),(wrap64 (x14_1+1)),(by first|rfl|(simp;done)|(simp [*];done)),(by first|rfl|(simp;done)|(simp [*];done)),H',⟨by have:=HK1.out;omega⟩,⟨by (with_reducible repeat (first|apply Kd.R_alloc|apply Kd.R_drewN|apply Kd.R_drew));exact HO_9.out⟩,⟨by (with_reducible repeat (first|apply Kd.R_alloc|apply Kd.R_drewN|apply Kd.R_drew));exact HO_11.out⟩,⟨by refine zk_ ?_;exact BK11.out⟩,⟨zl1_ HB GE11⟩⟩
   rw [if_neg c21] at H
   have c21b0:(((rd_T31 t2 x14_1).f0).toList==t6.toList)=false:=beq_eq_false_iff_ne.mpr c21
   have c21b1:(((rd_T31 t2 x14_1).f0).toList !=t6.toList)=true:=bne_iff_ne.mpr c21
   replace H:=Option.bind_eq_some_iff.mp H
   obtain ⟨t25,A230,H⟩:=H
   try dsimp only at H
   have A23:=Aside0.mk A230
   clear A230
   by_cases c24:t25<0
   ·rw [if_pos c24] at H
    cases H
   rw [if_neg c24] at H
   have c24b0:decide (t25<0)=false:=decide_eq_false c24
   clear c24
   by_cases c27:0≤t25
   rotate_left
   ·rw [if_neg c27] at H
    cases H
   rw [if_pos c27] at H
   have c27b0:decide (0≤t25)=true:=decide_eq_true c27
   clear c27
   by_cases c28:t25<(t12.length:Int)
   rotate_left
   ·rw [if_neg c28] at H
    cases H
   rw [if_pos c28] at H
   have c28b0:decide (t25<(t12.length:Int))=true:=decide_eq_true c28
   clear c28
   by_cases c29:(!((((rd_T31 t2 x14_1).f0).toList)==(((rd_T31 t12 t25).f0).toList))||(!((((rd_T31 t2 x14_1).f1).toList)==(((rd_T31 t12 t25).f1).toList))||((!(((rd_T31 t2 x14_1).f2.f0)==((rd_T31 t12 t25).f2.f0))||(!(((rd_T31 t2 x14_1).f2.f1)==((rd_T31 t12 t25).f2.f1))||(!(((rd_T31 t2 x14_1).f2.f2)==((rd_T31 t12 t25).f2.f2)))))||((!(((rd_T31 t2 x14_1).f3.f0)==((rd_T31 t12 t25).f3.f0))||(!(((rd_T31 t2 x14_1).f3.f1)==((rd_T31 t12 t25).f3.f1))||(!(((rd_T31 t2 x14_1).f3.f2)==((rd_T31 t12 t25).f3.f2)))))||(!(((rd_T31 t2 x14_1).f5)==((rd_T31 t12 t25).f5)))))))=true
   ·rw [if_pos c29] at H
    cases H
   rw [if_neg c29] at H
   have c29b0:(!((((rd_T31 t2 x14_1).f0).toList)==(((rd_T31 t12 t25).f0).toList))||(!((((rd_T31 t2 x14_1).f1).toList)==(((rd_T31 t12 t25).f1).toList))||((!(((rd_T31 t2 x14_1).f2.f0)==((rd_T31 t12 t25).f2.f0))||(!(((rd_T31 t2 x14_1).f2.f1)==((rd_T31 t12 t25).f2.f1))||(!(((rd_T31 t2 x14_1).f2.f2)==((rd_T31 t12 t25).f2.f2)))))||((!(((rd_T31 t2 x14_1).f3.f0)==((rd_T31 t12 t25).f3.f0))||(!(((rd_T31 t2 x14_1).f3.f1)==((rd_T31 t12 t25).f3.f1))||(!(((rd_T31 t2 x14_1).f3.f2)==((rd_T31 t12 t25).f3.f2)))))||(!(((rd_T31 t2 x14_1).f5)==((rd_T31 t12 t25).f5)))))))=false:=by simpa using c29
   clear c29
   have H':=Aside0.mk H
   clear H
   try go_wp2
   replace HO_9:=am_ (Kd.R_drew HO_9.out)
   replace HO_11:=am_ (Kd.R_drew HO_11.out)
   replace BK11:=am_ (blk_drew BK11.out)
   replace HB:=am_ (below_drew1 HB.out)
   have p23:0≤(x14_1:Int):=of_decide_eq_true zq_
   have q23:x14_1<(t2.length:Int):=of_decide_eq_true zq_
   obtain ⟨ad23,e23,hx23_0,hx23_1,hx23_2,hx23_3,hx23_4,hx23_5,hx23_6,hx23_7,hx23_8,hx23_9,hx23_10,hx23_11⟩:=at_T31 (Kd.R_reads' HO_9.out).2.2 x14_1 p23 q23
   cases e23
   replace p23:=eq_true p23
   replace q23:=eq_true q23
   refine start_ (n:=8) (S:=fun w'=>w'.cell? ⟨gb11,0,none⟩=some (.int .i64 t5)∧w'.cell? ⟨gb11,1,none⟩=some (.string t6)∧w'.cell? ⟨gb11,2,none⟩=some (.string t7)∧w'.cell? ⟨gb11,3,none⟩=some (.int .i64 t8)∧w'.cell? ⟨gb11,4,none⟩=some (.int .i64 t9)∧w'.cell? ⟨gb11,5,none⟩=some (.int .i64 t10)∧w'.cell? (ad23.add ((x14_1).toNat*12))=some (.string ((rd_T31 t2 x14_1).f0))∧w'.cell? ⟨(ad23.add ((x14_1).toNat*12)).block,(ad23.add ((x14_1).toNat*12)).off+1,none⟩=some (.string ((rd_T31 t2 x14_1).f1))∧w'.cell? ⟨(ad23.add ((x14_1).toNat*12)).block,(ad23.add ((x14_1).toNat*12)).off+2,none⟩=some (.int .i64 ((rd_T31 t2 x14_1).f2.f0))∧w'.cell? ⟨(ad23.add ((x14_1).toNat*12)).block,(ad23.add ((x14_1).toNat*12)).off+3,none⟩=some (.int .i64 ((rd_T31 t2 x14_1).f2.f1))∧w'.cell? ⟨(ad23.add ((x14_1).toNat*12)).block,(ad23.add ((x14_1).toNat*12)).off+4,none⟩=some (.int .i64 ((rd_T31 t2 x14_1).f2.f2))∧w'.cell? ⟨(ad23.add ((x14_1).toNat*12)).block,(ad23.add ((x14_1).toNat*12)).off+5,none⟩=some (.int .i64 ((rd_T31 t2 x14_1).f3.f0))∧w'.cell? ⟨(ad23.add ((x14_1).toNat*12)).block,(ad23.add ((x14_1).toNat*12)).off+6,none⟩=some (.int .i64 ((rd_T31 t2 x14_1).f3.f1))∧w'.cell? ⟨(ad23.add ((x14_1).toNat*12)).block,(ad23.add ((x14_1).toNat*12)).off+7,none⟩=some (.int .i64 ((rd_T31 t2 x14_1).f3.f2))∧w'.cell? ⟨(ad23.add ((x14_1).toNat*12)).block,(ad23.add ((x14_1).toNat*12)).off+8,none⟩=some (.int .i64 ((rd_T31 t2 x14_1).f4.f0))∧w'.cell? ⟨(ad23.add ((x14_1).toNat*12)).block,(ad23.add ((x14_1).toNat*12)).off+9,none⟩=some (.int .i64 ((rd_T31 t2 x14_1).f4.f1))∧w'.cell? ⟨(ad23.add ((x14_1).toNat*12)).block,(ad23.add ((x14_1).toNat*12)).off+10,none⟩=some (.int .i64 ((rd_T31 t2 x14_1).f4.f2))∧w'.cell? ⟨(ad23.add ((x14_1).toNat*12)).block,(ad23.add ((x14_1).toNat*12)).off+11,none⟩=some (.int .i64 ((rd_T31 t2 x14_1).f5))) (ds:=[]) (bt_ 8 0) (by kernel_rfl) rfl rfl ⟨(blk_cell BK11.out 0).trans rfl,(blk_cell BK11.out 1).trans rfl,(blk_cell BK11.out 2).trans rfl,(blk_cell BK11.out 3).trans rfl,(blk_cell BK11.out 4).trans rfl,(blk_cell BK11.out 5).trans rfl,hx23_0,hx23_1,hx23_2,hx23_3,hx23_4,hx23_5,hx23_6,hx23_7,hx23_8,hx23_9,hx23_10,hx23_11⟩ (fun hHeld=> ?_);refine with_tabW law15_ShapeRest.tab12 law15_ShapeRest.bits12 (fun HT_ HW_=> ?_)
   generalize wr.drew=w65 at HO_9 HO_11 BK11 HB hx23_0 hx23_1 hx23_10 hx23_11 hx23_2 hx23_3 hx23_4 hx23_5 hx23_6 hx23_7 hx23_8 hx23_9 hHeld ⊢
   refine pu_ (i:=0) (N:=some 50) (bt_ 8 1) HT_ ?_
   refine pu_ (i:=1) (N:=some 51) (bt_ 8 3) HT_ ?_
   refine pu_ (i:=2) (N:=some 52) (bt_ 8 7) HT_ ?_
   refine pu_ (i:=3) (N:=some 53) (bt_ 8 15) HT_ ?_
   refine pu_ (i:=5) (N:=some 55) (bt_ 8 47) HT_ ?_
   refine tk_ (i:=4) (N:=some 54) (bt_ 8 63) HT_ HW_ hHeld ?_
   refine tk_ (i:=6) (N:=some 56) (bt_ 8 127) HT_ HW_ hHeld ?_
   refine pu_ (i:=7) (N:=some 57) (bt_ 8 255) HT_ ?_
   refine done_ (done_of HT_.out (by kernel_rfl)) ?_
   have p24:0≤(x14_1:Int):=of_decide_eq_true zq_
   have q24:x14_1<(t2.length:Int):=of_decide_eq_true zq_
   obtain ⟨ad24,e24,hx24_0,hx24_1,hx24_2,hx24_3,hx24_4,hx24_5,hx24_6,hx24_7,hx24_8,hx24_9,hx24_10,hx24_11⟩:=at_T31 (Kd.R_reads' HO_9.out).2.2 x14_1 p24 q24
   obtain rfl:ad23=ad24:=(by injection e24)
   replace p24:=eq_true p24
   replace q24:=eq_true q24
   obtain ⟨Ao66,co66,eo66⟩:=Kd.R_slice HO_11.out
   subst eo66
   try go_wp2_with (first|((with_reducible refine gate_callee (f:=50) rfl ?_);refine gl_ (some 66) Try.func50 #[.slice Ao66 t12.length co66, .string ((rd_T31 t2 x14_1).f0)] ?_;(with_reducible refine (r10_Find.calls k1 _ _ t12 ((rd_T31 t2 x14_1).f0) t25 _ ?side1 ?side2 A23.out).mono ?_);(case side1=>exact zc_ (Kd.R_reads' HO_11.out).2.2);(case side2=>exact (Kd.R_reads' HO_11.out).2.1);rintro e w' ⟨rfl,⟨nd,rfl⟩⟩;refine ⟨_,rfl, ?_⟩;(try (rw [drewN_self w65];generalize hq_:World.drewN w65 _=w65;have n0_:Aside0 (Kd.R k31 31 w65 w.heap.size (fun k_=>some k_≠(.slice (some ad23) t2.length co17:Value).ownBlock) (.slice Ao66 t12.length co66) t12):=⟨by rw [←hq_];exact (zr_ HO_11)⟩;have n1_:Aside0 (Kd.R k31 31 w65 w.heap.size (fun k_=>some k_≠(.slice Ao66 t12.length co66:Value).ownBlock) (.slice (some ad23) t2.length co17) t2):=⟨by rw [←hq_];exact (zr_ HO_9)⟩;have n2_:Aside0 (w65.heap[gb11]?=some (.cells #[.int .i64 t5, .string t6, .string t7, .int .i64 t8, .int .i64 t9, .int .i64 t10] 58 (0,0))):=⟨by rw [←hq_];exact (zb_ BK11)⟩;have n3_:Aside0 (Below w.heap.size w w65):=⟨by rw [←hq_];exact (zl1_ HB GE11)⟩;clear HO_11 HO_9 BK11 HB hq_;have HO_11:=n0_;have HO_9:=n1_;have BK11:=n2_;have HB:=n3_;clear n0_ n1_ n2_ n3_))))
   replace HO_9:=am_ (Kd.R_drew HO_9.out)
   replace HO_11:=am_ (Kd.R_drew HO_11.out)
   replace BK11:=am_ (blk_drew BK11.out)
   replace HB:=am_ (below_drew1 HB.out)
   have p26:0≤(x14_1:Int):=of_decide_eq_true zq_
   have q26:x14_1<(t2.length:Int):=of_decide_eq_true zq_
   obtain ⟨ad26,e26,hx26_0,hx26_1,hx26_2,hx26_3,hx26_4,hx26_5,hx26_6,hx26_7,hx26_8,hx26_9,hx26_10,hx26_11⟩:=at_T31 (Kd.R_reads' HO_9.out).2.2 x14_1 p26 q26
   obtain rfl:ad23=ad26:=(by injection e26)
   replace p26:=eq_true p26
   replace q26:=eq_true q26
   have p27:0≤(t25:Int):=of_decide_eq_true zq_
   have q27:t25<(t12.length:Int):=of_decide_eq_true zq_
   obtain ⟨ad27,e27,hx27_0,hx27_1,hx27_2,hx27_3,hx27_4,hx27_5,hx27_6,hx27_7,hx27_8,hx27_9,hx27_10,hx27_11⟩:=at_T31 (Kd.R_reads' HO_11.out).2.2 t25 p27 q27
   cases e27
   replace p27:=eq_true p27
   replace q27:=eq_true q27
   clear hx26_0 hx26_1 hx26_2 hx26_3 hx26_4 hx26_5 hx26_6 hx26_7 hx26_8 hx26_9 hx26_10 hx26_11 hx27_0 hx27_1 hx27_2 hx27_3 hx27_4 hx27_5 hx27_6 hx27_7 hx27_8 hx27_9 hx27_10 hx27_11
   refine start_ (n:=12) (S:=fun w'=>Kd.C k31 w' (some ad23) t2.length t2∧Kd.C k31 w' (some ad27) t12.length t12) (ds:=[]) (bt_ 12 0) (by kernel_rfl) rfl rfl ⟨(Kd.R_reads' HO_9.out).2.2,(Kd.R_reads' HO_11.out).2.2⟩ (fun hHeld=> ?_);refine with_tabW law15_ShapeRest.tab17 law15_ShapeRest.bits17 (fun HT_ HW_=> ?_)
   generalize w65.drew=w67 at HO_9 HO_11 BK11 HB hHeld ⊢
   refine pu_ (i:=0) (N:=some 69) (bt_ 12 1) HT_ ?_
   refine pu_ (i:=1) (N:=some 70) (bt_ 12 3) HT_ ?_
   refine pu_ (i:=2) (N:=some 71) (bt_ 12 7) HT_ ?_
   refine pu_ (i:=4) (N:=some 73) (bt_ 12 23) HT_ ?_
   refine pu_ (i:=5) (N:=some 74) (bt_ 12 55) HT_ ?_
   refine pu_ (i:=6) (N:=some 75) (bt_ 12 119) HT_ ?_
   refine take_ (i:=3) (N:=some 72) (v:= ?_) (a':= ?_) (bt_ 12 127) rfl rfl (take_ofW HT_.out HW_.out (by kernel_rfl)) (fun _ _ _ h=>h) (Or.inl ⟨by rfl, ?_⟩) hHeld ?_ ?_
   rotate_left
   ·rintro w' ⟨sA,sB⟩
    obtain ⟨adA,eA,a0,a1,a2,a3,a4,a5,a6,a7,a8,a9,a10,a11⟩:=at_T31 sA x14_1 (of_eq_true p26) (of_eq_true q26)
    obtain rfl:ad23=adA:=(by injection eA)
    go_simp
    with_reducible rfl
   rotate_left
   ·simp only [Act.put,List.setIfInBounds_toArray,List.set_cons_zero,List.set_cons_succ,i64_w,i32_w]
    rfl
   refine take_ (i:=7) (N:=some 76) (v:= ?_) (a':= ?_) (bt_ 12 255) rfl rfl (take_ofW HT_.out HW_.out (by kernel_rfl)) (fun _ _ _ h=>h) (Or.inl ⟨by rfl, ?_⟩) hHeld ?_ ?_
   rotate_left
   ·rintro w' ⟨sA,sB⟩
    obtain ⟨adA,eA,a0,a1,a2,a3,a4,a5,a6,a7,a8,a9,a10,a11⟩:=at_T31 sB t25 (of_eq_true p27) (of_eq_true q27)
    obtain rfl:ad27=adA:=(by injection eA)
    go_simp
    with_reducible rfl
   rotate_left
   ·simp only [Act.put,List.setIfInBounds_toArray,List.set_cons_zero,List.set_cons_succ,i64_w,i32_w]
    rfl
   refine join_ (σ:=Nat×Nat) 2 (bt_ 12 1023) (fun s_=> [(16, .pointer (some ⟨s_.1,0,none⟩)),(17, .pointer (some ⟨s_.2,0,none⟩))]) (fun s_ w'=>Below w67.heap.size w67 w'∧w'.heap[s_.1]?=some (.cells #[.string ⟨#[]⟩, .string ⟨#[]⟩, .int .i64 0, .int .i64 0, .int .i64 0, .int .i64 0, .int .i64 0, .int .i64 0, .int .i64 0, .int .i64 0, .int .i64 0, .int .i64 0] 31 (0,0))∧w'.heap[s_.2]?=some (.cells #[.string ⟨#[]⟩, .string ⟨#[]⟩, .int .i64 0, .int .i64 0, .int .i64 0, .int .i64 0, .int .i64 0, .int .i64 0, .int .i64 0, .int .i64 0, .int .i64 0, .int .i64 0] 31 (0,0))∧w67.heap.size≤s_.1∧w67.heap.size≤s_.2∧s_.1≠s_.2) ?_ ?_
   rotate_left
   ·intro hCont
    refine two_ (i:=8) (j:=9) (Ni:=some 16) (Nj:=some 17) (bt_ 12 511) (bt_ 12 767) rfl rfl rfl rfl (two_of HT_.out (by kernel_rfl)) (by decide) (by decide) (fun K hK=> ?_) (fun K hK=> ?_)
    ·skip
     refine box_step ?hg (N:=16) ?hd (cs:=#[.string ⟨#[]⟩, .string ⟨#[]⟩, .int .i64 0, .int .i64 0, .int .i64 0, .int .i64 0, .int .i64 0, .int .i64 0, .int .i64 0, .int .i64 0, .int .i64 0, .int .i64 0]) (t:=31) ?hr ?_;(case hd=>rfl);(case hg=>rfl);(case hr=>first|(go_simp;done)|(go_simp;rfl))
     intro g1 g1_eq w5 g1_b g1_l
     refine hK.out _ _ ⟨Kd.C_below hHeld.1 g1_l,Kd.C_below hHeld.2 g1_l⟩ (fun hHeld=> ?_)
     clear hK K
     refine no_ (N:=some 16) ?_
     refine on_ (i:=9) (N:=some 17) (bt_ 12 1023) HT_ (fun K hK=> ?_)
     refine box_step ?hg (N:=17) ?hd (cs:=#[.string ⟨#[]⟩, .string ⟨#[]⟩, .int .i64 0, .int .i64 0, .int .i64 0, .int .i64 0, .int .i64 0, .int .i64 0, .int .i64 0, .int .i64 0, .int .i64 0, .int .i64 0]) (t:=31) ?hr ?_;(case hd=>rfl);(case hg=>rfl);(case hr=>first|(go_simp;done)|(go_simp;rfl))
     intro g2 g2_eq w6 g2_b g2_l
     have g12:g1<g2:=by rw [g2_eq];exact blk_lt g1_b
     refine hK.out _ _ ⟨Kd.C_below hHeld.1 g2_l,Kd.C_below hHeld.2 g2_l⟩ (fun hHeld=> ?_)
     clear hK K
     refine no_ (N:=some 17) ?_
     exact norm_ (by simp only [putAll,Act.put,List.setIfInBounds_toArray,List.set_cons_zero,List.set_cons_succ]) (hCont ((g1,g2)) _ ⟨below_step g1_l g2_l,blk_below g1_b g2_l,g2_b,(by rw [g1_eq];exact Nat.le_refl _),(by rw [g2_eq];exact g1_l.size),(Nat.ne_of_lt g12)⟩)
    skip
    refine box_step ?hg (N:=17) ?hd (cs:=#[.string ⟨#[]⟩, .string ⟨#[]⟩, .int .i64 0, .int .i64 0, .int .i64 0, .int .i64 0, .int .i64 0, .int .i64 0, .int .i64 0, .int .i64 0, .int .i64 0, .int .i64 0]) (t:=31) ?hr ?_;(case hd=>rfl);(case hg=>rfl);(case hr=>first|(go_simp;done)|(go_simp;rfl))
    intro g1 g1_eq w5 g1_b g1_l
    refine hK.out _ _ ⟨Kd.C_below hHeld.1 g1_l,Kd.C_below hHeld.2 g1_l⟩ (fun hHeld=> ?_)
    clear hK K
    refine no_ (N:=some 17) ?_
    refine on_ (i:=8) (N:=some 16) (bt_ 12 1023) HT_ (fun K hK=> ?_)
    refine box_step ?hg (N:=16) ?hd (cs:=#[.string ⟨#[]⟩, .string ⟨#[]⟩, .int .i64 0, .int .i64 0, .int .i64 0, .int .i64 0, .int .i64 0, .int .i64 0, .int .i64 0, .int .i64 0, .int .i64 0, .int .i64 0]) (t:=31) ?hr ?_;(case hd=>rfl);(case hg=>rfl);(case hr=>first|(go_simp;done)|(go_simp;rfl))
    intro g2 g2_eq w6 g2_b g2_l
    have g12:g1<g2:=by rw [g2_eq];exact blk_lt g1_b
    refine hK.out _ _ ⟨Kd.C_below hHeld.1 g2_l,Kd.C_below hHeld.2 g2_l⟩ (fun hHeld=> ?_)
    clear hK K
    refine no_ (N:=some 16) ?_
    exact norm_ (by simp only [putAll,Act.put,List.setIfInBounds_toArray,List.set_cons_zero,List.set_cons_succ]) (hCont ((g2,g1)) _ ⟨below_step g1_l g2_l,g2_b,blk_below g1_b g2_l,(by rw [g2_eq];exact g1_l.size),(by rw [g1_eq];exact Nat.le_refl _),(Nat.ne_of_gt g12)⟩)
   rintro ⟨gx,gy⟩ w6 ⟨hB6,hbx,hby,hgx,hgy,hne⟩
   dsimp only at hbx hby hgx hgy hne
   have GX:=Aside0.mk hgx
   have GY:=Aside0.mk hgy
   have NXY:=Aside0.mk hne
   have GEX:=am_ (show w.heap.size≤gx from Nat.le_trans (below_size HB.out) hgx)
   have GEY:=am_ (show w.heap.size≤gy from Nat.le_trans (below_size HB.out) hgy)
   have LX:=am_ (show gb11<gx from Nat.lt_of_lt_of_le (blk_lt BK11.out) hgx)
   have LY:=am_ (show gb11<gy from Nat.lt_of_lt_of_le (blk_lt BK11.out) hgy)
   have n0_:=am_ (Kd.R_below (Kd.R_mono (Kd.R_bound HO_9.out) (fun k_ hk=>(⟨hk.1,hk.2.2.1⟩:_∧k_<w67.heap.size))) hB6)
   have n1_:=am_ (Kd.R_below (Kd.R_mono (Kd.R_bound HO_11.out) (fun k_ hk=>(⟨hk.1,hk.2.2.1⟩:_∧k_<w67.heap.size))) hB6)
   have n2_:=am_ (blk_below BK11.out hB6)
   have n3_:=am_ (below_step HB.out hB6)
   have BX:=Aside0.mk hbx
   have BY:=Aside0.mk hby
   clear HO_9 HO_11 BK11 HB hHeld hB6 hbx hby hgx hgy hne
   have HO_9:=n0_
   have HO_11:=n1_
   have BK11:=n2_
   have HB:=n3_
   clear n0_ n1_ n2_ n3_
   refine norm_ (a':= ?_) ?_ ?_
   rotate_left
   ·simp only [putAll,Act.put,List.setIfInBounds_toArray,List.set_cons_zero,List.set_cons_succ]
    rfl
   refine on_ (i:=10) (N:=none) (bt_ 12 2047) HT_ (fun K hK=> ?_)
   refine store_all_step BX.out (by rfl) 31 (.tmp 16) (.tmp 72) rfl rfl (.agg #[.string (rd_T31 t2 x14_1).f0, .string (rd_T31 t2 x14_1).f1, .int .i64 (rd_T31 t2 x14_1).f2.f0, .int .i64 (rd_T31 t2 x14_1).f2.f1, .int .i64 (rd_T31 t2 x14_1).f2.f2, .int .i64 (rd_T31 t2 x14_1).f3.f0, .int .i64 (rd_T31 t2 x14_1).f3.f1, .int .i64 (rd_T31 t2 x14_1).f3.f2, .int .i64 (rd_T31 t2 x14_1).f4.f0, .int .i64 (rd_T31 t2 x14_1).f4.f1, .int .i64 (rd_T31 t2 x14_1).f4.f2, .int .i64 (rd_T31 t2 x14_1).f5]) [.string (rd_T31 t2 x14_1).f0, .string (rd_T31 t2 x14_1).f1, .int .i64 (rd_T31 t2 x14_1).f2.f0, .int .i64 (rd_T31 t2 x14_1).f2.f1, .int .i64 (rd_T31 t2 x14_1).f2.f2, .int .i64 (rd_T31 t2 x14_1).f3.f0, .int .i64 (rd_T31 t2 x14_1).f3.f1, .int .i64 (rd_T31 t2 x14_1).f3.f2, .int .i64 (rd_T31 t2 x14_1).f4.f0, .int .i64 (rd_T31 t2 x14_1).f4.f1, .int .i64 (rd_T31 t2 x14_1).f4.f2, .int .i64 (rd_T31 t2 x14_1).f5] rfl rfl rfl (by kernel_rfl) rfl (by intro q hq;simp only [List.mem_cons,List.not_mem_nil,or_false] at hq;rcases hq with rfl|rfl|rfl|rfl|rfl|rfl|rfl|rfl|rfl|rfl|rfl|rfl<;>rfl) ?_
   intro w7 hbk hg
   have n0_:=am_ (Kd.R_grown HO_9.out hg (fun k_ hk e=>by have:=hk.2;have:=GX.out;have:=Option.some.inj e;omega))
   have n1_:=am_ (Kd.R_grown HO_11.out hg (fun k_ hk e=>by have:=hk.2;have:=GX.out;have:=Option.some.inj e;omega))
   have n2_:=am_ (blk_put_other BK11.out hg (Nat.ne_of_lt LX.out))
   have n3_:=am_ (below_put HB.out (below_size HB.out) hg GEX.out)
   have n4_:=am_ (blk_put_other BY.out hg (fun e=>NXY.out e.symm))
   have n5_:=Aside0.mk hbk
   clear HO_9 HO_11 BK11 HB BX BY hbk hg
   have HO_9:=n0_
   have HO_11:=n1_
   have BK11:=n2_
   have HB:=n3_
   have BY:=n4_
   have BX:=n5_
   clear n0_ n1_ n2_ n3_ n4_ n5_
   refine hK.out _ _ ⟨(Kd.R_reads' HO_9.out).2.2,(Kd.R_reads' HO_11.out).2.2⟩ (fun hHeld=> ?_)
   clear hK K
   refine on_ (i:=11) (N:=none) (bt_ 12 4095) HT_ (fun K hK=> ?_)
   refine store_all_step BY.out (by rfl) 31 (.tmp 17) (.tmp 76) rfl rfl (.agg #[.string (rd_T31 t12 t25).f0, .string (rd_T31 t12 t25).f1, .int .i64 (rd_T31 t12 t25).f2.f0, .int .i64 (rd_T31 t12 t25).f2.f1, .int .i64 (rd_T31 t12 t25).f2.f2, .int .i64 (rd_T31 t12 t25).f3.f0, .int .i64 (rd_T31 t12 t25).f3.f1, .int .i64 (rd_T31 t12 t25).f3.f2, .int .i64 (rd_T31 t12 t25).f4.f0, .int .i64 (rd_T31 t12 t25).f4.f1, .int .i64 (rd_T31 t12 t25).f4.f2, .int .i64 (rd_T31 t12 t25).f5]) [.string (rd_T31 t12 t25).f0, .string (rd_T31 t12 t25).f1, .int .i64 (rd_T31 t12 t25).f2.f0, .int .i64 (rd_T31 t12 t25).f2.f1, .int .i64 (rd_T31 t12 t25).f2.f2, .int .i64 (rd_T31 t12 t25).f3.f0, .int .i64 (rd_T31 t12 t25).f3.f1, .int .i64 (rd_T31 t12 t25).f3.f2, .int .i64 (rd_T31 t12 t25).f4.f0, .int .i64 (rd_T31 t12 t25).f4.f1, .int .i64 (rd_T31 t12 t25).f4.f2, .int .i64 (rd_T31 t12 t25).f5] rfl rfl rfl (by kernel_rfl) rfl (by intro q hq;simp only [List.mem_cons,List.not_mem_nil,or_false] at hq;rcases hq with rfl|rfl|rfl|rfl|rfl|rfl|rfl|rfl|rfl|rfl|rfl|rfl<;>rfl) ?_
   intro w8 hbk hg
   have n0_:=am_ (Kd.R_grown HO_9.out hg (fun k_ hk e=>by have:=hk.2;have:=GY.out;have:=Option.some.inj e;omega))
   have n1_:=am_ (Kd.R_grown HO_11.out hg (fun k_ hk e=>by have:=hk.2;have:=GY.out;have:=Option.some.inj e;omega))
   have n2_:=am_ (blk_put_other BK11.out hg (Nat.ne_of_lt LY.out))
   have n3_:=am_ (below_put HB.out (below_size HB.out) hg GEY.out)
   have n4_:=am_ (blk_put_other BX.out hg (NXY.out))
   have n5_:=Aside0.mk hbk
   clear HO_9 HO_11 BK11 HB BX BY hbk hg
   have HO_9:=n0_
   have HO_11:=n1_
   have BK11:=n2_
   have HB:=n3_
   have BX:=n4_
   have BY:=n5_
   clear n0_ n1_ n2_ n3_ n4_ n5_
   refine hK.out _ _ ⟨(Kd.R_reads' HO_9.out).2.2,(Kd.R_reads' HO_11.out).2.2⟩ (fun hHeld=> ?_)
   clear hK K
   refine done_ (done_of HT_.out (by kernel_rfl)) ?_
   clear hHeld
   have cx_0:=(blk_cell BX.out 0).trans rfl
   have cx_1:=(blk_cell BX.out 1).trans rfl
   have cx_2:=(blk_cell BX.out 2).trans rfl
   have cx_3:=(blk_cell BX.out 3).trans rfl
   have cx_4:=(blk_cell BX.out 4).trans rfl
   have cx_5:=(blk_cell BX.out 5).trans rfl
   have cx_6:=(blk_cell BX.out 6).trans rfl
   have cx_7:=(blk_cell BX.out 7).trans rfl
   have cx_8:=(blk_cell BX.out 8).trans rfl
   have cx_9:=(blk_cell BX.out 9).trans rfl
   have cx_10:=(blk_cell BX.out 10).trans rfl
   have cx_11:=(blk_cell BX.out 11).trans rfl
   have cy_0:=(blk_cell BY.out 0).trans rfl
   have cy_1:=(blk_cell BY.out 1).trans rfl
   have cy_2:=(blk_cell BY.out 2).trans rfl
   have cy_3:=(blk_cell BY.out 3).trans rfl
   have cy_4:=(blk_cell BY.out 4).trans rfl
   have cy_5:=(blk_cell BY.out 5).trans rfl
   have cy_6:=(blk_cell BY.out 6).trans rfl
   have cy_7:=(blk_cell BY.out 7).trans rfl
   have cy_8:=(blk_cell BY.out 8).trans rfl
   have cy_9:=(blk_cell BY.out 9).trans rfl
   have cy_10:=(blk_cell BY.out 10).trans rfl
   have cy_11:=(blk_cell BY.out 11).trans rfl
   go_wp2_with ((with_reducible refine gate_store (t:=27) (p:=79) (v:= .tmp 78) rfl ?_);refine store_part BX.out 27 (.tmp 79) (.tmp 78) rfl rfl rfl 8 (.agg #[.int .i64 (rd_T31 t12 t25).f4.f0, .int .i64 (rd_T31 t12 t25).f4.f1, .int .i64 (rd_T31 t12 t25).f4.f2]) [.int .i64 (rd_T31 t12 t25).f4.f0, .int .i64 (rd_T31 t12 t25).f4.f1, .int .i64 (rd_T31 t12 t25).f4.f2] [.string (rd_T31 t2 x14_1).f0, .string (rd_T31 t2 x14_1).f1, .int .i64 (rd_T31 t2 x14_1).f2.f0, .int .i64 (rd_T31 t2 x14_1).f2.f1, .int .i64 (rd_T31 t2 x14_1).f2.f2, .int .i64 (rd_T31 t2 x14_1).f3.f0, .int .i64 (rd_T31 t2 x14_1).f3.f1, .int .i64 (rd_T31 t2 x14_1).f3.f2, .int .i64 (rd_T31 t12 t25).f4.f0, .int .i64 (rd_T31 t12 t25).f4.f1, .int .i64 (rd_T31 t12 t25).f4.f2, .int .i64 (rd_T31 t2 x14_1).f5] rfl rfl rfl (by kernel_rfl) (Nat.le_of_ble_eq_true (by kernel_rfl)) (by intro q hq;simp only [List.mem_cons,List.not_mem_nil,or_false] at hq;rcases hq with rfl|rfl|rfl<;>rfl) (by kernel_rfl) ?_;intro w9 hbk hg;clear cx_0 cx_1 cx_2 cx_3 cx_4 cx_5 cx_6 cx_7 cx_8 cx_9 cx_10 cx_11 cy_0 cy_1 cy_2 cy_3 cy_4 cy_5 cy_6 cy_7 cy_8 cy_9 cy_10 cy_11;have n0_:=am_ (Kd.R_grown HO_9.out hg (fun k_ hk e=>by have:=hk.2;have:=GX.out;have:=Option.some.inj e;omega));have n1_:=am_ (Kd.R_grown HO_11.out hg (fun k_ hk e=>by have:=hk.2;have:=GX.out;have:=Option.some.inj e;omega));have n2_:=am_ (blk_put_other BK11.out hg (Nat.ne_of_lt LX.out));have n3_:=am_ (below_put HB.out (below_size HB.out) hg GEX.out);have n4_:=am_ (blk_put_other BY.out hg (fun e=>NXY.out e.symm));have n5_:=Aside0.mk hbk;clear HO_9 HO_11 BK11 HB BX BY hbk hg;have HO_9:=n0_;have HO_11:=n1_;have BK11:=n2_;have HB:=n3_;have BY:=n4_;have BX:=n5_;clear n0_ n1_ n2_ n3_ n4_ n5_;have cx_0:=(blk_cell BX.out 0).trans rfl;have cx_1:=(blk_cell BX.out 1).trans rfl;have cx_2:=(blk_cell BX.out 2).trans rfl;have cx_3:=(blk_cell BX.out 3).trans rfl;have cx_4:=(blk_cell BX.out 4).trans rfl;have cx_5:=(blk_cell BX.out 5).trans rfl;have cx_6:=(blk_cell BX.out 6).trans rfl;have cx_7:=(blk_cell BX.out 7).trans rfl;have cx_8:=(blk_cell BX.out 8).trans rfl;have cx_9:=(blk_cell BX.out 9).trans rfl;have cx_10:=(blk_cell BX.out 10).trans rfl;have cx_11:=(blk_cell BX.out 11).trans rfl;have cy_0:=(blk_cell BY.out 0).trans rfl;have cy_1:=(blk_cell BY.out 1).trans rfl;have cy_2:=(blk_cell BY.out 2).trans rfl;have cy_3:=(blk_cell BY.out 3).trans rfl;have cy_4:=(blk_cell BY.out 4).trans rfl;have cy_5:=(blk_cell BY.out 5).trans rfl;have cy_6:=(blk_cell BY.out 6).trans rfl;have cy_7:=(blk_cell BY.out 7).trans rfl;have cy_8:=(blk_cell BY.out 8).trans rfl;have cy_9:=(blk_cell BY.out 9).trans rfl;have cy_10:=(blk_cell BY.out 10).trans rfl;have cy_11:=(blk_cell BY.out 11).trans rfl)
   go_roundg k1
   case measure=>have:=HK1.out;omega
   case rel=>exact ⟨(wrap64 (x13_1+1)),(wrap64 (x14_1+1)),(by first|rfl|(simp;done)|(simp [*];done)),(by first|rfl|(simp;done)|(simp [*];done)),H',⟨by have:=HK1.out;omega⟩,⟨Kd.R_mono HO_9.out (fun _ hk=>hk.1)⟩,⟨Kd.R_mono HO_11.out (fun _ hk=>hk.1)⟩,BK11,HB⟩
def law15_ShapeRest.Pure:Prop:= ∀(l0:List Int) (a1:Int) (a2:Int) (a3:Int),l0.length≤maxLen→l0.length*1≤140737488351232→(∀x∈l0,(Lit.int .u8 x).wf=true)→(Lit.int .u8 a1).wf=true→(Lit.int .u8 a2).wf=true→(Lit.int .u8 a3).wf=true→ ∃k,law15_ShapeRest.f k l0 a1 a2 a3=some true
theorem law15_ShapeRest.walk (P:law15_ShapeRest.Pure) (a0:Option Addr) (len0 cap0:Nat) (z0:List Int) (a1:Int) (a2:Int) (a3:Int) (w:World) (w0:(a0=none∧len0=0∧cap0=0∧z0=[])∨ ∃x,a0=some x∧len0≤cap0∧cap0≤maxLen∧z0.length=cap0∧(∀i,i<z0.length→w.cell? (x.add i)=some (.int .u8 (z0.getD i 0)))∧ ∀n∈z0,(Lit.int .u8 n).wf=true) (y0:len0*1≤140737488351232) (w1:(Lit.int .u8 a1).wf=true) (w2:(Lit.int .u8 a2).wf=true) (w3:(Lit.int .u8 a3).wf=true):
  Calls Try.prog 27 #[.slice a0 len0 cap0, .int .u8 a1, .int .u8 a2, .int .u8 a3] w fun e w'=>e= .returned (.bool true)∧Below w.heap.size w w':=by
 obtain ⟨l0,rfl,hr0,hm0,hw0,hc0⟩:=ReadsInt.ofRowC w0
 obtain ⟨k,h⟩:=P l0 a1 a2 a3 hm0 y0 hw0 w1 w2 w3
 refine (law15_ShapeRest.calls k _ _ l0 a1 a2 a3 true w (Kd.C_of_reads (d:=(0:Int)) (h1:=fun _=>rfl) hr0) hc0 h).mono ?_
 rintro e w' ⟨rfl,hd⟩
 exact ⟨rfl,hd⟩

end Go.Proofs.Ytcgefpklljclgaa.Print

namespace Go.Proofs.Ytcgefpklljclgaa.Print
open Go.RowKit Go.Proofs.YtcgefpklljclgaaW.PrintWords Go.Proofs.YtcgefpklljclgaaW.PrintLast
abbrev Item:=S31
abbrev Vec:=S27
abbrev zItem:Item:=z31
theorem rd_item (l:List Item) (i:Int):rd_T31 l i=l.getD i.toNat zItem:=rfl
instance baLawful:LawfulBEq ByteArray where
 eq_of_beq {a b} h:=by
  obtain ⟨a⟩:=a
  obtain ⟨b⟩:=b
  have:(a==b)=true:=h
  rw [eq_of_beq this]
 rfl {a}:=by
  obtain ⟨a⟩:=a
  show (a==a)=true
  exact beq_self_eq_true a
theorem nm_inj {a b:ByteArray}:a.toList=b.toList↔a=b:=by
  constructor
  rotate_left
  · rintro rfl;rfl
  intro h
  rw [ByteArray.toList_eq,ByteArray.toList_eq] at h
  exact ByteArray.ext (Array.toList_inj.1 h)
theorem nm_beq (a b:ByteArray):(a.toList==b.toList)=decide (a=b):=by
 rw [Bool.eq_iff_iff,beq_iff_eq,nm_inj,decide_eq_true_iff]
theorem nm_empty {a:ByteArray}:a.toList=([]:List UInt8)↔a=⟨#[]⟩:=by
 rw [←nm_inj];rw [show (ByteArray.mk #[]).toList=[] from by rw [ByteArray.toList_eq]]
theorem Ev.const {α:Type} {g:Option α} {r:α} (h:g=some r):Ev (fun _=>g) r:=⟨0,fun _ _=>h⟩
theorem w64 {n:Int} (h0: -9223372036854775808≤n) (h1:n≤9223372036854775807):wrap64 n=n:=by unfold wrap64;omega
def look (l:List Item) (n:ByteArray):Option Item:=l.find? (fun x=>x.f0=n)
def fnd (l:List Item) (n:ByteArray):Int:=fidx (fun x:Item=>x.f0.toList==n.toList) l 0
theorem fidx_none {α:Type} {p:α→Bool}: ∀{l:List α} {i:Int},(∀x∈l,p x=false)→fidx p l i= -1
  |[],_,_=>rfl
  | x :: l, i, h => by
    unfold fidx
    rw [if_neg (by rw [h x (by simp)];simp)]
    exact fidx_none (fun y hy=>h y (by simp [hy]))
theorem fidx_some {α:Type} {p:α→Bool} (z:α): ∀{l:List α} {i:Int} {x:α},l.find? p=some x→ ∃j:Nat,j<l.length∧fidx p l i=i+j∧l.getD j z=x∧p x=true∧ ∀m,m<j→p (l.getD m z)=false
  |[],_,_,h=>by simp at h
  | y :: l, i, x, h => by
    unfold fidx
    by_cases hy:p y=true
    · rw [if_pos hy]
      simp only [List.find?_cons,hy] at h
      obtain rfl:=Option.some.inj h
      exact ⟨0,by simp,by simp,by simp,hy,fun m hm=>by omega⟩
    rw [if_neg hy]
    have hy':p y=false:=by simpa using hy
    simp only [List.find?_cons,hy'] at h
    obtain ⟨j,hj,h1,h2,h3,h4⟩:=fidx_some z (i:=i+1) h
    refine ⟨j+1,by simp;omega,by rw [h1];omega,by simpa using h2,h3,fun m hm=> ?_⟩
    cases m with
    |zero=>simpa using hy'
    |succ m=>simpa using h4 m (by omega)
theorem look_pred (n:ByteArray):(fun x:Item=>x.f0.toList==n.toList)=(fun x:Item=>decide (x.f0=n)):=by
 funext x;exact nm_beq _ _
theorem look_mem {l:List Item} {n:ByteArray} {x:Item} (h:look l n=some x):x∈l∧x.f0=n:=by
 unfold look at h
 exact ⟨List.mem_of_find?_eq_some h,by simpa using List.find?_some h⟩
theorem look_none {l:List Item} {n:ByteArray}:look l n=none↔ ∀x∈l,x.f0≠n:=by
 unfold look
 simp
theorem fnd_none {l:List Item} {n:ByteArray} (h:look l n=none):fnd l n= -1:=by
 unfold fnd
 refine fidx_none fun x hx=> ?_
 rw [nm_beq]
 simpa using look_none.1 h x hx
theorem fnd_some {l:List Item} {n:ByteArray} {x:Item} (h:look l n=some x): ∃j:Nat,j<l.length∧fnd l n=j∧l.getD j zItem=x∧x.f0=n∧ ∀m,m<j→(l.getD m zItem).f0≠n:=by
 have h':l.find? (fun x:Item=>x.f0.toList==n.toList)=some x:=by rw [look_pred];exact h
 obtain ⟨j,h1,h2,h3,h4,h5⟩:=fidx_some zItem (i:=0) h'
 refine ⟨j,h1,by unfold fnd;rw [h2];omega,h3,by simpa [nm_beq] using h4,fun m hm=> ?_⟩
 simpa [nm_beq] using h5 m hm
theorem fnd_lt (l:List Item) (n:ByteArray):fnd l n<l.length:=by
 cases h:look l n with
 |none=>rw [fnd_none h];omega
 |some x=>obtain ⟨j,h1,h2,_⟩:=fnd_some h;omega
theorem fnd_neg {l:List Item} {n:ByteArray}:fnd l n<0↔look l n=none:=by
 cases h:look l n with
 |none=>rw [fnd_none h];simp
 |some x=>obtain ⟨j,h1,h2,_⟩:=fnd_some h;simp;omega
theorem fnd_ge {l:List Item} {n:ByteArray}:0≤fnd l n↔ ∃x,look l n=some x:=by
 cases h:look l n with
 |none=>rw [fnd_none h];simp
 |some x=>obtain ⟨j,h1,h2,_⟩:=fnd_some h;simp;omega
theorem fnd_rd {l:List Item} {n:ByteArray} {x:Item} (h:look l n=some x):rd_T31 l (fnd l n)=x:=by
 obtain ⟨j,h1,h2,h3,_⟩:=fnd_some h
 rw [rd_item,h2,Int.toNat_natCast];exact h3
theorem tree_Find_eq (l:List Item) (n:ByteArray):tree_Find.f l n=some (fnd l n):=rfl
inductive Chain (l:List Item):ByteArray→List ByteArray→Prop where
 |nil {n:ByteArray}:look l n=none→Chain l n []
 |cons {n:ByteArray} {x:Item} {us:List ByteArray}:look l n=some x→Chain l x.f1 us→Chain l n (n::us)
def upGo (l:List Item):Nat→ByteArray→List ByteArray
  |0,_=> []
  | m + 1, n => match look l n with
    |none=> []
    |some x=>n::upGo l m x.f1
def up (l:List Item) (n:ByteArray):List ByteArray:=upGo l (l.length+1) n
theorem upGo_len (l:List Item): ∀(m:Nat) (n:ByteArray),(upGo l m n).length≤m
  |0,_=>by simp [upGo]
  | m + 1, n => by
    unfold upGo
    cases look l n with
    |none=>simp
    |some x=>have:=upGo_len l m x.f1;simp;omega
theorem up_len (l:List Item) (n:ByteArray):(up l n).length≤l.length+1:=upGo_len l _ n
theorem upGo_none {l:List Item} {n:ByteArray} (h:look l n=none) (m:Nat):upGo l m n=[]:=by
 cases m with
 |zero=>rfl
 |succ m=>unfold upGo;rw [h]
theorem upGo_some {l:List Item} {n:ByteArray} {x:Item} (h:look l n=some x) (m:Nat):upGo l (m+1) n=n::upGo l m x.f1:=by
 rw [upGo.eq_2,h]
theorem Chain.det {l:List Item} {n:ByteArray} {us:List ByteArray} (h:Chain l n us): ∀{vs:List ByteArray},Chain l n vs→us=vs:=by
  induction h with
  | nil h =>
    intro vs k
    cases k with
    |nil _=>rfl
    |cons k _=>rw [h] at k;cases k
  | cons h _ ih =>
    intro vs k
    cases k with
    |nil k=>rw [h] at k;cases k
    | cons k k2 =>
      rw [h] at k
      cases k
      rw [ih k2]
theorem Chain.upGo {l:List Item} {n:ByteArray} {us:List ByteArray} (h:Chain l n us): ∀m,us.length≤m→upGo l m n=us:=by
  induction h with
  |nil h=>intro m _;exact upGo_none h m
  | cons h _ ih =>
    intro m hm
    cases m with
    |zero=>simp at hm
    | succ m =>
      rw [upGo_some h,ih m (by simpa using hm)]
theorem Chain.suffix {l:List Item} {n:ByteArray} {us:List ByteArray} (h:Chain l n us): ∀{m:ByteArray},m∈us→ ∃vs ws,us=ws++vs∧Chain l m vs∧ ∃vt,vs=m::vt:=by
  induction h with
  |nil _=>intro m hm;cases hm
  | @cons n x us h k ih =>
    intro m hm
    rcases List.mem_cons.1 hm with rfl|hm
    · exact ⟨_,[],rfl, .cons h k,_,rfl⟩
    obtain ⟨vs,ws,e,hc,he⟩:=ih hm
    exact ⟨vs,n::ws,by rw [e];rfl,hc,he⟩
theorem Chain.mem_look {l:List Item} {n:ByteArray} {us:List ByteArray} (h:Chain l n us) {m:ByteArray} (hm:m∈us): ∃x,look l m=some x:=by
 obtain ⟨vs,ws,_,hc,vt,rfl⟩:=h.suffix hm
 cases hc with
 |cons h _=>exact ⟨_,h⟩
theorem Chain.nodup {l:List Item} {n:ByteArray} {us:List ByteArray} (h:Chain l n us):us.Nodup:=by
  induction h with
  |nil _=>simp
  | @cons n x us h k ih =>
    rw [List.nodup_cons]
    refine ⟨fun hm=> ?_,ih⟩
    obtain ⟨vs,ws,e,hc,_⟩:=k.suffix hm
    have:=hc.det (.cons h k)
    rw [this] at e
    have:=congrArg List.length e
    simp at this
    omega
theorem Chain.len {l:List Item} {n:ByteArray} {us:List ByteArray} (h:Chain l n us):us.length≤l.length:=by
 have:=h.nodup.length_le_of_subset (l₂:=l.map (·.f0)) (fun m hm=>by
  obtain ⟨x,hx⟩:=h.mem_look hm
  obtain ⟨h1,rfl⟩:=look_mem hx
  exact List.mem_map_of_mem h1)
 simpa using this
theorem Chain.up {l:List Item} {n:ByteArray} {us:List ByteArray} (h:Chain l n us):up l n=us:=h.upGo _ (by have:=h.len;omega)
def lt (a b:ByteArray):Bool:=Op.bytesLess a.toList b.toList
theorem bl_irrefl: ∀a:List UInt8,Op.bytesLess a a=false
 |[]=>rfl
 |x::a=>by unfold Op.bytesLess;simp [bl_irrefl a]
theorem bl_trans: ∀{a b c:List UInt8},Op.bytesLess a b=true→Op.bytesLess b c=true→Op.bytesLess a c=true
  |[],[],_,h,_=>by simp [Op.bytesLess] at h
  |[],_::_,[],_,k=>by simp [Op.bytesLess] at k
  |[],_::_,_::_,_,_=>by simp [Op.bytesLess]
  |_::_,[],_,h,_=>by simp [Op.bytesLess] at h
  |_::_,_::_,[],_,k=>by simp [Op.bytesLess] at k
  | x :: a, y :: b, z :: c, h, k => by
    simp only [Op.bytesLess,Bool.or_eq_true,Bool.and_eq_true,decide_eq_true_eq,beq_iff_eq] at h k ⊢
    rcases h with h|⟨rfl,h⟩
    · rcases k with k | ⟨rfl, k⟩
      · exact .inl (UInt8.lt_trans h k)
      exact .inl h
    rcases k with k|⟨rfl,k⟩
    · exact .inl k
    exact .inr ⟨rfl,bl_trans h k⟩
theorem bl_total: ∀{a b:List UInt8},Op.bytesLess a b=false→a≠b→Op.bytesLess b a=true
  |[],[],_,h=>absurd rfl h
  |[],_::_,h,_=>by simp [Op.bytesLess] at h
  |_::_,[],_,_=>by simp [Op.bytesLess]
  | x :: a, y :: b, h, k => by
    simp only [Op.bytesLess,Bool.or_eq_true,Bool.or_eq_false_iff,Bool.and_eq_false_iff,Bool.and_eq_true,decide_eq_true_eq,decide_eq_false_iff_not,beq_iff_eq,beq_eq_false_iff_ne] at h ⊢
    obtain ⟨h1,h2⟩:=h
    by_cases e:x=y
    · subst e
      rcases h2 with h2|h2
      · exact absurd rfl h2
      exact .inr ⟨rfl,bl_total h2 (fun e=>k (by rw [e]))⟩
    left
    have h3: ¬x.toNat<y.toNat:=by rwa [←UInt8.lt_iff_toNat_lt]
    have h4:x.toNat≠y.toNat:=fun q=>e (UInt8.toNat_inj.1 q)
    rw [UInt8.lt_iff_toNat_lt];omega
theorem lt_irrefl (a:ByteArray):lt a a=false:=bl_irrefl _
theorem lt_trans {a b c:ByteArray} (h:lt a b=true) (k:lt b c=true):lt a c=true:=bl_trans h k
theorem lt_total {a b:ByteArray} (h:lt a b=false) (k:a≠b):lt b a=true:=bl_total h (fun e=>k (nm_inj.1 e))
theorem lt_ne {a b:ByteArray} (h:lt a b=true):a≠b:=by rintro rfl;rw [lt_irrefl] at h;cases h
inductive Comp where|cpu|mem|pods
def Comp.of:Comp→Vec→Int| .cpu,v=>v.f0| .mem,v=>v.f1| .pods,v=>v.f2
def vadd (a b:Vec):Vec:=⟨a.f0+b.f0,a.f1+b.f1,a.f2+b.f2⟩
def vsub (a b:Vec):Vec:=⟨a.f0 - b.f0,a.f1 - b.f1,a.f2 - b.f2⟩
theorem of_vadd (c:Comp) (a b:Vec):c.of (vadd a b)=c.of a+c.of b:=by cases c<;>rfl
theorem of_vsub (c:Comp) (a b:Vec):c.of (vsub a b)=c.of a - c.of b:=by cases c<;>rfl
def MayP (v:Vec):Prop:= ∀c:Comp,0≤c.of v∧c.of v≤1099511627776
def LeP (a b:Vec):Prop:= ∀c:Comp,c.of a≤c.of b
theorem comp_all {p:Comp→Prop}:(∀c,p c)↔p .cpu∧p .mem∧p .pods:=
 ⟨fun h=>⟨h _,h _,h _⟩,fun ⟨a,b,d⟩ c=>by cases c<;>assumption⟩
instance (v:Vec):Decidable (MayP v):=decidable_of_iff _ comp_all.symm
instance (a b:Vec):Decidable (LeP a b):=decidable_of_iff _ comp_all.symm
theorem mayP_iff {a b d:Int}:MayP ⟨a,b,d⟩↔(0≤a∧a≤1099511627776)∧(0≤b∧b≤1099511627776)∧(0≤d∧d≤1099511627776):=comp_all
theorem leP_iff {a b d a' b' d':Int}:LeP ⟨a,b,d⟩ ⟨a',b',d'⟩↔a≤a'∧b≤b'∧d≤d':=comp_all
def sumBy (g:Item→Int) (l:List Item):Int:=(l.map g).sum
theorem sumBy_nil (g:Item→Int):sumBy g []=0:=rfl
theorem sumBy_cons (g:Item→Int) (x:Item) (l:List Item):sumBy g (x::l)=g x+sumBy g l:=by simp [sumBy]
theorem sumBy_append (g:Item→Int) (l m:List Item):sumBy g (l++m)=sumBy g l+sumBy g m:=by simp [sumBy]
theorem sumBy_congr {g h:Item→Int}: ∀{l:List Item},(∀x∈l,g x=h x)→sumBy g l=sumBy h l
 |[],_=>rfl
 |x::l,e=>by rw [sumBy_cons,sumBy_cons,e x (by simp),sumBy_congr (fun y hy=>e y (by simp [hy]))]
theorem sumBy_add (g h:Item→Int): ∀l:List Item,sumBy (fun x=>g x+h x) l=sumBy g l+sumBy h l
 |[]=>rfl
 |x::l=>by rw [sumBy_cons,sumBy_cons,sumBy_cons,sumBy_add g h l];omega
theorem sumBy_sub (g h:Item→Int): ∀l:List Item,sumBy (fun x=>g x - h x) l=sumBy g l - sumBy h l
 |[]=>rfl
 |x::l=>by rw [sumBy_cons,sumBy_cons,sumBy_cons,sumBy_sub g h l];omega
theorem sumBy_map (g:Item→Int) (f:Item→Item): ∀l:List Item,sumBy g (l.map f)=sumBy (fun x=>g (f x)) l
 |[]=>rfl
 |x::l=>by rw [List.map_cons,sumBy_cons,sumBy_cons,sumBy_map g f l]
theorem sumBy_zero {g:Item→Int}: ∀{l:List Item},(∀x∈l,g x=0)→sumBy g l=0
 |[],_=>rfl
 |x::l,e=>by rw [sumBy_cons,e x (by simp),sumBy_zero (fun y hy=>e y (by simp [hy]))];rfl
theorem sumBy_nonneg {g:Item→Int}: ∀{l:List Item},(∀x∈l,0≤g x)→0≤sumBy g l
 |[],_=>by simp [sumBy_nil]
 |x::l,e=>by rw [sumBy_cons];have:=e x (by simp);have:=sumBy_nonneg (l:=l) (fun y hy=>e y (by simp [hy]));omega
theorem sumBy_one {v:Int} {l:List Item} (hn:(l.map (·.f0)).Nodup) {x:Item} (hx:x∈l):sumBy (fun y=>if y.f0=x.f0 then v else 0) l=v:=by
  induction l with
  |nil=>cases hx
  | cons y l ih =>
    rw [List.map_cons,List.nodup_cons] at hn
    rw [sumBy_cons]
    rcases List.mem_cons.1 hx with rfl|hx
    · rw [if_pos rfl,sumBy_zero (fun z hz=>if_neg (fun e=>hn.1 (by rw [←e];exact List.mem_map_of_mem hz)))];omega
    rw [if_neg (fun e=>hn.1 (by rw [e];exact List.mem_map_of_mem hx)),ih hn.2 hx];omega
def csum (c:Comp) (l:List Item) (n:ByteArray):Int:=sumBy (fun y=>if y.f1=n then c.of y.f4 else 0) l
structure ItemOK (x:Item):Prop where
 name:x.f0≠⟨#[]⟩
 size:x.f0.size≤24
 lim:MayP x.f2
 own:MayP x.f3
 sub:MayP x.f4
 fit:LeP x.f4 x.f2
 ver:1≤x.f5∧x.f5≤9007199254740992
structure RightP (l:List Item):Prop where
 len:l.length≤120
 ok: ∀x∈l,ItemOK x
 sorted:l.Pairwise (fun x y=>lt x.f0 y.f0=true)
 par: ∀x∈l,x.f1=⟨#[]⟩∨ ∃y,look l x.f1=some y
 sum: ∀c:Comp,∀x∈l,c.of x.f4=c.of x.f3+csum c l x.f0
 chain: ∀x∈l,∃us,Chain l x.f0 us
theorem sorted_nodup {l:List Item} (h:l.Pairwise (fun x y=>lt x.f0 y.f0=true)):(l.map (·.f0)).Nodup:=by
 rw [List.Nodup,List.pairwise_map]
 exact h.imp (fun hxy=>lt_ne hxy)
theorem RightP.nodup {l:List Item} (h:RightP l):(l.map (·.f0)).Nodup:=sorted_nodup h.sorted
theorem look_of_mem {l:List Item} (hn:(l.map (·.f0)).Nodup) {x:Item} (hx:x∈l):look l x.f0=some x:=by
  induction l with
  |nil=>cases hx
  | cons y l ih =>
    rw [List.map_cons,List.nodup_cons] at hn
    unfold look
    rw [List.find?_cons]
    rcases List.mem_cons.1 hx with rfl|hx
    · simp
    have:y.f0≠x.f0:=fun e=>hn.1 (by rw [e];exact List.mem_map_of_mem hx)
    simp only [this,decide_false]
    exact ih hn.2 hx
theorem RightP.look {l:List Item} (h:RightP l) {x:Item} (hx:x∈l):look l x.f0=some x:=look_of_mem h.nodup hx
theorem RightP.chainAll {l:List Item} (h:RightP l) (n:ByteArray):Chain l n (up l n):=by
  cases hl:Print.look l n with
  |none=>have c:=Chain.nil hl;rw [c.up];exact c
  | some x =>
    obtain ⟨hx,rfl⟩:=look_mem hl
    obtain ⟨us,c⟩:=h.chain x hx
    rw [c.up];exact c
theorem right_nil:RightP []:=⟨by simp,by simp,by simp,by simp,by simp,by simp⟩
theorem RightP.eq_of {l:List Item} (h:RightP l) {x y:Item} (hx:x∈l) (hy:y∈l) (e:x.f0=y.f0):x=y:=by
 have h1:=h.look hx
 rw [e,h.look hy] at h1
 exact (Option.some.inj h1).symm
theorem look_map {f:Item→Item} (hf: ∀x,(f x).f0=x.f0) (l:List Item) (n:ByteArray):look (l.map f) n=(look l n).map f:=by
 unfold look
 rw [List.find?_map]
 congr 2
 funext x
 simp [hf]
theorem Chain.map {f:Item→Item} (hf: ∀x,(f x).f0=x.f0) (hp: ∀x,(f x).f1=x.f1) {l:List Item} {n:ByteArray} {us:List ByteArray} (h:Chain l n us):Chain (l.map f) n us:=by
 induction h with
 |nil h=>exact .nil (by rw [look_map hf,h];rfl)
 |@cons n x us h k ih=>exact .cons (x:=f x) (by rw [look_map hf,h];rfl) (by rw [hp];exact ih)
theorem up_self {l:List Item} {n:ByteArray} {x:Item} (h:look l n=some x):n∈up l n:=by
 unfold up
 rw [upGo_some h]
 simp
theorem chain_kids {l:List Item} (hl:RightP l) {n:ByteArray} {us:List ByteArray} (h:Chain l n us) (v:Int) {x:Item} (hx:x∈l):
    sumBy (fun y=>if y.f1=x.f0∧y.f0∈us then v else 0) l=if x.f0∈us∧x.f0≠n then v else 0:=by
  induction h with
  |nil _=>rw [sumBy_zero (fun y _=>by simp)];simp
  | @cons n z us h k ih =>
    obtain ⟨hz,rfl⟩:=look_mem h
    have hnd:=(Chain.cons h k).nodup
    rw [List.nodup_cons] at hnd
    have e:sumBy (fun y=>if y.f1=x.f0∧y.f0∈z.f0::us then v else 0) l=sumBy (fun y=>(if y.f0=z.f0 then (if z.f1=x.f0 then v else 0) else 0)+(if y.f1=x.f0∧y.f0∈us then v else 0)) l:=by
      refine sumBy_congr fun y hy=> ?_
      by_cases e1:y.f0=z.f0
      rotate_left
      · simp [e1]
      have:=hl.eq_of hy hz e1
      subst this
      by_cases e2:y.f1=x.f0<;>simp [e2,hnd.1]
    rw [e,sumBy_add,ih,sumBy_one hl.nodup hz]
    by_cases e2:z.f1=x.f0
    rotate_left
    · by_cases e3 : x.f0 = z.f0
      · simp [e2, e3, hnd.1]
        exact fun q=>absurd (q.trans e3.symm) e2
      have e4:x.f0≠z.f1:=fun q=>e2 q.symm
      simp [e2,e3,e4]
    have hm:x.f0∈us:=by
      rw [e2] at k
      cases k with
      |nil k=>rw [hl.look hx] at k;cases k
      |cons _ _=>simp
    have hne:x.f0≠z.f0:=fun q=>hnd.1 (by rw [←q];exact hm)
    simp [e2,hm,hne]
def admF (us:List ByteArray) (n:ByteArray) (v:Vec) (x:Item):Item:=⟨x.f0,x.f1,x.f2,if x.f0=n then vadd x.f3 v else x.f3,if x.f0∈us then vadd x.f4 v else x.f4,x.f5⟩
def admL (l:List Item) (n:ByteArray) (v:Vec):List Item:=l.map (admF (up l n) n v)
theorem csum_adm {l:List Item} (hl:RightP l) (c:Comp) (n:ByteArray) (v:Vec) {x:Item} (hx:x∈l):
  csum c (admL l n v) x.f0=csum c l x.f0+if x.f0∈up l n∧x.f0≠n then c.of v else 0:=by
 unfold csum admL
 rw [sumBy_map,←chain_kids hl (hl.chainAll n) (c.of v) hx,←sumBy_add]
 refine sumBy_congr fun y hy=> ?_
 simp only [admF]
 by_cases e1:y.f1=x.f0<;>by_cases e2:y.f0∈up l n<;>simp [e1,e2,of_vadd]
theorem adm_right {l:List Item} (hl:RightP l) {n:ByteArray} (v:Vec) (hin: ∃x,look l n=some x)
    (hown: ∀x∈l,x.f0=n→MayP (vadd x.f3 v)) (hsub: ∀x∈l,x.f0∈up l n→MayP (vadd x.f4 v)) (hfit: ∀x∈l,x.f0∈up l n→LeP (vadd x.f4 v) x.f2):RightP (admL l n v) where
  len:=by unfold admL;rw [List.length_map];exact hl.len
  ok:=by
    intro y hy
    obtain ⟨x,hx,rfl⟩:=List.mem_map.1 hy
    have k:=hl.ok x hx
    refine ⟨k.name,k.size,k.lim, ?_, ?_, ?_,k.ver⟩
    · show MayP (if x.f0 = n then vadd x.f3 v else x.f3)
      split
      · exact hown x hx (by assumption)
      exact k.own
    · show MayP (if x.f0 ∈ up l n then vadd x.f4 v else x.f4)
      split
      · exact hsub x hx (by assumption)
      exact k.sub
    show LeP (if x.f0∈up l n then vadd x.f4 v else x.f4) x.f2
    split
    · exact hfit x hx (by assumption)
    exact k.fit
  sorted:=by
    unfold admL
    rw [List.pairwise_map]
    exact hl.sorted
  par:=by
    intro y hy
    obtain ⟨x,hx,rfl⟩:=List.mem_map.1 hy
    rcases hl.par x hx with h|⟨z,h⟩
    · exact .inl h
    exact .inr ⟨_,by unfold admL;rw [look_map (f:=admF (up l n) n v) (fun _=>rfl)];show (look l x.f1).map _=_;rw [h];rfl⟩
  sum:=by
    intro c y hy
    obtain ⟨x,hx,rfl⟩:=List.mem_map.1 hy
    show c.of (if x.f0∈up l n then vadd x.f4 v else x.f4)=c.of (if x.f0=n then vadd x.f3 v else x.f3)+csum c (admL l n v) x.f0
    rw [csum_adm hl c n v hx]
    have hs:=hl.sum c x hx
    by_cases e:x.f0=n
    rotate_left
    · by_cases hm : x.f0 ∈ up l n
      · simp [e,hm,of_vadd];omega
      simp [e,hm];omega
    have hm:x.f0∈up l n:=by
      obtain ⟨z,hz⟩:=hin
      rw [e];exact up_self hz
    simp [e] at hm ⊢
    rw [if_pos hm,of_vadd,of_vadd,hs,e];omega
  chain:=by
    intro y hy
    obtain ⟨x,hx,rfl⟩:=List.mem_map.1 hy
    obtain ⟨us,h⟩:=hl.chain x hx
    exact ⟨us,h.map (f:=admF (up l n) n v) (fun _=>rfl) (fun _=>rfl)⟩
def insL (l:List Item) (it:Item):List Item:=l.takeWhile (fun x=>lt x.f0 it.f0)++it::l.dropWhile (fun x=>lt x.f0 it.f0)
theorem look_ins (a b:List Item) (it:Item) (n:ByteArray) (h:look (a++b) it.f0=none):look (a++it::b) n=if n=it.f0 then some it else look (a++b) n:=by
  unfold look at h ⊢
  rw [List.find?_append] at h ⊢
  rw [List.find?_append,List.find?_cons]
  by_cases e:it.f0=n
  rotate_left
  · have e' : n ≠ it.f0 := fun q => e q.symm
    simp [e,e']
  subst e
  cases ha:a.find? (fun x=>decide (x.f0=it.f0)) with
  |some y=>rw [ha] at h;simp at h
  |none=>simp
theorem insL_eq (l:List Item) (it:Item): ∃a b,l=a++b∧insL l it=a++it::b∧(∀x∈a,lt x.f0 it.f0=true)∧(∀x t,b=x::t→lt x.f0 it.f0=false):=by
  refine ⟨l.takeWhile (fun x=>lt x.f0 it.f0),l.dropWhile (fun x=>lt x.f0 it.f0),(List.takeWhile_append_dropWhile).symm,rfl,fun x hx=> ?_,fun x t e=> ?_⟩
  · exact List.all_eq_true.1 (List.all_takeWhile (p:=fun x:Item=>lt x.f0 it.f0) (l:=l)) x hx
  have:=List.head?_dropWhile_not (fun x:Item=>lt x.f0 it.f0) l
  rw [e] at this
  simpa using this
theorem csum_ins (c:Comp) (a b:List Item) (it:Item) (n:ByteArray):csum c (a++it::b) n=csum c (a++b) n+if it.f1=n then c.of it.f4 else 0:=by
 unfold csum
 rw [sumBy_append,sumBy_append,sumBy_cons];omega
theorem ins_right {l:List Item} (hl:RightP l) {it:Item} (hi:ItemOK it) (h0: ∀c:Comp,c.of it.f3=0∧c.of it.f4=0) (hn:look l it.f0=none)
    (hp:it.f1=⟨#[]⟩∨ ∃y,look l it.f1=some y) (hlen:l.length<120):RightP (insL l it):=by
  obtain ⟨a,b,e,e',ha,hb⟩:=insL_eq l it
  rw [e']
  subst e
  have hlk:=fun n=>look_ins a b it n hn
  have hmem: ∀x,x∈a++it::b↔x=it∨x∈a++b:=fun x=>by simp;constructor<;>(intro h;rcases h with h|h|h<;>simp [h])
  have hnew: ∀m y,look (a++b) m=some y→m≠it.f0:=fun m y h q=>by rw [q,hn] at h;cases h
  have hne:it.f0≠⟨#[]⟩:=hi.name
  have hpar: ∀x∈a++b,x.f1≠it.f0:=fun x hx q=>by
    rcases hl.par x hx with h|⟨y,h⟩
    · exact hne (q.symm.trans h)
    exact hnew _ _ h q
  have hch: ∀{n us},Chain (a++b) n us→n≠it.f0→Chain (a++it::b) n us:=by
    intro n us h
    induction h with
    |nil h=>intro q;exact .nil (by rw [hlk,if_neg q];exact h)
    | @cons n x us h k ih =>
      intro q
      exact .cons (x:=x) (by rw [hlk,if_neg q];exact h) (ih (hpar x (look_mem h).1))
  have hip:it.f1≠it.f0:=by
    rcases hp with h|⟨y,h⟩
    · rw [h];exact fun q=>hne q.symm
    exact hnew _ _ h
  refine ⟨?_, ?_, ?_, ?_, ?_, ?_⟩
  · simp at hlen ⊢;omega
  · intro x hx
    rcases (hmem x).1 hx with rfl|hx
    · exact hi
    exact hl.ok x hx
  · have hs := hl.sorted
    rw [List.pairwise_append] at hs ⊢
    obtain ⟨h1,h2,h3⟩:=hs
    have hbx: ∀y∈b,lt it.f0 y.f0=true:=by
      intro y hy
      cases b with
      |nil=>cases hy
      | cons x t =>
        have hx:lt it.f0 x.f0=true:=lt_total (hb x t rfl) (fun q=>look_none.1 hn x (by simp) q)
        rcases List.mem_cons.1 hy with rfl|hy
        · exact hx
        exact lt_trans hx ((List.pairwise_cons.1 h2).1 y hy)
    refine ⟨h1,List.pairwise_cons.2 ⟨hbx,h2⟩,fun x hx y hy=> ?_⟩
    rcases List.mem_cons.1 hy with rfl|hy
    · exact ha x hx
    exact h3 x hx y hy
  · intro x hx
    rcases (hmem x).1 hx with rfl|hx
    · rcases hp with h | ⟨y, h⟩
      · exact .inl h
      exact .inr ⟨y,by rw [hlk,if_neg hip];exact h⟩
    rcases hl.par x hx with h|⟨y,h⟩
    · exact .inl h
    exact .inr ⟨y,by rw [hlk,if_neg (hpar x hx)];exact h⟩
  · intro c x hx
    rw [csum_ins,(h0 c).2,ite_self,Int.add_zero]
    rcases (hmem x).1 hx with rfl|hx
    rotate_left
    · exact hl.sum c x hx
    rw [(h0 c).1,(h0 c).2]
    unfold csum
    rw [sumBy_zero (fun y hy=>if_neg (hpar y hy))];rfl
  intro x hx
  rcases (hmem x).1 hx with rfl|hx
  · have := hch (hl.chainAll x.f1) hip
    exact ⟨_, .cons (x:=x) (by rw [hlk,if_pos rfl]) this⟩
  obtain ⟨us,h⟩:=hl.chain x hx
  exact ⟨us,hch h (fun q=>look_none.1 hn x hx q)⟩
theorem ite_iff {α:Type} {p q:Prop} [Decidable p] [Decidable q] (h:p↔q) {a b:α}:(if p then a else b)=if q then a else b:=by
  by_cases hp:p
  · rw [if_pos hp,if_pos (h.1 hp)]
  rw [if_neg hp,if_neg (fun k=>hp (h.2 k))]
theorem r10_Le_eq (a b d a' b' d':Int):r10_Le.f a b d a' b' d'=some (decide (LeP ⟨a,b,d⟩ ⟨a',b',d'⟩)):=by
 unfold r10_Le.f
 by_cases h0:a≤a'<;>by_cases h1:b≤b'<;>simp [h0,h1,leP_iff]
theorem r10_unit_eq (a:Int):r10_unit.f a=some (decide (0≤a∧a≤1099511627776)):=by
  unfold r10_unit.f
  by_cases h0:0≤a
  · rw [if_pos (by omega)];simp [h0]
  rw [if_neg (by omega)];simp [h0]
theorem r10_MayVec_eq (a b d:Int):r10_MayVec.f a b d=some (decide (MayP ⟨a,b,d⟩)):=by
 unfold r10_MayVec.f
 simp only [r10_unit_eq,Option.bind_some]
 by_cases h0:0≤a∧a≤1099511627776<;>by_cases h1:0≤b∧b≤1099511627776<;>simp [h0,h1,mayP_iff]
theorem r10_MayName_eq (n:ByteArray):r10_MayName.f n=some (decide (n≠⟨#[]⟩∧n.size≤24)):=by
  unfold r10_MayName.f
  by_cases h:n=⟨#[]⟩
  · rw [if_pos (nm_empty.2 h)];simp [h]
  rw [if_neg (fun q=>h (nm_empty.1 q))];simp [h];omega
theorem r10_copied_eq (l:List Item) (h:l.length<1000000):r10_copied.f l=some l:=by
 unfold r10_copied.f
 simp only [Option.bind_some,List.length_nil,List.nil_append]
 rw [if_pos (by omega)]
theorem r10_Find_l0 (l:List Item) (n:ByteArray) (hl:l.length<1000000): ∀(d i:Nat),l.length - i=d→i≤l.length→
    Ev (fun k=>r10_Find.l0 k l n i) (fidx (fun x:Item=>x.f0.toList==n.toList) (l.drop i) i)
  | 0, i, hd, hi => by
    obtain rfl:i=l.length:=by omega
    refine Ev.step (f:=fun _=>some (-1)) (fun k=> ?_) (by rw [List.drop_length];exact Ev.now _)
    simp only [r10_Find.l0]
    rw [if_neg (by omega)]
  | d + 1, i, hd, hi => by
    have hlt:i<l.length:=by omega
    rw [fidx_drop _ zItem l i hlt]
    have hrd:rd_T31 l (i:Int)=l.getD i zItem:=by rw [rd_item,Int.toNat_natCast]
    by_cases e:(l.getD i zItem).f0.toList=n.toList
    · rw [if_pos (beq_iff_eq.2 e)]
      refine Ev.step (f:=fun _=>some (i:Int)) (fun k=> ?_) (Ev.now _)
      simp only [r10_Find.l0]
      rw [if_pos (by omega),if_pos (by omega),hrd,if_pos e]
    rw [if_neg (fun q=>e (beq_iff_eq.1 q))]
    refine Ev.step (f:=fun k=>r10_Find.l0 k l n ((i+1:Nat):Int)) (fun k=> ?_) (r10_Find_l0 l n hl d (i+1) (by omega) (by omega))
    simp only [r10_Find.l0]
    rw [if_pos (by omega),if_pos (by omega),hrd,if_neg e,w64 (by omega) (by omega)]
    rfl
theorem r10_Find_ev (l:List Item) (n:ByteArray) (hl:l.length<1000000):Ev (fun k=>r10_Find.f k l n) (fnd l n):=r10_Find_l0 l n hl _ 0 rfl (by omega)
theorem r10_Up_l0 (l:List Item) (hl:l.length<1000000): ∀(m:Nat) (n:ByteArray) (out:List ByteArray),out.length+m=l.length+1→
    Ev (fun k=>r10_Up.l0 k l out (fnd l n)) (out++upGo l m n)
  | 0, n, out, hm => by
    rw [upGo.eq_1,List.append_nil]
    refine Ev.step (f:=fun _=>some out) (fun k=> ?_) (Ev.now _)
    simp only [r10_Up.l0]
    by_cases h:0≤fnd l n
    · rw [if_pos h,if_neg (by omega)]
    rw [if_neg h]
  | m + 1, n, out, hm => by
    cases h:look l n with
    | none =>
      rw [upGo_none h,List.append_nil]
      refine Ev.step (f:=fun _=>some out) (fun k=> ?_) (Ev.now _)
      simp only [r10_Up.l0]
      rw [fnd_none h,if_neg (by omega)]
    | some x =>
      rw [upGo_some h]
      have h0:=fnd_ge.2 ⟨x,h⟩
      have h1:=fnd_lt l n
      obtain ⟨hx,hn⟩:=look_mem h
      refine Ev.step (f:=fun k=>(r10_Find.f k l x.f1).bind fun t=>r10_Up.l0 k l (out++ [n]) t) (fun k=> ?_) (Ev.bind (r10_Find_ev l x.f1 hl) ?_)
      · simp only [r10_Up.l0]
        rw [if_pos h0,if_pos (by omega),if_pos h0,if_pos h1,if_pos (by omega),fnd_rd h,hn]
      have:=r10_Up_l0 l hl m x.f1 (out++ [n]) (by simp;omega)
      simpa using this
theorem r10_Up_ev (l:List Item) (n:ByteArray) (hl:l.length<1000000):Ev (fun k=>r10_Up.f k l n) (up l n):=
 Ev.bind (r10_Find_ev l n hl) (by have:=r10_Up_l0 l hl (l.length+1) n [] (by simp);rw [List.nil_append] at this;exact this)
theorem set_at {l:List Item} (hn:(l.map (·.f0)).Nodup) {n:ByteArray} {x:Item} (h:look l n=some x) (y:Item):
    l.set (fnd l n).toNat y=l.map (fun z=>if z.f0=n then y else z):=by
  obtain ⟨j,h1,h2,h3,h4,h5⟩:=fnd_some h
  rw [h2,Int.toNat_natCast]
  have hx:l[j]=x:=by rw [←h3];simp [h1]
  apply List.ext_getElem (by simp)
  intro m hm hm'
  simp only [List.length_set] at hm
  rw [List.getElem_set,List.getElem_map]
  by_cases e:j=m
  · subst e
    rw [if_pos rfl,if_pos (by rw [hx];exact h4)]
  rw [if_neg e,if_neg]
  intro q
  have h6:(l.map (·.f0))[j]'(by simpa using h1)=(l.map (·.f0))[m]'(by simpa using hm):=by simp [hx,h4,q]
  exact e ((List.getElem_inj hn).1 h6)
theorem fnd_map {f:Item→Item} (hf: ∀x,(f x).f0=x.f0) (l:List Item) (n:ByteArray):fnd (l.map f) n=fnd l n:=by
 have: ∀(l:List Item) (i:Int),fidx (fun x:Item=>x.f0.toList==n.toList) (l.map f) i=fidx (fun x:Item=>x.f0.toList==n.toList) l i:=by
  intro l
  induction l with
  |nil=>intro i;rfl
  |cons x l ih=>intro i;simp only [List.map_cons,fidx,hf,ih]
 exact this l 0
def admS (us:List ByteArray) (v:Vec) (x:Item):Item:=⟨x.f0,x.f1,x.f2,x.f3,if x.f0∈us then vadd x.f4 v else x.f4,x.f5⟩
def admR (l:List Item) (n:ByteArray) (v:Vec):List Item×Int:=
 if¬MayP v then ([],1) else if (look l n).isNone=true then ([],2) else if∀x∈l,x.f0∈up l n→LeP (vadd x.f4 v) x.f2 then (admL l n v,0) else ([],12)
theorem vadd_wrap {a b:Vec} (ha:MayP a) (hb:MayP b):(wrap64 (a.f0+b.f0),wrap64 (a.f1+b.f1),wrap64 (a.f2+b.f2))=((vadd a b).f0,(vadd a b).f1,(vadd a b).f2):=by
 have a0:=ha .cpu;have a1:=ha .mem;have a2:=ha .pods
 have b0:=hb .cpu;have b1:=hb .mem;have b2:=hb .pods
 simp only [Comp.of] at a0 a1 a2 b0 b1 b2
 rw [w64 (by omega) (by omega),w64 (by omega) (by omega),w64 (by omega) (by omega)]
 rfl
theorem r10_Add_eq {a b:Vec} (ha:MayP a) (hb:MayP b):r10_Add.f a.f0 a.f1 a.f2 b.f0 b.f1 b.f2=some ((vadd a b).f0,(vadd a b).f1,(vadd a b).f2):=by
 unfold r10_Add.f;rw [vadd_wrap ha hb]
theorem look_admS (us:List ByteArray) (v:Vec) (l:List Item) (n:ByteArray):look (l.map (admS us v)) n=(look l n).map (admS us v):=look_map (f:=admS us v) (fun _=>rfl) l n
theorem drop_cons {us:List ByteArray} {i:Nat} (h:i<us.length):us.drop i=rdOf ByteArray.empty us i::us.drop (i+1):=by
 rw [List.drop_eq_getElem_cons h];simp [rdOf,h]
theorem take_snoc_ {us:List ByteArray} {i:Nat} (h:i<us.length):us.take (i+1)=us.take i++ [rdOf ByteArray.empty us i]:=by
 rw [List.take_succ_eq_append_getElem h];simp [rdOf,h]
theorem fnd_admS (us:List ByteArray) (v:Vec) (l:List Item) (n:ByteArray):fnd (l.map (admS us v)) n=fnd l n:=fnd_map (f:=admS us v) (fun _=>rfl) l n
theorem nodup_admS {us:List ByteArray} {v:Vec} {l:List Item} (h:(l.map (·.f0)).Nodup):((l.map (admS us v)).map (·.f0)).Nodup:=by
 rw [List.map_map];exact h
theorem r10_Admit_l0 {l:List Item} (hl:RightP l) (n:ByteArray) {v:Vec} (hv:MayP v) (hin: ∃x,look l n=some x): ∀(d i:Nat),(up l n).length - i=d→i≤(up l n).length→
    Ev (fun k=>r10_Admit.l0 k n (up l n) (l.map (admS ((up l n).take i) v)) i v.f0 v.f1 v.f2) (if∀x∈l,x.f0∈(up l n).drop i→LeP (vadd x.f4 v) x.f2 then (admL l n v,0) else ([],12))
  | 0, i, hd, hi => by
    obtain rfl:i=(up l n).length:=by omega
    rw [List.drop_length,List.take_length,if_pos (by simp)]
    obtain ⟨x,hx⟩:=hin
    obtain ⟨hm,hxn⟩:=look_mem hx
    have hlk:look (l.map (admS (up l n) v)) n=some (admS (up l n) v x):=by rw [look_admS,hx];rfl
    have h0:0≤fnd l n:=fnd_ge.2 ⟨x,hx⟩
    have h1:fnd l n<l.length:=fnd_lt l n
    obtain ⟨K,hK⟩:=r10_Find_ev (l.map (admS (up l n) v)) n (by rw [List.length_map];have:=hl.len;omega)
    dsimp only at hK
    refine ⟨K+1,fun k hk=> ?_⟩
    obtain ⟨k,rfl⟩: ∃m,k=m+1:=⟨k - 1,by omega⟩
    have hrd:=fnd_rd hlk
    rw [fnd_admS] at hrd
    simp only [r10_Admit.l0]
    rw [if_neg (by omega),hK k (by omega),fnd_admS]
    simp only [Option.bind_some]
    rw [if_pos h0,if_pos (by rw [List.length_map];omega),hrd,r10_Add_eq (a:=(admS (up l n) v x).f3) (hl.ok x hm).own hv]
    simp only [Option.bind_some]
    have hset:=set_at (nodup_admS (us:=up l n) (v:=v) hl.nodup) hlk
    rw [fnd_admS] at hset
    rw [hset,List.map_map]
    congr 2
    unfold admL
    refine List.map_congr_left fun z hz=> ?_
    simp only [Function.comp,admF]
    by_cases e:z.f0=n
    · obtain rfl : z = x := hl.eq_of hz hm (e.trans hxn.symm)
      rw [if_pos (by exact e),if_pos e]
      rfl
    rw [if_neg (by exact e),if_neg e]
    rfl
  | d + 1, i, hd, hi => by
    have hlt:i<(up l n).length:=by omega
    have hc:=hl.chainAll n
    have hnd:=hc.nodup
    rw [drop_cons hlt]
    have hu:rdOf ByteArray.empty (up l n) i∈up l n:=by simp [rdOf,hlt]
    obtain ⟨x,hx⟩:=hc.mem_look hu
    obtain ⟨hm,hxn⟩:=look_mem hx
    have hnot:x.f0 ∉ (up l n).take i:=by
      rw [hxn]
      rw [←List.take_append_drop i (up l n),drop_cons hlt,List.nodup_append] at hnd
      exact fun q=>hnd.2.2 _ q _ (by simp) rfl
    generalize hU:rdOf ByteArray.empty (up l n) i=u at*
    have hlk:look (l.map (admS ((up l n).take i) v)) u=some (admS ((up l n).take i) v x):=by rw [look_admS,hx];rfl
    have hsame:admS ((up l n).take i) v x=x:=by unfold admS;rw [if_neg hnot]
    rw [hsame] at hlk
    have h0:0≤fnd l u:=fnd_ge.2 ⟨x,hx⟩
    have h1:fnd l u<l.length:=fnd_lt l u
    have hrd:=fnd_rd hlk
    have hset:=set_at (nodup_admS (us:=(up l n).take i) (v:=v) hl.nodup) hlk
    rw [fnd_admS] at hrd
    rw [fnd_admS] at hset
    obtain ⟨K,hK⟩:=r10_Find_ev (l.map (admS ((up l n).take i) v)) u (by rw [List.length_map];have:=hl.len;omega)
    obtain ⟨K',hK'⟩:=r10_Admit_l0 hl n hv hin d (i+1) (by omega) (by omega)
    dsimp only at hK hK'
    refine ⟨K+K'+1,fun k hk=> ?_⟩
    obtain ⟨k,rfl⟩: ∃m,k=m+1:=⟨k - 1,by omega⟩
    have hup:(up l n).length≤l.length:=hc.len
    have hlen:=hl.len
    simp only [r10_Admit.l0]
    rw [if_pos (by omega),if_pos (by omega),hU,hK k (by omega),fnd_admS]
    simp only [Option.bind_some]
    rw [if_pos h0,if_pos (by rw [List.length_map];omega),hrd,r10_Add_eq (a:=x.f4) (hl.ok x hm).sub hv]
    simp only [Option.bind_some]
    rw [hset,List.map_map]
    have hnew:(l.map ((fun z:Item=>if z.f0=u then (⟨x.f0,x.f1,⟨x.f2.f0,x.f2.f1,x.f2.f2⟩,⟨x.f3.f0,x.f3.f1,x.f3.f2⟩,⟨(vadd x.f4 v).f0,(vadd x.f4 v).f1,(vadd x.f4 v).f2⟩,x.f5⟩:Item) else z) ∘ admS ((up l n).take i) v))=l.map (admS ((up l n).take (i+1)) v):=by
      refine List.map_congr_left fun z hz=> ?_
      simp only [Function.comp]
      rw [take_snoc_ hlt,hU]
      by_cases e:z.f0=u
      · obtain rfl : z = x := hl.eq_of hz hm (e.trans hxn.symm)
        rw [if_pos (by exact e)]
        unfold admS
        rw [if_pos (by simp [e])]
      rw [if_neg (by exact e)]
      unfold admS
      simp [e]
    rw [hnew]
    have hlk2:look (l.map (admS ((up l n).take (i+1)) v)) u=some (admS ((up l n).take (i+1)) v x):=by rw [look_admS,hx];rfl
    have hrd2:=fnd_rd hlk2
    rw [fnd_admS] at hrd2
    have hx2:admS ((up l n).take (i+1)) v x=⟨x.f0,x.f1,x.f2,x.f3,vadd x.f4 v,x.f5⟩:=by unfold admS;rw [if_pos (by rw [take_snoc_ hlt,hU,hxn];simp)]
    rw [hrd2,hx2,r10_Le_eq]
    simp only [Option.bind_some]
    by_cases hfit:LeP (vadd x.f4 v) x.f2
    rotate_left
    · rw [if_neg (by simpa using hfit), if_neg (fun q => hfit (q x hm (by rw [hxn]; simp)))]
      rfl
    rw [if_pos (by exact decide_eq_true hfit),w64 (by omega) (by omega)]
    have h2:=hK' k (by omega)
    rw [show ((i:Int)+1)=((i+1:Nat):Int) from by omega,h2]
    congr 1
    refine ite_iff ⟨fun q z hz hzm=> ?_,fun q z hz hzm=>q z hz (by simp [hzm])⟩
    rcases List.mem_cons.1 hzm with e|hzm
    · obtain rfl : z = x := hl.eq_of hz hm (e.trans hxn.symm)
      exact hfit
    exact q z hz hzm
theorem r10_Admit_ev {l:List Item} (hl:RightP l) (n:ByteArray) (v:Vec):Ev (fun k=>r10_Admit.f k l n v.f0 v.f1 v.f2) (admR l n v):=by
  have hlen:=hl.len
  refine Ev.bind (r10_Up_ev l n (by omega)) ?_
  have hmv:r10_MayVec.f v.f0 v.f1 v.f2=some (decide (MayP v)):=r10_MayVec_eq _ _ _
  unfold admR
  by_cases hv:MayP v
  rotate_left
  · rw [if_pos hv]
    refine Ev.congr (fun k=> ?_) (Ev.now _)
    rw [hmv]
    simp only [Option.bind_some]
    rw [if_neg (by simpa using hv)]
    rfl
  rw [if_neg (by simpa using hv)]
  cases hx:look l n with
  | none =>
    rw [if_pos (show (none:Option Item).isNone=true from rfl)]
    refine Ev.congr (fun k=> ?_) (Ev.now _)
    rw [hmv]
    simp only [Option.bind_some]
    rw [if_pos (by exact decide_eq_true hv),show up l n=[] from upGo_none hx _]
    rfl
  | some x =>
    rw [if_neg (by simp)]
    have h:=r10_Admit_l0 hl n hv ⟨x,hx⟩ _ 0 rfl (by omega)
    rw [List.take_zero,List.drop_zero,show l.map (admS [] v)=l from by rw [show admS [] v=id from by funext z;simp [admS]];simp] at h
    refine Ev.congr (fun k=> ?_) h
    rw [hmv]
    simp only [Option.bind_some]
    have:(up l n).length≠0:=by have:=up_self hx;intro q;rw [List.length_eq_zero_iff.1 q] at this;cases this
    rw [if_pos (by exact decide_eq_true hv),if_neg (by omega),r10_copied_eq l (by omega)]
    rfl
def zVec:Vec:=⟨0,0,0⟩
def newItem (n p:ByteArray) (v:Vec):Item:=⟨n,p,v,zVec,zVec,1⟩
def creR (l:List Item) (n p:ByteArray) (v:Vec):List Item×Int:=
 if¬((n≠⟨#[]⟩∧n.size≤24)∧MayP v) then ([],1) else if (look l n).isSome=true then ([],3) else if p≠⟨#[]⟩∧(look l p).isNone=true then ([],2) else if 120≤l.length then ([],4) else (insL l (newItem n p v),0)
theorem insL_cons (x:Item) (l:List Item) (it:Item):insL (x::l) it=if lt x.f0 it.f0=true then x::insL l it else it::x::l:=by
 unfold insL
 rw [List.takeWhile_cons,List.dropWhile_cons]
 cases lt x.f0 it.f0<;>simp
theorem r10_Create_l0 (n p:ByteArray) (v:Vec) (b:List Item): ∀(a l:List Item),l=a++b→l.length<1000000→Ev (fun k=>r10_Create.l0 k l n p a.length v.f0 v.f1 v.f2) (a++insL b (newItem n p v),0):=by
  induction b with
  | nil =>
    rintro a l rfl hl
    simp only [List.append_nil] at hl ⊢
    refine Ev.step (f:=fun _=>some (a++ [newItem n p v],0)) (fun k=> ?_) (Ev.now _)
    simp only [r10_Create.l0]
    rw [if_neg (by omega),if_pos (by omega),if_pos (by omega),Int.toNat_natCast,List.take_length,r10_copied_eq a (by omega)]
    simp only [Option.bind_some,List.drop_length,List.length_append,List.length_cons,List.length_nil]
    rw [if_pos (by omega),if_pos (by omega),List.append_nil]
    rfl
  | cons x b ih =>
    rintro a l rfl hl
    have hlen:(a++x::b).length=a.length+b.length+1:=by simp;omega
    have hrd:rd_T31 (a++x::b) (a.length:Int)=x:=by rw [rd_item,Int.toNat_natCast];simp
    rw [insL_cons]
    by_cases e:lt x.f0 n=true
    · rw [if_pos (by exact e)]
      have h:=ih (a++ [x]) (a++x::b) (by simp) hl
      refine Ev.step (f:=fun k=>r10_Create.l0 k (a++x::b) n p (a++ [x]).length v.f0 v.f1 v.f2) (fun k=> ?_) (by simpa using h)
      simp only [r10_Create.l0]
      rw [if_pos (by omega),if_pos (by omega),hrd,if_pos (by exact e),w64 (by omega) (by omega)]
      simp
    rw [if_neg (by exact e)]
    refine Ev.step (f:=fun _=>some (a++newItem n p v::x::b,0)) (fun k=> ?_) (Ev.now _)
    simp only [r10_Create.l0]
    rw [if_pos (by omega),if_pos (by omega),hrd,if_neg (by exact e),if_pos (by omega),Int.toNat_natCast,List.take_left,r10_copied_eq a (by omega)]
    simp only [Option.bind_some,List.drop_left,List.length_append,List.length_cons,List.length_nil]
    rw [if_pos (by omega),if_pos (by omega)]
    simp
    rfl
theorem r10_Create_ev {l:List Item} (hl:l.length<1000000) (n p:ByteArray) (v:Vec):Ev (fun k=>r10_Create.f k l n p v.f0 v.f1 v.f2) (creR l n p v):=by
  have hmv:r10_MayVec.f v.f0 v.f1 v.f2=some (decide (MayP v)):=r10_MayVec_eq _ _ _
  have hno: ∀e:Int,((r10_no.f e).bind fun bt=>some (bt.1,bt.2))=some (([]:List Item),e):=fun _=>rfl
  have hj1: ∀b,Ev (fun k=>r10_Create.j1 k l n p b v.f0 v.f1 v.f2) (if b=true then ([],2) else if 120≤l.length then ([],4) else (insL l (newItem n p v),0)):=by
    intro b
    cases b with
    | true =>
      refine Ev.step (f:=fun _=>some ([],2)) (fun k=> ?_) (Ev.now _)
      simp only [r10_Create.j1,if_true]
      exact hno 2
    | false =>
      simp only [Bool.false_eq_true,if_false]
      by_cases h:120≤l.length
      · rw [if_pos h]
        refine Ev.step (f:=fun _=>some ([],4)) (fun k=> ?_) (Ev.now _)
        simp only [r10_Create.j1,Bool.false_eq_true,if_false]
        rw [if_pos (by omega)];exact hno 4
      rw [if_neg h]
      refine Ev.step (f:=fun k=>r10_Create.l0 k l n p 0 v.f0 v.f1 v.f2) (fun k=> ?_) (by have:=r10_Create_l0 n p v l [] l rfl hl;simpa using this)
      simp only [r10_Create.j1,Bool.false_eq_true,if_false]
      rw [if_neg (by omega)]
  have hj0: ∀b,Ev (fun k=>r10_Create.j0 k l n p b v.f0 v.f1 v.f2) (if b=true then ([],1) else if (look l n).isSome=true then ([],3) else if p≠⟨#[]⟩∧(look l p).isNone=true then ([],2) else if 120≤l.length then ([],4) else (insL l (newItem n p v),0)):=by
    intro b
    cases b with
    | true =>
      refine Ev.step (f:=fun _=>some ([],1)) (fun k=> ?_) (Ev.now _)
      simp only [r10_Create.j0,if_true]
      exact hno 1
    | false =>
      simp only [Bool.false_eq_true,if_false]
      refine Ev.step (f:=fun k=>(r10_Find.f k l n).bind fun t=>if t≥0 then some ([],3) else if p.toList=([]:List UInt8) then r10_Create.j1 k l n p false v.f0 v.f1 v.f2 else (r10_Find.f k l p).bind fun t=>r10_Create.j1 k l n p (decide (t<0)) v.f0 v.f1 v.f2) (fun k=> ?_) (Ev.bind (r10_Find_ev l n hl) ?_)
      · simp only [r10_Create.j0,Bool.false_eq_true,if_false];rfl
      cases hn:look l n with
      | some x =>
        refine Ev.congr (fun k=> ?_) (Ev.now _)
        rw [if_pos (fnd_ge.2 ⟨x,hn⟩)];rfl
      | none =>
        simp only [Option.isSome_none,Bool.false_eq_true,if_false]
        by_cases hp:p=⟨#[]⟩
        · have h := hj1 false
          simp only [Bool.false_eq_true,if_false] at h
          rw [if_neg (fun q=>q.1 hp)]
          refine Ev.congr (fun k=> ?_) h
          rw [fnd_none hn,if_neg (by omega),if_pos (nm_empty.2 hp)]
        have h:=hj1 (decide (fnd l p<0))
        refine Ev.congr (g:=fun k=>_) (f:=fun k=>(r10_Find.f k l p).bind fun t=>r10_Create.j1 k l n p (decide (t<0)) v.f0 v.f1 v.f2) (fun k=> ?_) (Ev.bind (r10_Find_ev l p hl) ?_)
        · rw [fnd_none hn,if_neg (by omega),if_neg (fun q=>hp (nm_empty.1 q))]
        have e:(p≠⟨#[]⟩∧(look l p).isNone=true)↔(decide (fnd l p<0)=true):=by
          rw [decide_eq_true_iff,fnd_neg];simp [hp]
        rw [ite_iff e];exact h
  unfold creR
  by_cases hn:n≠⟨#[]⟩∧n.size≤24
  · have h := hj0 (!decide (MayP v))
    rw [ite_iff (q:=(!decide (MayP v))=true) (by simp [hn])]
    refine Ev.congr (fun k=> ?_) h
    unfold r10_Create.f
    rw [r10_MayName_eq,hmv]
    simp only [Option.bind_some]
    rw [if_pos (by exact decide_eq_true hn)]
  have h:=hj0 true
  rw [if_pos (fun q=>hn q.1)]
  rw [if_pos rfl] at h
  refine Ev.congr (fun k=> ?_) h
  unfold r10_Create.f
  rw [r10_MayName_eq]
  simp only [Option.bind_some]
  rw [if_neg (by simpa using hn)]
theorem creR_right {l:List Item} (hl:RightP l) {n p:ByteArray} {v:Vec} (h:(creR l n p v).2=0):
    (creR l n p v).1=insL l (newItem n p v)∧RightP (insL l (newItem n p v))∧look l n=none∧l.length<120∧n≠⟨#[]⟩∧n.size≤24∧MayP v∧(p=⟨#[]⟩∨ ∃y,look l p=some y):=by
  unfold creR at h ⊢
  split at h
  · simp at h
  rename_i h1
  split at h
  · simp at h
  rename_i h2
  split at h
  · simp at h
  rename_i h3
  split at h
  · simp at h
  rename_i h4
  rw [if_neg h1,if_neg h2,if_neg h3,if_neg h4]
  obtain ⟨⟨h5,h6⟩,h7⟩:=Classical.not_not.1 h1
  have hn:look l n=none:=by cases q:look l n with
    |none=>rfl
    |some x=>rw [q] at h2;simp at h2
  have hp:p=⟨#[]⟩∨ ∃y,look l p=some y:=by
    by_cases e:p=⟨#[]⟩
    · exact .inl e
    right
    cases q:look l p with
    |none=>rw [q] at h3;exact absurd ⟨e,rfl⟩ h3
    |some y=>exact ⟨y,rfl⟩
  have hz: ∀c:Comp,c.of zVec=0:=fun c=>by cases c<;>rfl
  refine ⟨rfl,ins_right hl ⟨h5,h6,h7,fun c=> ?_,fun c=> ?_,fun c=> ?_, ?_⟩ (fun c=>⟨hz c,hz c⟩) hn hp (by omega),hn,by omega,h5,h6,h7,hp⟩
  · show 0≤c.of zVec∧c.of zVec≤_;rw [hz];omega
  · show 0≤c.of zVec∧c.of zVec≤_;rw [hz];omega
  · show c.of zVec≤c.of v;rw [hz];exact (h7 c).1
  show (1:Int)≤1∧(1:Int)≤_;omega
theorem mem_insL {l:List Item} {it x:Item}:x∈insL l it↔x=it∨x∈l:=by
 obtain ⟨a,b,e,e',_,_⟩:=insL_eq l it
 rw [e',e];simp;constructor<;>(intro h;rcases h with h|h|h<;>simp [h])
theorem len_insL (l:List Item) (it:Item):(insL l it).length=l.length+1:=by
 obtain ⟨a,b,e,e',_,_⟩:=insL_eq l it
 rw [e',e];simp;omega
theorem admR_right {l:List Item} (hl:RightP l) {n:ByteArray} {v:Vec} (h:(admR l n v).2=0):(admR l n v).1=admL l n v∧RightP (admL l n v)∧MayP v∧(∃x,look l n=some x)∧ ∀x∈l,x.f0∈up l n→LeP (vadd x.f4 v) x.f2:=by
  unfold admR at h ⊢
  split at h
  · simp at h
  rename_i h1
  split at h
  · simp at h
  rename_i h2
  split at h
  rotate_left
  · simp at h
  rename_i h3
  rw [if_neg h1,if_neg h2,if_pos h3]
  have hv:MayP v:=Classical.not_not.1 h1
  have hin: ∃x,look l n=some x:=by
    cases q:look l n with
    |none=>rw [q] at h2;simp at h2
    |some x=>exact ⟨x,rfl⟩
  have hsub: ∀x∈l,x.f0∈up l n→MayP (vadd x.f4 v):=fun x hx hm c=>by
    have a:=(hl.ok x hx).sub c;have b:=hv c;have d:=h3 x hx hm c;have e:=(hl.ok x hx).lim c
    rw [of_vadd] at d ⊢;omega
  refine ⟨rfl,adm_right hl v hin (fun x hx e c=> ?_) hsub h3,hv,hin,h3⟩
  have hm:x.f0∈up l n:=by obtain ⟨y,hy⟩:=hin;rw [e];exact up_self hy
  have a:=(hl.ok x hx).own c;have b:=hv c;have d:=hsub x hx hm c;have f:=hl.sum c x hx
  have g:0≤csum c l x.f0:=sumBy_nonneg fun y hy=>by
    split
    · exact ((hl.ok y hy).sub c).1
    omega
  rw [of_vadd] at d ⊢;omega
theorem u8_bd {x:Int} (h:(Lit.int .u8 x).wf=true):0≤x∧x≤255:=by
 simp only [Lit.wf,Bool.and_eq_true,decide_eq_true_eq] at h
 exact h
def Bytes (ns:List Int):Prop:= ∀x∈ns,0≤x∧x≤255
theorem Bytes.rd {ns:List Int} (h:Bytes ns) (i:Int):0≤rd ns i∧rd ns i≤255:=by
 unfold Go.Proofs.YtcgefpklljclgaaW.PrintWords.rd
 rw [List.getD_eq_getElem?_getD]
 cases e:ns[i.toNat]? with
 |none=>simp
 |some x=>exact h x (List.mem_of_getElem? e)
def one (c:Int):ByteArray:=strOfNums [c]
structure MadeP (l:List Item):Prop where
 right:RightP l
 len:l.length≤24
 name: ∀x∈l,∃c:Int,97≤c∧c≤120∧x.f0=one c
 ver: ∀x∈l,x.f5=1
 lim: ∀x∈l,∀c:Comp,20≤c.of x.f2∧c.of x.f2≤275
theorem made_nil:MadeP []:=⟨right_nil,by simp,by simp,by simp,by simp⟩
theorem made_ins {l:List Item} (h:MadeP l) {n p:ByteArray} {v:Vec} {c:Int} (hc:97≤c∧c≤120) (hn:n=one c) (hv: ∀c:Comp,20≤c.of v∧c.of v≤275) (hl:l.length<24) (hr:RightP (insL l (newItem n p v))):MadeP (insL l (newItem n p v)) where
  right:=hr
  len:=by rw [len_insL];omega
  name:=fun x hx=>by
    rcases mem_insL.1 hx with rfl|hx
    · exact ⟨c,hc.1,hc.2,hn⟩
    exact h.name x hx
  ver:=fun x hx=>by
    rcases mem_insL.1 hx with rfl|hx
    · rfl
    exact h.ver x hx
  lim:=fun x hx=>by
    rcases mem_insL.1 hx with rfl|hx
    · exact hv
    exact h.lim x hx
theorem made_adm {l:List Item} (h:MadeP l) {n:ByteArray} {v:Vec} (hr:RightP (admL l n v)):MadeP (admL l n v) where
 right:=hr
 len:=by unfold admL;rw [List.length_map];exact h.len
 name:=fun x hx=>by
  obtain ⟨y,hy,rfl⟩:=List.mem_map.1 hx
  exact h.name y hy
 ver:=fun x hx=>by
  obtain ⟨y,hy,rfl⟩:=List.mem_map.1 hx
  exact h.ver y hy
 lim:=fun x hx=>by
  obtain ⟨y,hy,rfl⟩:=List.mem_map.1 hx
  exact h.lim y hy
def MakesFrom (ns:List Int) (i:Int):Prop:= ∀l,MadeP l→ ∃r,Ev (fun k=>law12_Make.l0 k ns l i) r∧MadeP r
theorem tmod_in {a b:Int} (ha:0≤a) (hb:0<b):0≤a.tmod b∧a.tmod b<b:=by
 rw [Int.tmod_eq_emod_of_nonneg ha];exact ⟨Int.emod_nonneg _ (by omega),Int.emod_lt_of_pos _ hb⟩
theorem tdiv_in {a b:Int} (ha:0≤a) (hb:0<b):0≤a.tdiv b∧a.tdiv b≤a:=by
 rw [Int.tdiv_eq_ediv_of_nonneg ha];exact ⟨Int.ediv_nonneg ha (by omega),Int.ediv_le_self _ ha⟩
theorem made_j3 {ns:List Int} (hb:Bytes ns) (hs:ns.length≤1000) {i:Int} (h0:0≤i) (h2:i+2<ns.length) (ih:MakesFrom ns (i+3)) {l:List Item} (h:MadeP l) (hl:l.length<24) (p:ByteArray):
    ∃r,Ev (fun k=>law12_Make.j3 k ns l i p) r∧MadeP r:=by
  have b1:=hb.rd (i+1)
  have b2:=hb.rd (i+2)
  have hlen:=h.right.len
  have hnm:(wrap64 (97+(Int.tmod (wrap64 ((l.length:Int)*5)) 24))) % 256=97+((l.length:Int)*5) % 24:=by
    rw [w64 (n:=(l.length:Int)*5) (by omega) (by omega),Int.tmod_eq_emod_of_nonneg (by omega),w64 (by omega) (by omega)];omega
  generalize hc:97+((l.length:Int)*5) % 24=c at hnm
  have hcb:97≤c∧c≤120:=by omega
  have hlim:wrap64 (20+wrap64 (rd ns (i+1)))=20+rd ns (i+1):=by rw [w64 (n:=rd ns (i+1)) (by omega) (by omega),w64 (by omega) (by omega)]
  obtain ⟨K,hK⟩:=r10_Create_ev (l:=l) (by omega) (one c) p ⟨20+rd ns (i+1),20+rd ns (i+1),20+rd ns (i+1)⟩
  dsimp only at hK
  have hw1:wrap64 (i+1)=i+1:=w64 (by omega) (by omega)
  have hw2:wrap64 (i+2)=i+2:=w64 (by omega) (by omega)
  have hw3:wrap64 (i+3)=i+3:=w64 (by omega) (by omega)
  have hr2:wrap64 (rd ns (i+2))=rd ns (i+2):=w64 (by omega) (by omega)
  by_cases hE:(creR l (one c) p ⟨20+rd ns (i+1),20+rd ns (i+1),20+rd ns (i+1)⟩).2=0
  rotate_left
  · obtain ⟨r, ⟨K3, hK3⟩, hM⟩ := ih l h
    dsimp only at hK3
    refine ⟨r,⟨K+K3+1,fun k hk=> ?_⟩,hM⟩
    obtain ⟨k,rfl⟩: ∃m,k=m+1:=⟨k - 1,by omega⟩
    simp only [law12_Make.j3]
    rw [hw1,hw2,hw3,hnm,hlim,if_pos (by omega),if_pos (by omega)]
    rw [show strOfNums [c]=one c from rfl,hK k (by omega)]
    simp only [Option.bind_some]
    rw [if_neg hE]
    exact hK3 k (by omega)
  obtain ⟨e1,hR,hno, -, -, -,hv, -⟩:=creR_right h.right hE
  have hm:=made_ins h (p:=p) hcb rfl (v:=⟨20+rd ns (i+1),20+rd ns (i+1),20+rd ns (i+1)⟩) (fun c=>by cases c<;>(simp only [Comp.of];omega)) hl hR
  generalize hL:insL l (newItem (one c) p ⟨20+rd ns (i+1),20+rd ns (i+1),20+rd ns (i+1)⟩)=l1 at*
  have hl1:0<l1.length:=by rw [←hL,len_insL];omega
  have hd:=tdiv_in (a:=rd ns (i+2)) (b:=16) (by omega) (by omega)
  have hw4:wrap64 (Int.tdiv (rd ns (i+2)) 16)=Int.tdiv (rd ns (i+2)) 16:=w64 (by omega) (by omega)
  have hq:=tmod_in (a:=Int.tdiv (rd ns (i+2)) 16) (b:=(l1.length:Int)) hd.1 (by omega)
  generalize hJ:Int.tmod (Int.tdiv (rd ns (i+2)) 16) (l1.length:Int)=j at*
  obtain ⟨v,hv'⟩: ∃v:Vec,v=⟨Int.tmod (rd ns (i+2)) 16,wrap64 (Int.tdiv (Int.tmod (rd ns (i+2)) 16) 2),Int.tmod (Int.tmod (rd ns (i+2)) 16) 3⟩:=⟨_,rfl⟩
  obtain ⟨K2,hK2⟩:=r10_Admit_ev hm.right (rd_T31 l1 j).f0 v
  dsimp only at hK2
  have main: ∀r,Ev (fun k=>law12_Make.l0 k ns (if (admR l1 (rd_T31 l1 j).f0 v).2=0 then (admR l1 (rd_T31 l1 j).f0 v).1 else l1) (i+3)) r→Ev (fun k=>law12_Make.j3 k ns l i p) r:=by
    rintro r ⟨K3,hK3⟩
    refine ⟨K+K2+K3+1,fun k hk=> ?_⟩
    dsimp only at hK3
    obtain ⟨k,rfl⟩: ∃m,k=m+1:=⟨k - 1,by omega⟩
    simp only [law12_Make.j3]
    rw [hw1,hw2,hw3,hnm,hlim,hr2,if_pos (by omega),if_pos (by omega)]
    rw [show strOfNums [c]=one c from rfl,hK k (by omega)]
    simp only [Option.bind_some]
    rw [if_pos hE,if_pos (by omega),if_pos (by omega),e1,if_neg (by omega),hw4,hJ,if_pos hq.1,if_pos hq.2]
    have:=hK2 k (by omega)
    rw [hv'] at this
    rw [this]
    simp only [Option.bind_some]
    rw [←hv']
    have:=hK3 k (by omega)
    by_cases q:(admR l1 (rd_T31 l1 j).f0 v).2=0
    · rw [if_pos q] at this ⊢;exact this
    rw [if_neg q] at this ⊢;exact this
  by_cases q:(admR l1 (rd_T31 l1 j).f0 v).2=0
  rotate_left
  · rw [if_neg q] at main
    obtain ⟨r,hr,hM⟩:=ih _ hm
    exact ⟨r,main r hr,hM⟩
  rw [if_pos q] at main
  obtain ⟨e2,hR2, -⟩:=admR_right hm.right q
  rw [e2] at main
  obtain ⟨r,hr,hM⟩:=ih _ (made_adm hm hR2)
  exact ⟨r,main r hr,hM⟩
theorem made_step {ns:List Int} (hb:Bytes ns) (hs:ns.length≤1000) {i:Int} (h0:0≤i) (h2:i+2<ns.length) (ih:MakesFrom ns (i+3)):MakesFrom ns i:=by
  intro l h
  have hw2:wrap64 (i+2)=i+2:=w64 (by omega) (by omega)
  have b0:=hb.rd i
  have hr0:wrap64 (rd ns i)=rd ns i:=w64 (by omega) (by omega)
  by_cases hl:l.length<24
  rotate_left
  · refine ⟨l, Ev.step (f := fun k => law12_Make.j1 k ns l i false) (fun k => ?_) (Ev.step (f := fun _ => some l) (fun k => ?_) (Ev.now _)), h⟩
    · simp only [law12_Make.l0]
      rw [hw2,if_pos (by omega),show decide ((l.length:Int)<24)=false from decide_eq_false (by omega)]
    simp only [law12_Make.j1,Bool.false_eq_true,if_false]
  have h3:=made_j3 hb hs h0 h2 ih h hl
  have hj2: ∀b,(b=true→0<l.length)→ ∃r,Ev (fun k=>law12_Make.j2 k ns l i (rd ns i) ⟨#[]⟩ b) r∧MadeP r:=by
    intro b hbl
    cases b with
    | false =>
      obtain ⟨r,hr,hM⟩:=h3 ⟨#[]⟩
      refine ⟨r,Ev.step (fun k=> ?_) hr,hM⟩
      simp only [law12_Make.j2,Bool.false_eq_true,if_false]
    | true =>
      have hpos:=hbl rfl
      have hd:=tdiv_in (a:=rd ns i) (b:=3) (by omega) (by omega)
      have hw:wrap64 (Int.tdiv (rd ns i) 3)=Int.tdiv (rd ns i) 3:=w64 (by omega) (by omega)
      have hq:=tmod_in (a:=Int.tdiv (rd ns i) 3) (b:=(l.length:Int)) hd.1 (by omega)
      obtain ⟨r,hr,hM⟩:=h3 (rd_T31 l (Int.tmod (Int.tdiv (rd ns i) 3) (l.length:Int))).f0
      refine ⟨r,Ev.step (fun k=> ?_) hr,hM⟩
      simp only [law12_Make.j2,if_true]
      rw [hw,if_neg (by omega),if_pos hq.1,if_pos hq.2]
  have hj1: ∃r,Ev (fun k=>law12_Make.j1 k ns l i true) r∧MadeP r:=by
    by_cases hpos:0<l.length
    · obtain ⟨r, hr, hM⟩ := hj2 (decide ((Int.tmod (rd ns i) 3) > 0)) (fun _ => hpos)
      refine ⟨r,Ev.step (fun k=> ?_) hr,hM⟩
      simp only [law12_Make.j1,if_true]
      rw [if_pos (by omega),if_pos (by omega),if_pos (by omega),hr0]
    obtain ⟨r,hr,hM⟩:=hj2 false (fun q=>by cases q)
    refine ⟨r,Ev.step (fun k=> ?_) hr,hM⟩
    simp only [law12_Make.j1,if_true]
    rw [if_pos (by omega),if_pos (by omega),if_neg (by omega),hr0]
  obtain ⟨r,hr,hM⟩:=hj1
  refine ⟨r,Ev.step (fun k=> ?_) hr,hM⟩
  simp only [law12_Make.l0]
  rw [hw2,if_pos (by omega),show decide ((l.length:Int)<24)=true from decide_eq_true (by omega)]
theorem made_from {ns:List Int} (hb:Bytes ns) (hs:ns.length≤1000): ∀(d:Nat) (i:Int),0≤i→i≤1003→(ns.length:Int) - i≤d→MakesFrom ns i
  | d, i, h0, h1, hd => by
    by_cases h2:i+2<ns.length
    · cases d with
      |zero=>omega
      |succ d=>exact made_step hb hs h0 h2 (made_from hb hs d (i+3) (by omega) (by omega) (by omega))
    intro l h
    have hw2:wrap64 (i+2)=i+2:=w64 (by omega) (by omega)
    refine ⟨l,Ev.step (f:=fun k=>law12_Make.j1 k ns l i false) (fun k=> ?_) (Ev.step (f:=fun _=>some l) (fun k=> ?_) (Ev.now _)),h⟩
    · simp only [law12_Make.l0]
      rw [hw2,if_neg (by omega)]
    simp only [law12_Make.j1,Bool.false_eq_true,if_false]
theorem made_all {ns:List Int} (hb:Bytes ns) (hs:ns.length≤1000): ∃l,Ev (fun k=>law12_Make.f k ns) l∧MadeP l:=made_from hb hs ns.length 0 (by omega) (by omega) (by omega) [] made_nil
end Go.Proofs.Ytcgefpklljclgaa.Print

namespace Go.Proofs.Ytcgefpklljclgaa.Print
open Go.RowKit Go.Proofs.YtcgefpklljclgaaW.PrintWords Go.Proofs.YtcgefpklljclgaaW.PrintLast Go.Proofs.YtcgefpklljclgaaW.PrintMore
theorem shape_made_eq (l:List Item) (n:ByteArray) (hl:l.length<1000000):shape_made.f l n=some (l,fnd l n):=by
 unfold shape_made.f slices_Clone_Item.f
 rw [if_pos (by omega)]
 rfl
theorem sh_Le_eq (a b d a' b' d':Int):vec_Le.f a b d a' b' d'=some (decide (LeP ⟨a,b,d⟩ ⟨a',b',d'⟩)):=by
 unfold vec_Le.f
 rw [show decide (LeP ⟨a,b,d⟩ ⟨a',b',d'⟩)=decide (a≤a'∧b≤b'∧d≤d') from decide_eq_decide.2 leP_iff]
 by_cases h1:a≤a'<;>by_cases h2:b≤b'<;>simp [h1,h2]
theorem sh_May_eq (a b d:Int):vec_May.f a b d=some (decide (MayP ⟨a,b,d⟩)):=by
  unfold vec_May.f
  rw [sh_Le_eq,Option.bind_some]
  have hm:(vec_Most.f)=some (1099511627776,1099511627776,1099511627776):=rfl
  by_cases h:LeP ⟨0,0,0⟩ ⟨a,b,d⟩
  rotate_left
  · rw [if_neg (by simpa using h)]
    congr 1
    rw [eq_comm,decide_eq_false_iff_not,mayP_iff]
    rw [leP_iff] at h
    omega
  rw [if_pos (decide_eq_true h),hm]
  simp only [Option.bind_some,sh_Le_eq]
  congr 1
  apply decide_eq_decide.2
  rw [leP_iff] at h ⊢
  rw [mayP_iff]
  omega
theorem insL_place (l:List Item) (n p:ByteArray) (v:Vec):l.take (placeL l n)++newItem n p v::l.drop (placeL l n)=insL l (newItem n p v):=by
 unfold insL placeL
 have e:=List.takeWhile_append_dropWhile (p:=fun x:Item=>lt x.f0 n) (l:=l)
 have h1:l.take (l.takeWhile fun y:Item=>lt y.f0 n).length=l.takeWhile fun y=>lt y.f0 n:=by
  conv=>lhs;rhs;rw [←e]
  exact List.take_left
 have h2:l.drop (l.takeWhile fun y:Item=>lt y.f0 n).length=l.dropWhile fun y=>lt y.f0 n:=by
  conv=>lhs;rhs;rw [←e]
  exact List.drop_left
 exact congr (congrArg _ h1) (congrArg _ h2)
theorem shape_parent_eq (l:List Item) (j:Int) (p:ByteArray):shape_change_parent.f l j p=some (decide (¬(p≠⟨#[]⟩∧(look l p).isNone=true))):=by
  unfold shape_change_parent.f
  by_cases hp:p=⟨#[]⟩
  · rw [if_pos (nm_empty.2 hp)]
    simp [hp]
  rw [if_neg (fun e=>hp (nm_empty.1 e)),tree_Find_eq]
  simp only [Option.bind_some]
  congr 1
  apply decide_eq_decide.2
  rw [show (fnd l p≥0)↔ ∃x,look l p=some x from fnd_ge]
  cases look l p<;>simp [hp]
theorem shape_Create_eq {l:List Item} (hl:l.length<1000000) (n p:ByteArray) (v:Vec):shape_Create.f l n p v.f0 v.f1 v.f2=some (creR l n p v):=by
  unfold shape_Create.f creR
  rw [shape_made_eq l n hl]
  simp only [Option.bind_some,sh_May_eq,shape_parent_eq]
  by_cases h0:n=⟨#[]⟩
  · rw [if_pos (nm_empty.2 h0),if_pos (by simp [h0])]
  rw [if_neg (fun e=>h0 (nm_empty.1 e))]
  by_cases h1:(n.size:Int)>24
  · rw [if_pos h1,if_pos (by intro h;omega)]
  rw [if_neg h1]
  by_cases h2:MayP v
  rotate_left
  · rw [if_pos (by simpa using h2),if_pos (by intro h;exact h2 h.2)]
  rw [if_neg (show¬decide (MayP v)=false by simpa using h2),if_neg (show¬ ¬((n≠⟨#[]⟩∧n.size≤24)∧MayP v) from fun h=>h ⟨⟨h0,by omega⟩,h2⟩)]
  by_cases h3:fnd l n≥0
  · rw [if_pos h3,if_pos (show (look l n).isSome=true by obtain ⟨x,hx⟩:=fnd_ge.1 h3;rw [hx];rfl)]
  rw [if_neg h3,if_neg (show¬(look l n).isSome=true by rw [fnd_neg.1 (by omega)];simp)]
  by_cases h4:p≠⟨#[]⟩∧(look l p).isNone=true
  · rw [if_pos (by simpa using h4),if_pos h4]
  rw [if_neg (show¬decide (¬(p≠⟨#[]⟩∧(look l p).isNone=true))=false by simpa using h4),if_neg h4]
  by_cases h5:120≤l.length
  · rw [if_pos (by omega),if_pos h5]
  rw [if_neg (by omega),if_neg h5]
  exact congrArg (fun q=>some (q,(0:Int))) (insL_place l n p v)
end Go.Proofs.Ytcgefpklljclgaa.Print

namespace Go.Proofs.Ytcgefpklljclgaa.Print
open Go.RowKit Go.Proofs.YtcgefpklljclgaaW.PrintWords Go.Proofs.YtcgefpklljclgaaW.PrintLast Go.Proofs.YtcgefpklljclgaaW.PrintMore
attribute [local go_sem] max2_int min2_int max_two min_two max_three min_three max_four min_four

end Go.Proofs.Ytcgefpklljclgaa.Print

namespace Go.Proofs.Ytcgefpklljclgaa.Print
open Go.RowKit Go.Proofs.YtcgefpklljclgaaW.PrintWords Go.Proofs.YtcgefpklljclgaaW.PrintLast Go.Proofs.YtcgefpklljclgaaW.PrintMore
theorem tree_Up_l0 (l:List Item) (hl:l.length<1000000): ∀(m:Nat) (n:ByteArray) (out:List ByteArray),out.length+m=l.length+1→
    Ev (fun k=>tree_Up.l0 k l out (fnd l n)) (out++upGo l m n)
  | 0, n, out, hm => by
    rw [upGo.eq_1,List.append_nil]
    refine Ev.step (f:=fun _=>some out) (fun k=> ?_) (Ev.now _)
    simp only [tree_Up.l0]
    by_cases h:0≤fnd l n
    · rw [if_pos h,if_neg (by omega)]
    rw [if_neg h]
  | m + 1, n, out, hm => by
    cases h:look l n with
    | none =>
      rw [upGo_none h,List.append_nil]
      refine Ev.step (f:=fun _=>some out) (fun k=> ?_) (Ev.now _)
      simp only [tree_Up.l0]
      rw [fnd_none h,if_neg (by omega)]
    | some x =>
      rw [upGo_some h]
      have h0:=fnd_ge.2 ⟨x,h⟩
      have h1:=fnd_lt l n
      obtain ⟨hx,hn⟩:=look_mem h
      refine Ev.step (f:=fun k=>tree_Up.l0 k l (out++ [n]) (fnd l x.f1)) (fun k=> ?_) ?_
      · simp only [tree_Up.l0]
        rw [if_pos h0,if_pos (by omega),if_pos h0,if_pos h1,if_pos (by omega),fnd_rd h,hn,tree_Find_eq]
        rfl
      have:=tree_Up_l0 l hl m x.f1 (out++ [n]) (by simp;omega)
      simpa using this
theorem tree_Up_ev (l:List Item) (n:ByteArray) (hl:l.length<1000000):Ev (fun k=>tree_Up.f k l n) (up l n):=by
 have:=tree_Up_l0 l hl (l.length+1) n [] (by simp)
 rw [List.nil_append] at this
 exact this
end Go.Proofs.Ytcgefpklljclgaa.Print

namespace Go.Proofs.Ytcgefpklljclgaa.Print
open Go.RowKit Go.Proofs.YtcgefpklljclgaaW.PrintWords Go.Proofs.YtcgefpklljclgaaW.PrintLast Go.Proofs.YtcgefpklljclgaaW.PrintMore
attribute [local go_sem] max2_int min2_int max_two min_two max_three min_three max_four min_four

def hasStr (l:List ByteArray) (s:ByteArray):Bool:=l.any (fun x=>decide (s.toList=x.toList))
theorem index_some (l:List ByteArray) (s:ByteArray) (hl:l.length<1000000000): ∀(d i:Nat),l.length - i=d→i≤l.length→ ∃r,slices_Index_string_string.l0 (d+1) l s l.length i=some r∧decide (r≥0)=hasStr (l.drop i) s
  | 0, i, hd, hi => by
    obtain rfl:i=l.length:=by omega
    refine ⟨-1, ?_,by rw [List.drop_length];rfl⟩
    simp only [slices_Index_string_string.l0]
    rw [if_neg (by omega)]
  | d + 1, i, hd, hi => by
    have hlt:i<l.length:=by omega
    have hrd:rdOf ByteArray.empty l (i:Int)=l[i]:=by simp [rdOf,hlt]
    rw [List.drop_eq_getElem_cons hlt]
    obtain ⟨r,h1,h2⟩:=index_some l s hl d (i+1) (by omega) (by omega)
    rw [slices_Index_string_string.l0,if_pos (by omega),if_pos (by omega),if_pos (by omega),hrd]
    by_cases e:s.toList=l[i].toList
    · refine ⟨i, if_pos e, ?_⟩
      unfold hasStr
      rw [List.any_cons,decide_eq_true e]
      simp
    refine ⟨r, ?_, ?_⟩
    · rw [if_neg e,show wrap64 ((i:Int)+1)=((i+1:Nat):Int) from by unfold wrap64;omega];exact h1
    rw [h2];unfold hasStr;rw [List.any_cons,decide_eq_false e,Bool.false_or]
end Go.Proofs.Ytcgefpklljclgaa.Print

namespace Go.Proofs.Ytcgefpklljclgaa.Print
open Go.RowKit Go.Proofs.YtcgefpklljclgaaW.PrintWords Go.Proofs.YtcgefpklljclgaaW.PrintLast Go.Proofs.YtcgefpklljclgaaW.PrintMore
end Go.Proofs.Ytcgefpklljclgaa.Print

namespace Go.Proofs.Ytcgefpklljclgaa.Print
open Go.RowKit Go.Proofs.YtcgefpklljclgaaW.PrintWords Go.Proofs.YtcgefpklljclgaaW.PrintLast Go.Proofs.YtcgefpklljclgaaW.PrintMore
attribute [local go_sem] max2_int min2_int max_two min_two max_three min_three max_four min_four

end Go.Proofs.Ytcgefpklljclgaa.Print

namespace Go.Proofs.Ytcgefpklljclgaa.Print
open Go.RowKit Go.Proofs.YtcgefpklljclgaaW.PrintWords Go.Proofs.YtcgefpklljclgaaW.PrintLast Go.Proofs.YtcgefpklljclgaaW.PrintMore
theorem up_cons {l:List Item} (hl:RightP l) {x:Item} (hx:x∈l):up l x.f0=x.f0::up l x.f1:=(Chain.cons (hl.look hx) (hl.chainAll x.f1)).up
theorem sumBy_filter (g:Item→Int) (p:Item→Bool): ∀l:List Item,sumBy g (l.filter p)=sumBy (fun x=>if p x=true then g x else 0) l
  |[]=>rfl
  | x :: l => by
    rw [sumBy_cons]
    by_cases h:p x=true
    · rw [List.filter_cons_of_pos h,sumBy_cons,sumBy_filter g p l,if_pos h]
    rw [List.filter_cons_of_neg h,sumBy_filter g p l,if_neg h];omega
def kids (l:List Item) (n:ByteArray):List ByteArray:=(l.filter (fun x=>decide (x.f1=n))).map (·.f0)
theorem kids_mem {l:List Item} {n s:ByteArray}:s∈kids l n↔ ∃y∈l,y.f1=n∧y.f0=s:=by
  unfold kids
  simp only [List.mem_map,List.mem_filter,decide_eq_true_eq]
  constructor
  · rintro ⟨y,⟨h1,h2⟩,h3⟩;exact ⟨y,h1,h2,h3⟩
  rintro ⟨y,h1,h2,h3⟩;exact ⟨y,⟨h1,h2⟩,h3⟩
end Go.Proofs.Ytcgefpklljclgaa.Print

namespace Go.Proofs.Ytcgefpklljclgaa.Print
open Go.RowKit Go.Proofs.YtcgefpklljclgaaW.PrintWords Go.Proofs.YtcgefpklljclgaaW.PrintLast Go.Proofs.YtcgefpklljclgaaW.PrintMore
attribute [local go_sem] max2_int min2_int max_two min_two max_three min_three max_four min_four

attribute [local go_sem high] eqA27
end Go.Proofs.Ytcgefpklljclgaa.Print

namespace Go.Proofs.Ytcgefpklljclgaa.Print
open Go.RowKit Go.Proofs.YtcgefpklljclgaaW.PrintWords Go.Proofs.YtcgefpklljclgaaW.PrintLast Go.Proofs.YtcgefpklljclgaaW.PrintMore
theorem shbelow_l0 (l:List Item) (n:ByteArray) (hl:l.length<1000000): ∀(d i:Nat) (acc:List ByteArray),l.length - i=d→i≤l.length→acc.length≤i→Ev (fun k=>tree_Below.l0 k n acc l (l.length:Int) i) (acc++((l.drop i).filter (fun x=>decide (x.f1=n))).map (·.f0))
  | 0, i, acc, hd, hi, ha => by
    obtain rfl:i=l.length:=by omega
    rw [List.drop_length]
    refine Ev.step (f:=fun _=>some acc) (fun k=> ?_) (by rw [show acc++(([]:List Item).filter (fun x=>decide (x.f1=n))).map (·.f0)=acc from List.append_nil _];exact Ev.now _)
    rw [tree_Below.l0,if_neg (by omega)]
  | d + 1, i, acc, hd, hi, ha => by
    have hlt:i<l.length:=by omega
    have hrd:rd_T31 l (i:Int)=l[i]:=by rw [rd_item,Int.toNat_natCast];simp [hlt]
    rw [List.drop_eq_getElem_cons hlt]
    generalize l[i]=x at*
    by_cases h:x.f1=n
    rotate_left
    · rw [List.filter_cons_of_neg (by simpa using h)]
      refine Ev.step (f:=fun k=>tree_Below.l0 k n acc l (l.length:Int) ((i+1:Nat):Int)) (fun k=> ?_) (shbelow_l0 l n hl d (i+1) acc (by omega) (by omega) (by omega))
      rw [tree_Below.l0,if_pos (by omega),if_pos (by omega),if_pos (by omega),hrd,if_neg (fun q=>h (nm_inj.1 q)),w64 (by omega) (by omega)]
      rfl
    rw [List.filter_cons_of_pos (by exact decide_eq_true h)]
    refine Ev.step (f:=fun k=>tree_Below.l0 k n (acc++ [x.f0]) l (l.length:Int) ((i+1:Nat):Int)) (fun k=> ?_) ?_
    · rw [tree_Below.l0, if_pos (by omega), if_pos (by omega), if_pos (by omega), hrd, if_pos (nm_inj.2 h), if_pos (by omega), w64 (by omega) (by omega)]
      rfl
    have:=shbelow_l0 l n hl d (i+1) (acc++ [x.f0]) (by omega) (by omega) (by simp;omega)
    rw [List.append_assoc] at this
    exact this
theorem shbelow_ev (l:List Item) (n:ByteArray) (hl:l.length<1000000):Ev (fun k=>tree_Below.f k l n) (kids l n):=by
 have h:=shbelow_l0 l n hl _ 0 [] rfl (by omega) (by simp)
 rw [List.drop_zero,List.nil_append] at h
 exact h
def oldR (l:List Item) (n:ByteArray) (ver:Int):Int:=match look l n with
 |none=>2
 |some x=>if 0≤ver∧x.f5≠ver then 14 else 0
theorem oldR_none {l:List Item} {n:ByteArray} {ver:Int} (h:look l n=none):oldR l n ver=2:=by unfold oldR;rw [h]
theorem oldR_some {l:List Item} {n:ByteArray} {ver:Int} {x:Item} (h:look l n=some x):oldR l n ver=if 0≤ver∧x.f5≠ver then 14 else 0:=by unfold oldR;rw [h]
theorem oldR_zero {l:List Item} {n:ByteArray} {ver:Int} (h:oldR l n ver=0): ∃x,look l n=some x∧(0≤ver→x.f5=ver):=by
  cases q:look l n with
  |none=>rw [oldR_none q] at h;cases h
  | some x =>
    rw [oldR_some q] at h
    refine ⟨x,rfl,fun hv=> ?_⟩
    by_cases e:x.f5=ver
    · exact e
    rw [if_pos ⟨hv,e⟩] at h;cases h
theorem guardF_eq (l:List Item) (n:ByteArray) (ver:Int):guardF l (fnd l n) ver=some (oldR l n ver):=by
  unfold guardF
  cases q:look l n with
  |none=>rw [fnd_none q,oldR_none q,if_pos (by omega)]
  | some x =>
    have h0:=fnd_ge.2 ⟨x,q⟩
    have h1:=fnd_lt l n
    rw [if_neg (by omega),if_pos h1,fnd_rd q,oldR_some q]
    by_cases e:0≤ver∧x.f5≠ver
    · rw [if_pos e,if_pos e]
    rw [if_neg e,if_neg e]
def limG (n:ByteArray) (v:Vec) (x:Item):Item:=if x.f0=n then ⟨x.f0,x.f1,v,x.f3,x.f4,x.f5+1⟩ else x
def limR (l:List Item) (n:ByteArray) (v:Vec) (ver:Int):List Item×Int:=
 if¬MayP v then ([],1) else if oldR l n ver≠0 then ([],oldR l n ver) else match look l n with
  |none=>([],2)
  |some x=>if 9007199254740992≤x.f5 then ([],4) else if LeP x.f4 v then (l.map (limG n v),0) else ([],12)
theorem set_limG {l:List Item} (hl:RightP l) {n:ByteArray} {x:Item} (h:look l n=some x) (v:Vec):l.set (fnd l n).toNat ⟨x.f0,x.f1,v,x.f3,x.f4,x.f5+1⟩=l.map (limG n v):=by
  rw [set_at hl.nodup h]
  refine List.map_congr_left fun z hz=> ?_
  unfold limG
  by_cases e:z.f0=n
  rotate_left
  · rw [if_neg e,if_neg e]
  rw [if_pos e,if_pos e]
  have hx:=look_mem h
  have:=hl.eq_of hz hx.1 (by rw [e,hx.2])
  rw [this]
theorem rd_set {l:List Item} {j:Int} (h0:0≤j) (h1:j<(l.length:Int)) (y:Item):rd_T31 (l.set j.toNat y) j=y:=by
 rw [rd_item]
 simp [List.getD_eq_getElem?_getD,show j.toNat<l.length by omega]
theorem ver_step {x:Item} (h:ItemOK x):wrap64 (x.f5+1)=x.f5+1:=by
 have:=h.ver
 exact w64 (by omega) (by omega)
theorem olderF_eq {l:List Item} (hl:RightP l) {n:ByteArray} {x:Item} (h:look l n=some x):olderF l (fnd l n)=if 9007199254740992≤x.f5 then some (4,l) else some (0,l.set (fnd l n).toNat ⟨x.f0,x.f1,x.f2,x.f3,x.f4,x.f5+1⟩):=by
 unfold olderF
 have h0:=fnd_ge.2 ⟨x,h⟩
 have h1:=fnd_lt l n
 rw [if_pos ⟨h0,h1⟩,fnd_rd h]
 unfold verF
 rw [ver_step (hl.ok x (look_mem h).1)]
theorem shape_Limit_eq {l:List Item} (hl:RightP l) (n:ByteArray) (v:Vec) (ver:Int):shape_Limit.f l n v.f0 v.f1 v.f2 ver=some (limR l n v ver):=by
  have hlen:=hl.len
  unfold shape_Limit.f limR
  rw [sh_May_eq]
  simp only [Option.bind_some]
  by_cases h1:MayP v
  rotate_left
  · rw [if_pos (show decide (MayP v)=false by simpa using h1),if_pos h1]
  rw [if_neg (show¬decide (MayP v)=false by simpa using h1),if_neg (show¬ ¬MayP v from fun h=>h h1),shape_made_eq l n (by omega)]
  simp only [Option.bind_some,guardF_eq]
  by_cases h2:oldR l n ver=0
  rotate_left
  · rw [if_pos h2,if_pos h2]
  rw [if_neg (by simpa using h2),if_neg (by simpa using h2)]
  obtain ⟨x,hx,_⟩:=oldR_zero h2
  have j0:=fnd_ge.2 ⟨x,hx⟩
  have j1:=fnd_lt l n
  rw [olderF_eq hl hx]
  simp only [hx]
  by_cases h3:9007199254740992≤x.f5
  · rw [if_pos h3, if_pos h3]
    simp
  rw [if_neg h3,if_neg h3]
  simp only [Option.bind_some]
  rw [if_neg (by simp),rd_set j0 j1,sh_Le_eq]
  simp only [Option.bind_some]
  by_cases h4:LeP x.f4 v
  · rw [if_neg (show ¬ decide (LeP ⟨x.f4.f0, x.f4.f1, x.f4.f2⟩ ⟨v.f0, v.f1, v.f2⟩) = false by simpa using h4), if_pos h4, List.set_set]
    exact congrArg (fun q=>some (q,(0:Int))) (set_limG hl hx v)
  rw [if_pos (show decide (LeP ⟨x.f4.f0,x.f4.f1,x.f4.f2⟩ ⟨v.f0,v.f1,v.f2⟩)=false by simpa using h4),if_neg h4]
def delL (l:List Item) (n:ByteArray):List Item:=l.filter (fun z=>decide (z.f0≠n))
def delR (l:List Item) (n:ByteArray) (ver:Int):List Item×Int:=
 if oldR l n ver≠0 then ([],oldR l n ver) else if 0<(kids l n).length then ([],13) else match look l n with
  |none=>([],2)
  |some x=>if x.f3.f0=0∧x.f3.f1=0∧x.f3.f2=0 then (delL l n,0) else ([],13)
theorem mem_delL {l:List Item} {n:ByteArray} {x:Item}:x∈delL l n↔x∈l∧x.f0≠n:=by simp [delL]
theorem look_delL (l:List Item) (n m:ByteArray):look (delL l n) m=if m=n then none else look l m:=by
  induction l with
  |nil=>simp [delL,look]
  | cons x l ih =>
    unfold delL at ih ⊢
    by_cases e:x.f0=n
    · rw [List.filter_cons_of_neg (by simpa using e), ih]
      by_cases em:m=n
      · rw [if_pos em,if_pos em]
      rw [if_neg em,if_neg em]
      unfold look
      rw [List.find?_cons]
      simp [show x.f0≠m from fun q=>em (q.symm.trans e)]
    rw [List.filter_cons_of_pos (by simpa using e)]
    unfold look at ih ⊢
    rw [List.find?_cons,List.find?_cons,ih]
    by_cases em:m=n
    · rw [if_pos em, if_pos em]
      simp [show x.f0≠m from fun q=>e (q.trans em)]
    rw [if_neg em,if_neg em]
theorem cut_delL {l:List Item} (hl:RightP l) {n:ByteArray} {x:Item} (h:look l n=some x):l.take (fnd l n).toNat++l.drop ((fnd l n).toNat+1)=delL l n:=by
  obtain ⟨j,h1,h2,h3,h4,h5⟩:=fnd_some h
  rw [h2,Int.toNat_natCast]
  have hx:l[j]=x:=by rw [←h3];simp [h1]
  have hsp:l=l.take j++l[j]::l.drop (j+1):=by rw [←List.drop_eq_getElem_cons h1,List.take_append_drop]
  have hnd:=hl.nodup
  unfold delL
  conv=>rhs;rw [hsp]
  rw [hsp,List.map_append,List.map_cons,List.nodup_append] at hnd
  obtain ⟨_,hn2,hn3⟩:=hnd
  rw [List.nodup_cons] at hn2
  rw [List.filter_append,List.filter_cons_of_neg (by rw [hx,h4];simp)]
  congr 1
  · rw [List.filter_eq_self.2]
    intro z hz
    have:=hn3 z.f0 (List.mem_map_of_mem hz) l[j].f0 (List.mem_cons_self ..)
    rw [hx,h4] at this
    simpa using this
  rw [List.filter_eq_self.2]
  intro z hz
  have:z.f0≠l[j].f0:=fun e=>hn2.1 (by rw [←e];exact List.mem_map_of_mem hz)
  rw [hx,h4] at this
  simpa using this
theorem shape_Delete_ev {l:List Item} (hl:RightP l) (n:ByteArray) (ver:Int):Ev (fun k=>shape_Delete.f k l n ver) (delR l n ver):=by
  have hlen:=hl.len
  unfold shape_Delete.f delR
  rw [shape_made_eq l n (by omega)]
  simp only [Option.bind_some,guardF_eq]
  by_cases h2:oldR l n ver=0
  rotate_left
  · simp only [h2, ne_eq, not_false_eq_true, if_true]
    exact Ev.now _
  obtain ⟨x,hx,_⟩:=oldR_zero h2
  simp only [h2,ne_eq,not_true_eq_false,if_false]
  refine Ev.bind (shbelow_ev l n (by omega)) ?_
  by_cases h3:0<(kids l n).length
  · simp only [show (((kids l n).length : Int) > 0) = True from eq_true (by omega), h3, if_true]
    exact Ev.now _
  simp only [show (((kids l n).length:Int)>0)=False from eq_false (by omega),h3,if_false,hx,fnd_rd hx]
  by_cases h4:x.f3.f0=0∧x.f3.f1=0∧x.f3.f2=0
  · simp only [h4, and_self, if_true]
    rw [cut_delL hl hx]
    exact Ev.now _
  simp only [h4,if_false]
  exact Ev.now _
theorem kids_none {l:List Item} {n:ByteArray} (h: ¬0<(kids l n).length): ∀y∈l,y.f1≠n:=fun y hy e=>h (List.length_pos_of_mem (kids_mem.2 ⟨y,hy,e,rfl⟩))
theorem del_right {l:List Item} (hl:RightP l) {n:ByteArray} {x:Item} (hx:look l n=some x) (hk: ∀y∈l,y.f1≠n) (h0:x.f3.f0=0∧x.f3.f1=0∧x.f3.f2=0):RightP (delL l n):=by
  obtain ⟨hxm,hxn⟩:=look_mem hx
  have hxs: ∀c:Comp,c.of x.f4=0:=fun c=>by
    have:=hl.sum c x hxm
    have e:csum c l x.f0=0:=sumBy_zero fun y hy=>if_neg (by rw [hxn];exact hk y hy)
    have e3:c.of x.f3=0:=by cases c<;>simp [Comp.of,h0]
    omega
  refine ⟨?_,fun y hy=>hl.ok y (mem_delL.1 hy).1,hl.sorted.filter _,fun y hy=> ?_,fun c y hy=> ?_,fun y hy=> ?_⟩
  · exact Nat.le_trans (List.length_filter_le _ _) hl.len
  · obtain ⟨hy1, hy2⟩ := mem_delL.1 hy
    rcases hl.par y hy1 with h|⟨z,hz⟩
    · exact .inl h
    exact .inr ⟨z,by rw [look_delL,if_neg (hk y hy1)];exact hz⟩
  · obtain ⟨hy1, hy2⟩ := mem_delL.1 hy
    rw [hl.sum c y hy1]
    congr 1
    unfold csum delL
    rw [sumBy_filter]
    refine sumBy_congr fun z hz=> ?_
    by_cases e:z.f0=n
    rotate_left
    · simp [e]
    have:z=x:=hl.eq_of hz hxm (e.trans hxn.symm)
    subst this
    simp [e,hxs c]
  obtain ⟨hy1,hy2⟩:=mem_delL.1 hy
  obtain ⟨us,h⟩:=hl.chain y hy1
  refine ⟨us, ?_⟩
  have: ∀{m:ByteArray} {us:List ByteArray},Chain l m us→m≠n→Chain (delL l n) m us:=by
    intro m us h
    induction h with
    |nil q=>intro hm;exact Chain.nil (by rw [look_delL,if_neg hm];exact q)
    | cons q _ ih =>
      intro hm
      refine Chain.cons (by rw [look_delL,if_neg hm];exact q) (ih (hk _ (look_mem q).1))
  exact this h hy2
end Go.Proofs.Ytcgefpklljclgaa.Print

namespace Go.Proofs.Ytcgefpklljclgaa.Print
open Go.RowKit Go.Proofs.YtcgefpklljclgaaW.PrintWords Go.Proofs.YtcgefpklljclgaaW.PrintLast Go.Proofs.YtcgefpklljclgaaW.PrintMore
attribute [local go_sem] max2_int min2_int max_two min_two max_three min_three max_four min_four

end Go.Proofs.Ytcgefpklljclgaa.Print

namespace Go.Proofs.Ytcgefpklljclgaa.Print
open Go.RowKit Go.Proofs.YtcgefpklljclgaaW.PrintWords Go.Proofs.YtcgefpklljclgaaW.PrintLast Go.Proofs.YtcgefpklljclgaaW.PrintMore
def updF (us:List ByteArray) (f:Item→Item) (x:Item):Item:=if x.f0∈us then f x else x
theorem updF_name {us:List ByteArray} {f:Item→Item} (hf: ∀x,(f x).f0=x.f0) (x:Item):(updF us f x).f0=x.f0:=by
  unfold updF
  split
  · exact hf x
  rfl
theorem set_upd {l:List Item} (hn:(l.map (·.f0)).Nodup) {s:ByteArray} {x:Item} (h:look l s=some x) (f:Item→Item):l.set (fnd l s).toNat (f x)=l.map (updF [s] f):=by
  rw [set_at hn h]
  refine List.map_congr_left fun z hz=> ?_
  unfold updF
  by_cases e:z.f0=s
  rotate_left
  · rw [if_neg e,if_neg (by simpa using e)]
  rw [if_pos e,if_pos (by simp [e])]
  have h1:=look_of_mem hn hz
  rw [e,h] at h1
  rw [Option.some.inj h1]
theorem upd_cons {us:List ByteArray} {s:ByteArray} (hs:s ∉ us) {f:Item→Item} (hf: ∀x,(f x).f0=x.f0) (l:List Item):(l.map (updF [s] f)).map (updF us f)=l.map (updF (s::us) f):=by
  rw [List.map_map]
  refine List.map_congr_left fun z hz=> ?_
  simp only [Function.comp]
  by_cases e:z.f0=s
  · have e1 : updF [s] f z = f z := by unfold updF; rw [if_pos (by simp [e])]
    rw [e1]
    unfold updF
    rw [if_neg (by rw [hf,e];exact hs),if_pos (by simp [e])]
  have e1:updF [s] f z=z:=by unfold updF;rw [if_neg (by simpa using e)]
  rw [e1]
  unfold updF
  by_cases e2:z.f0∈us
  · rw [if_pos e2,if_pos (List.mem_cons_of_mem _ e2)]
  rw [if_neg e2,if_neg (by simp [e,e2])]
theorem upd_nil (f:Item→Item) (l:List Item):l.map (updF [] f)=l:=by
 rw [show updF [] f=id from by funext z;simp [updF]]
 simp
theorem nodup_upd {us:List ByteArray} {f:Item→Item} (hf: ∀x,(f x).f0=x.f0) {l:List Item} (hn:(l.map (·.f0)).Nodup):((l.map (updF us f)).map (·.f0)).Nodup:=by
 rw [List.map_map,show ((fun x:Item=>x.f0) ∘ updF us f)=(fun x=>x.f0) from by funext z;exact updF_name hf z]
 exact hn
theorem look_upd {us:List ByteArray} {f:Item→Item} (hf: ∀x,(f x).f0=x.f0) (l:List Item) (m:ByteArray):look (l.map (updF us f)) m=(look l m).map (updF us f):=look_map (f:=updF us f) (updF_name hf) l m
theorem shSub_name (op:Vec→Vec) (x:Item):(shSub op x).f0=x.f0:=rfl
theorem shiftF_eq (op:Vec→Vec): ∀(us:List ByteArray) (l:List Item),(l.map (·.f0)).Nodup→us.Nodup→(∀s∈us,∃x,look l s=some x)→shiftF op us l=some (l.map (updF us (shSub op)))
  |[],l,_,_,_=>by rw [upd_nil];rfl
  | s :: us, l, hn, hu, hin => by
    rw [List.nodup_cons] at hu
    obtain ⟨x,hx⟩:=hin s (List.mem_cons_self ..)
    have j0:=fnd_ge.2 ⟨x,hx⟩
    have j1:=fnd_lt l s
    unfold shiftF
    rw [tree_Find_eq]
    simp only [Option.bind_some]
    rw [if_pos ⟨j0,j1⟩,fnd_rd hx,set_upd hn hx,shiftF_eq op us _ (nodup_upd (shSub_name op) hn) hu.2 (fun t ht=>by
      obtain ⟨y,hy⟩:=hin t (List.mem_cons_of_mem _ ht)
      exact ⟨_,by rw [look_upd (shSub_name op),hy];rfl⟩),upd_cons hu.1 (shSub_name op)]
theorem contains_ev (l:List ByteArray) (s:ByteArray) (hl:l.length<1000000):Ev (fun k=>slices_Contains_string_string.f k l s) (hasStr l s):=by
 obtain ⟨r,h1,h2⟩:=index_some l s (by omega) l.length 0 (by omega) (by omega)
 refine Ev.of (fun k=>slices_Contains_string_string.mono l s k) (k:=l.length+1) ?_
 unfold slices_Contains_string_string.f slices_Index_string_string.f
 rw [show slices_Index_string_string.l0 (l.length+1) l s (l.length:Int) 0=some r from h1]
 simp only [Option.bind_some]
 rw [h2,List.drop_zero]
theorem hasStr_iff {l:List ByteArray} {s:ByteArray}:hasStr l s=true↔s∈l:=by
  unfold hasStr
  rw [List.any_eq_true]
  constructor
  · rintro ⟨x, hx, e⟩
    rw [nm_inj.1 (of_decide_eq_true e)]
    exact hx
  intro h
  exact ⟨s,h,decide_eq_true rfl⟩
def SmP (v:Vec):Prop:= ∀c:Comp, -2199023255552≤c.of v∧c.of v≤2199023255552
theorem MayP.sm {v:Vec} (h:MayP v):SmP v:=fun c=>by have:=h c;omega
theorem mvSub_eq {v u:Vec} (hv:MayP v) (hu:MayP u):mvSub v u=vsub u v:=by
 have a0:=hv .cpu;have a1:=hv .mem;have a2:=hv .pods
 have b0:=hu .cpu;have b1:=hu .mem;have b2:=hu .pods
 simp only [Comp.of] at a0 a1 a2 b0 b1 b2
 unfold mvSub vsub
 rw [w64 (by omega) (by omega),w64 (by omega) (by omega),w64 (by omega) (by omega)]
theorem vsub_sm {v u:Vec} (hv:MayP v) (hu:MayP u):SmP (vsub u v):=fun c=>by
 have a:=hv c;have b:=hu c
 rw [of_vsub];omega
theorem mvAdd_eq {v u:Vec} (hv:MayP v) (hu:SmP u):mvAdd v u=vadd u v:=by
 have a0:=hv .cpu;have a1:=hv .mem;have a2:=hv .pods
 have b0:=hu .cpu;have b1:=hu .mem;have b2:=hu .pods
 simp only [Comp.of] at a0 a1 a2 b0 b1 b2
 unfold mvAdd vec_Add.f
 simp only [vecByF,Option.getD_some]
 unfold vadd
 rw [w64 (n:=0+u.f0) (by omega) (by omega),w64 (n:=0+u.f1) (by omega) (by omega),w64 (n:=0+u.f2) (by omega) (by omega),w64 (by omega) (by omega),w64 (by omega) (by omega),w64 (by omega) (by omega)]
 simp
def mvS (fs ts:List ByteArray) (v:Vec) (z:Item):Vec:=if z.f0∈ts then vadd (if z.f0∈fs then vsub z.f4 v else z.f4) v else if z.f0∈fs then vsub z.f4 v else z.f4
def movG (n p:ByteArray) (fs ts:List ByteArray) (v:Vec) (z:Item):Item:=⟨z.f0,if z.f0=n then p else z.f1,z.f2,z.f3,mvS fs ts v z,if z.f0=n then z.f5+1 else z.f5⟩
def movL (l:List Item) (n p:ByteArray) (x:Item):List Item:=l.map (movG n p (up l x.f1) (up l p) x.f4)
def movB (l:List Item) (x:Item) (p:ByteArray):Bool:=(up l p).all fun s=>hasStr (up l x.f1) s||match look l s with
 |none=>false
 |some y=>decide (LeP (vadd y.f4 x.f4) y.f2)
def movR (l:List Item) (n p:ByteArray) (ver:Int):List Item×Int:=
 if oldR l n ver≠0 then ([],oldR l n ver) else if p≠⟨#[]⟩∧(look l p).isNone=true then ([],2) else if n∈up l p then ([],10) else match look l n with
  |none=>([],2)
  |some x=>if 9007199254740992≤x.f5 then ([],4) else if movB l x p=true then (movL l n p x,0) else ([],12)
theorem mv_in {l:List Item} (hl:RightP l) {m s:ByteArray} (h:s∈up l m): ∃x,look l s=some x:=(hl.chainAll m).mem_look h
theorem not_own_way {l:List Item} (hl:RightP l) {n:ByteArray} {x:Item} (hx:look l n=some x):n ∉ up l x.f1:=by
 have h:=(Chain.cons hx (hl.chainAll x.f1)).nodup
 rw [List.nodup_cons] at h
 exact h.1
theorem way_len {l:List Item} (hl:RightP l) (m:ByteArray):(up l m).length<1000000:=by
 have:=up_len l m
 have:=hl.len
 omega
theorem fits_ev {l:List Item} (hl:RightP l) {x:Item} (hx:MayP x.f4) (fs:List ByteArray) (hf:fs.length<1000000): ∀us:List ByteArray,(∀s∈us,∃y,look l s=some y)→Ev (fun k=>fitsF k l fs x.f4 us) (us.all fun s=>hasStr fs s||match look l s with
  |none=>false
  |some y=>decide (LeP (vadd y.f4 x.f4) y.f2))
  |[],_=>Ev.now _
  | s :: us, hin => by
    obtain ⟨y,hy⟩:=hin s (List.mem_cons_self ..)
    have j0:=fnd_ge.2 ⟨y,hy⟩
    have j1:=fnd_lt l s
    have ih:=fits_ev hl hx fs hf us (fun t ht=>hin t (List.mem_cons_of_mem _ ht))
    have hya:=mvAdd_eq hx (hl.ok y (look_mem hy).1).sub.sm
    unfold fitsF
    simp only [tree_Find_eq,Option.bind_some,eq_true j0,eq_true j1,true_and,if_true,fnd_rd hy,hya]
    refine Ev.bind (contains_ev fs s hf) ?_
    rw [List.all_cons,hy]
    cases hasStr fs s with
    | true =>
      simp only [if_true,Bool.true_or,Bool.true_and]
      exact ih
    | false =>
      simp only [Bool.false_or,sh_Le_eq,Option.bind_some]
      by_cases hle:LeP (vadd y.f4 x.f4) y.f2
      · rw [decide_eq_true (show LeP ⟨(vadd y.f4 x.f4).f0, (vadd y.f4 x.f4).f1, (vadd y.f4 x.f4).f2⟩ ⟨y.f2.f0, y.f2.f1, y.f2.f2⟩ from hle), Bool.true_and]
        simp only [Bool.false_eq_true,if_false,if_true]
        exact ih
      rw [decide_eq_false (show¬LeP ⟨(vadd y.f4 x.f4).f0,(vadd y.f4 x.f4).f1,(vadd y.f4 x.f4).f2⟩ ⟨y.f2.f0,y.f2.f1,y.f2.f2⟩ from hle),Bool.false_and]
      simp only [Bool.false_eq_true,if_false]
      exact Ev.now _
theorem set_one {l:List Item} (hn:(l.map (·.f0)).Nodup) {n:ByteArray} {x:Item} (h:look l n=some x) {f:Item→Item} {y:Item} (hy:y=f x):l.set (fnd l n).toNat y=l.map (updF [n] f):=by
 rw [hy]
 exact set_upd hn h f
theorem mov_prog {l:List Item} (hl:RightP l) {n p:ByteArray} {x:Item} (hx:look l n=some x) (hnt:n ∉ up l p):
    let l4:=((l.set (fnd l n).toNat (⟨x.f0,x.f1,x.f2,x.f3,x.f4,x.f5+1⟩:Item)).map (updF (up l x.f1) (shSub (mvSub x.f4)))).map (updF (up l p) (shSub (mvAdd x.f4)))
    l4.set (fnd l n).toNat (parF p (rd_T31 l4 (fnd l n)))=movL l n p x:=by
  intro l4
  obtain ⟨hxm,hxn⟩:=look_mem hx
  have hxs:=(hl.ok x hxm).sub
  have hnf:=not_own_way hl hx
  have hver: ∀z:Item,(⟨z.f0,z.f1,z.f2,z.f3,z.f4,z.f5+1⟩:Item).f0=z.f0:=fun _=>rfl
  have e2:l.set (fnd l n).toNat (⟨x.f0,x.f1,x.f2,x.f3,x.f4,x.f5+1⟩:Item)=l.map (updF [n] fun z=>⟨z.f0,z.f1,z.f2,z.f3,z.f4,z.f5+1⟩):=set_one (f:=fun z=>⟨z.f0,z.f1,z.f2,z.f3,z.f4,z.f5+1⟩) hl.nodup hx rfl
  have e4:l4=l.map fun z=>updF (up l p) (shSub (mvAdd x.f4)) (updF (up l x.f1) (shSub (mvSub x.f4)) (updF [n] (fun z=>⟨z.f0,z.f1,z.f2,z.f3,z.f4,z.f5+1⟩) z)):=by
    show ((l.set _ _).map _).map _=_
    rw [e2,List.map_map,List.map_map]
    rfl
  have hname: ∀z:Item,(updF (up l p) (shSub (mvAdd x.f4)) (updF (up l x.f1) (shSub (mvSub x.f4)) (updF [n] (fun z=>⟨z.f0,z.f1,z.f2,z.f3,z.f4,z.f5+1⟩) z))).f0=z.f0:=fun z=>by
    rw [updF_name (shSub_name _),updF_name (shSub_name _),updF_name hver]
  have hn4:(l4.map (·.f0)).Nodup:=by
    rw [e4,List.map_map]
    rw [show ((fun x:Item=>x.f0) ∘ fun z=>updF (up l p) (shSub (mvAdd x.f4)) (updF (up l x.f1) (shSub (mvSub x.f4)) (updF [n] (fun z=>⟨z.f0,z.f1,z.f2,z.f3,z.f4,z.f5+1⟩) z)))=(fun x=>x.f0) from funext hname]
    exact hl.nodup
  have hlk:=look_map hname l n
  rw [hx,←e4] at hlk
  have hf4:fnd l4 n=fnd l n:=by rw [e4];exact fnd_map hname l n
  rw [←hf4,fnd_rd hlk,set_upd hn4 hlk (parF p),e4,List.map_map]
  unfold movL
  refine List.map_congr_left fun z hz=> ?_
  have hzs:=(hl.ok z hz).sub
  simp only [Function.comp]
  by_cases e:z.f0=n
  · have q1 : z.f0 ∉ up l x.f1 := by rw [e]; exact hnf
    have q2:z.f0 ∉ up l p:=by rw [e];exact hnt
    simp [updF,movG,mvS,parF,e,hnf,hnt]
  have ev:mvSub x.f4 z.f4=vsub z.f4 x.f4:=mvSub_eq hxs hzs
  have ea:mvAdd x.f4 z.f4=vadd z.f4 x.f4:=mvAdd_eq hxs hzs.sm
  have ea2:mvAdd x.f4 (vsub z.f4 x.f4)=vadd (vsub z.f4 x.f4) x.f4:=mvAdd_eq hxs (vsub_sm hxs hzs)
  by_cases q1:z.f0∈up l x.f1<;>by_cases q2:z.f0∈up l p<;>simp [updF,movG,mvS,shSub,e,q1,q2,ev,ea,ea2]
end Go.Proofs.Ytcgefpklljclgaa.Print

namespace Go.Proofs.Ytcgefpklljclgaa.Print
open Go.RowKit Go.Proofs.YtcgefpklljclgaaW.PrintWords Go.Proofs.YtcgefpklljclgaaW.PrintLast Go.Proofs.YtcgefpklljclgaaW.PrintMore
attribute [local go_sem] max2_int min2_int max_two min_two max_three min_three max_four min_four

end Go.Proofs.Ytcgefpklljclgaa.Print

namespace Go.Proofs.Ytcgefpklljclgaa.Print
open Go.RowKit Go.Proofs.YtcgefpklljclgaaW.PrintWords Go.Proofs.YtcgefpklljclgaaW.PrintLast Go.Proofs.YtcgefpklljclgaaW.PrintMore
theorem movR_eq {l:List Item} {n p:ByteArray} {ver:Int} {x:Item} (h2:oldR l n ver=0) (hx:look l n=some x) (h3: ¬(p≠⟨#[]⟩∧(look l p).isNone=true)) (h4:n ∉ up l p):movR l n p ver=if 9007199254740992≤x.f5 then ([],4) else if movB l x p=true then (movL l n p x,0) else ([],12):=by
 unfold movR
 rw [if_neg (by simpa using h2),if_neg h3,if_neg h4]
 simp only [hx]
theorem hasStr_false {l:List ByteArray} {s:ByteArray} (h:s ∉ l):hasStr l s=false:=by
 cases q:hasStr l s with
 |false=>rfl
 |true=>exact absurd (hasStr_iff.1 q) h
theorem shape_Move_ev {l:List Item} (hl:RightP l) (n p:ByteArray) (ver:Int):Ev (fun k=>shape_Move.f k l n p ver) (movR l n p ver):=by
  have hlen:=hl.len
  unfold shape_Move.f
  rw [shape_made_eq l n (by omega)]
  simp only [Option.bind_some,guardF_eq]
  by_cases h2:oldR l n ver=0
  rotate_left
  · unfold movR
    simp only [h2,ne_eq,not_false_eq_true,if_true]
    exact Ev.now _
  obtain ⟨x,hx,_⟩:=oldR_zero h2
  have hxm:=(look_mem hx).1
  simp only [h2,ne_eq,not_true_eq_false,if_false]
  refine Ev.bind (tree_Up_ev l p (by omega)) ?_
  simp only [shape_parent_eq,Option.bind_some]
  by_cases h3:p≠⟨#[]⟩∧(look l p).isNone=true
  · unfold movR
    rw [if_neg (by simpa using h2),if_pos h3]
    exact Ev.congr (fun k=>if_pos (by simpa using h3)) (Ev.now _)
  refine Ev.congr (fun k=>if_neg (by simpa using h3)) ?_
  refine Ev.bind (contains_ev _ _ (way_len hl p)) ?_
  by_cases h4:n∈up l p
  · unfold movR
    rw [if_neg (by simpa using h2),if_neg h3,if_pos h4,hasStr_iff.2 h4]
    exact Ev.congr (fun k=>if_pos rfl) (Ev.now _)
  rw [movR_eq h2 hx h3 h4,hasStr_false h4]
  refine Ev.congr (fun k=>if_neg (by simp)) ?_
  rw [olderF_eq hl hx]
  by_cases h5:9007199254740992≤x.f5
  · simp only [h5, if_true, Option.bind_some]
    exact Ev.congr (fun k=>if_pos (by simp)) (Ev.now _)
  simp only [h5,if_false,Option.bind_some]
  refine Ev.congr (fun k=>if_neg (by simp)) ?_
  have j0:=fnd_ge.2 ⟨x,hx⟩
  have j1:=fnd_lt l n
  simp only [rd_set j0 j1]
  refine Ev.bind (tree_Up_ev l x.f1 (by omega)) ?_
  have hf:Ev (fun k=>fitsF k l (up l x.f1) x.f4 (up l p)) (movB l x p):=fits_ev hl (hl.ok x hxm).sub (up l x.f1) (way_len hl _) (up l p) (fun s hs=>mv_in hl hs)
  refine Ev.bind hf ?_
  cases movB l x p with
  |false=>exact Ev.congr (fun k=>if_pos rfl) (Ev.now _)
  | true =>
    refine Ev.congr (fun k=>if_neg (by simp)) ?_
    have hver: ∀z:Item,(⟨z.f0,z.f1,z.f2,z.f3,z.f4,z.f5+1⟩:Item).f0=z.f0:=fun _=>rfl
    have e2:l.set (fnd l n).toNat (⟨x.f0,x.f1,x.f2,x.f3,x.f4,x.f5+1⟩:Item)=l.map (updF [n] fun z=>⟨z.f0,z.f1,z.f2,z.f3,z.f4,z.f5+1⟩):=set_one (f:=fun z=>⟨z.f0,z.f1,z.f2,z.f3,z.f4,z.f5+1⟩) hl.nodup hx rfl
    have hn2:((l.set (fnd l n).toNat (⟨x.f0,x.f1,x.f2,x.f3,x.f4,x.f5+1⟩:Item)).map (·.f0)).Nodup:=by rw [e2];exact nodup_upd hver hl.nodup
    have hs1:=shiftF_eq (mvSub x.f4) (up l x.f1) _ hn2 (hl.chainAll _).nodup (fun s hs=>by
      obtain ⟨y,hy⟩:=mv_in hl hs
      exact ⟨_,by rw [e2,look_upd hver,hy];rfl⟩)
    have hs2:=shiftF_eq (mvAdd x.f4) (up l p) _ (nodup_upd (shSub_name (mvSub x.f4)) hn2) (hl.chainAll _).nodup (fun s hs=>by
      obtain ⟨y,hy⟩:=mv_in hl hs
      exact ⟨_,by rw [look_upd (us:=up l x.f1) (shSub_name (mvSub x.f4)),e2,look_upd (us:=[n]) hver,hy];rfl⟩)
    simp only [if_true]
    refine Ev.const ?_
    rw [hs1]
    simp only [Option.bind_some]
    rw [hs2]
    simp only [Option.bind_some]
    exact congrArg (fun q=>some (q,(0:Int))) (mov_prog hl hx h4)
theorem sumBy_ge {g:Item→Int}: ∀{l:List Item},(∀x∈l,0≤g x)→ ∀{x:Item},x∈l→g x≤sumBy g l
  |[],_,_,h=>by cases h
  | y :: l, hn, x, hx => by
    rw [sumBy_cons]
    have h0:=hn y (by simp)
    have h1:=sumBy_nonneg (g:=g) (l:=l) (fun z hz=>hn z (by simp [hz]))
    rcases List.mem_cons.1 hx with rfl|hx
    · omega
    have:=sumBy_ge (g:=g) (l:=l) (fun z hz=>hn z (by simp [hz])) hx
    omega
theorem child_le {l:List Item} (hl:RightP l) {x y:Item} (hx:x∈l) (hy:look l x.f1=some y) (c:Comp):c.of x.f4≤c.of y.f4:=by
  obtain ⟨hy1,hy2⟩:=look_mem hy
  have h1:=hl.sum c y hy1
  have h2:=((hl.ok y hy1).own c).1
  have h3:c.of x.f4≤csum c l y.f0:=by
    have:=sumBy_ge (g:=fun z=>if z.f1=y.f0 then c.of z.f4 else 0) (l:=l) (fun z hz=>by
      show 0≤(if z.f1=y.f0 then c.of z.f4 else 0)
      split
      · exact ((hl.ok z hz).sub c).1
      omega) hx
    rw [if_pos hy2.symm] at this
    exact this
  omega
theorem sub_up' {l:List Item} (hl:RightP l) (c:Comp) {n:ByteArray} {us:List ByteArray} (h:Chain l n us): ∀{x:Item},look l n=some x→ ∀{z:Item},z∈l→z.f0∈us→c.of x.f4≤c.of z.f4:=by
  induction h with
  |nil h=>intro x _ z _ hz;cases hz
  | @cons n x us h k ih =>
    intro x' hx' z hz hm
    rw [h] at hx'
    obtain rfl:=Option.some.inj hx'
    obtain ⟨hx,hn⟩:=look_mem h
    rcases List.mem_cons.1 hm with e|hm
    · obtain rfl := hl.eq_of hz hx (e.trans hn.symm)
      omega
    cases k with
    |nil _=>cases hm
    | @cons _ y _ hy k =>
      have h1:=child_le hl hx hy c
      have h2:=ih hy hz hm
      omega
theorem sub_up {l:List Item} (hl:RightP l) {x z:Item} (hx:x∈l) (hz:z∈l) (hm:z.f0∈up l x.f0) (c:Comp):c.of x.f4≤c.of z.f4:=sub_up' hl c (hl.chainAll x.f0) (hl.look hx) hz hm
def doR (l:List Item) (kd:Int) (n p:ByteArray) (v:Vec) (ver:Int):List Item×Int:=
 if kd=1 then creR l n p v else if kd=2 then limR l n v ver else if kd=3 then movR l n p ver else if kd=4 then delR l n ver else ([],1)
theorem shape_Do_ev {l:List Item} (hl:RightP l) (kd:Int) (n p:ByteArray) (v:Vec) (ver:Int):Ev (fun k=>shape_Do.f k l kd n p v.f0 v.f1 v.f2 ver) (doR l kd n p v ver):=by
  have hlen:=hl.len
  unfold shape_Do.f doR
  by_cases h1:kd=1
  · simp only [h1, if_true]
    refine Ev.const ?_
    rw [shape_Create_eq (by omega)]
    rfl
  by_cases h2:kd=2
  · simp only [h1, h2, if_false, if_true]
    refine Ev.const ?_
    rw [shape_Limit_eq hl]
    rfl
  by_cases h3:kd=3
  · simp only [h1, h2, h3, if_false, if_true]
    exact Ev.bind (shape_Move_ev hl n p ver) (Ev.now _)
  by_cases h4:kd=4
  · simp only [h1, h2, h3, h4, if_false, if_true]
    exact Ev.bind (shape_Delete_ev hl n ver) (Ev.now _)
  simp only [h1,h2,h3,h4,if_false]
  exact Ev.now _
theorem map_right {l:List Item} (hl:RightP l) {f:Item→Item} (h0: ∀x,(f x).f0=x.f0) (h1: ∀x,(f x).f1=x.f1) (h3: ∀x,(f x).f3=x.f3) (h4: ∀x,(f x).f4=x.f4) (h2: ∀x∈l,MayP (f x).f2∧LeP x.f4 (f x).f2) (h5: ∀x∈l,1≤(f x).f5∧(f x).f5≤9007199254740992):RightP (l.map f) where
  len:=by rw [List.length_map];exact hl.len
  ok:=by
    intro y hy
    obtain ⟨x,hx,rfl⟩:=List.mem_map.1 hy
    have k:=hl.ok x hx
    exact ⟨by rw [h0];exact k.name,by rw [h0];exact k.size,(h2 x hx).1,by rw [h3];exact k.own,by rw [h4];exact k.sub,by rw [h4];exact (h2 x hx).2,h5 x hx⟩
  sorted:=by
    rw [List.pairwise_map]
    exact hl.sorted.imp (fun {a b} h=>by rw [h0,h0];exact h)
  par:=by
    intro y hy
    obtain ⟨x,hx,rfl⟩:=List.mem_map.1 hy
    rw [h1]
    rcases hl.par x hx with h|⟨z,h⟩
    · exact .inl h
    exact .inr ⟨_,by rw [look_map h0,h];rfl⟩
  sum:=by
    intro c y hy
    obtain ⟨x,hx,rfl⟩:=List.mem_map.1 hy
    rw [h4,h3,h0,hl.sum c x hx]
    congr 1
    unfold csum
    rw [sumBy_map]
    exact sumBy_congr fun z _=>by rw [h1,h4]
  chain:=by
    intro y hy
    obtain ⟨x,hx,rfl⟩:=List.mem_map.1 hy
    obtain ⟨us,h⟩:=hl.chain x hx
    rw [h0]
    exact ⟨us,h.map h0 h1⟩
theorem lim_right {l:List Item} (hl:RightP l) {n:ByteArray} {v:Vec} {x:Item} (hx:look l n=some x) (hv:MayP v) (hle:LeP x.f4 v) (h5: ¬9007199254740992≤x.f5):RightP (l.map (limG n v)):=by
  obtain ⟨hxm,hxn⟩:=look_mem hx
  have heq: ∀z∈l,z.f0=n→z=x:=fun z hz e=>hl.eq_of hz hxm (e.trans hxn.symm)
  refine map_right hl (fun z=> ?_) (fun z=> ?_) (fun z=> ?_) (fun z=> ?_) (fun z hz=> ?_) (fun z hz=> ?_)
  · unfold limG;split<;>rfl
  · unfold limG;split<;>rfl
  · unfold limG;split<;>rfl
  · unfold limG;split<;>rfl
  · unfold limG
    by_cases e:z.f0=n
    · rw [if_pos e,heq z hz e];exact ⟨hv,hle⟩
    rw [if_neg e];exact ⟨(hl.ok z hz).lim,(hl.ok z hz).fit⟩
  have:=(hl.ok z hz).ver
  unfold limG
  by_cases e:z.f0=n
  rotate_left
  · rw [if_neg e];exact this
  rw [if_pos e]
  have h6:=heq z hz e
  subst h6
  show 1≤z.f5+1∧z.f5+1≤9007199254740992
  omega
theorem of_mvS (c:Comp) (fs ts:List ByteArray) (v:Vec) (z:Item):c.of (mvS fs ts v z)=c.of z.f4 - (if z.f0∈fs then c.of v else 0)+(if z.f0∈ts then c.of v else 0):=by
 unfold mvS
 by_cases h1:z.f0∈ts<;>by_cases h2:z.f0∈fs<;>simp only [h1,h2,if_true,if_false,of_vadd,of_vsub]<;>omega
theorem movB_fits {l:List Item} {x:Item} {p:ByteArray} (h:movB l x p=true): ∀z,look l z.f0=some z→z.f0∈up l p→z.f0∈up l x.f1∨LeP (vadd z.f4 x.f4) z.f2:=by
  intro z hz hm
  have:=List.all_eq_true.1 h z.f0 hm
  rw [hz,Bool.or_eq_true] at this
  rcases this with h|h
  · exact .inl (hasStr_iff.1 h)
  exact .inr (of_decide_eq_true h)
theorem mov_right {l:List Item} (hl:RightP l) {n p:ByteArray} {x:Item} (hx:look l n=some x) (hp:p=⟨#[]⟩∨ ∃y,look l p=some y) (hnt:n ∉ up l p) (h5: ¬9007199254740992≤x.f5) (hb:movB l x p=true):RightP (movL l n p x):=by
  obtain ⟨hxm,hxn⟩:=look_mem hx
  have hxs:=(hl.ok x hxm).sub
  have hnf:=not_own_way hl hx
  have heq: ∀z∈l,z.f0=n→z=x:=fun z hz e=>hl.eq_of hz hxm (e.trans hxn.symm)
  have hfits:=movB_fits hb
  have hge: ∀c:Comp,∀z∈l,z.f0∈up l x.f1→c.of x.f4≤c.of z.f4:=fun c z hz hm=>sub_up hl hxm hz (by rw [up_cons hl hxm];exact List.mem_cons_of_mem _ hm) c
  have hname: ∀z,(movG n p (up l x.f1) (up l p) x.f4 z).f0=z.f0:=fun _=>rfl
  have hfit: ∀c:Comp,∀z∈l,0≤c.of (mvS (up l x.f1) (up l p) x.f4 z)∧c.of (mvS (up l x.f1) (up l p) x.f4 z)≤c.of z.f2:=fun c z hz=>by
    have k:=hl.ok z hz
    have a:=k.sub c;have b:=k.fit c;have d:=hxs c
    rw [of_mvS]
    by_cases h1:z.f0∈up l x.f1
    · have e := hge c z hz h1
      by_cases h2:z.f0∈up l p
      · rw [if_pos h1,if_pos h2];omega
      rw [if_pos h1,if_neg h2];omega
    by_cases h2:z.f0∈up l p
    rotate_left
    · rw [if_neg h1,if_neg h2];omega
    rw [if_neg h1,if_pos h2]
    rcases hfits z (hl.look hz) h2 with q|q
    · exact absurd q h1
    have:=q c
    rw [of_vadd] at this
    omega
  refine ⟨?_, ?_, ?_, ?_, ?_, ?_⟩
  · unfold movL;rw [List.length_map];exact hl.len
  · intro y hy
    obtain ⟨z,hz,rfl⟩:=List.mem_map.1 hy
    have k:=hl.ok z hz
    refine ⟨k.name,k.size,k.lim,k.own,fun c=> ?_,fun c=>(hfit c z hz).2, ?_⟩
    · have a := hfit c z hz; have b := (k.lim c).2
      exact ⟨a.1,Int.le_trans a.2 b⟩
    have:=k.ver
    show 1≤(if z.f0=n then z.f5+1 else z.f5)∧(if z.f0=n then z.f5+1 else z.f5)≤9007199254740992
    by_cases e:z.f0=n
    rotate_left
    · rw [if_neg e];exact this
    rw [if_pos e]
    have h6:=heq z hz e
    subst h6
    omega
  · unfold movL
    rw [List.pairwise_map]
    exact hl.sorted
  · intro y hy
    obtain ⟨z,hz,rfl⟩:=List.mem_map.1 hy
    have hlk: ∀m,look (movL l n p x) m=(look l m).map (movG n p (up l x.f1) (up l p) x.f4):=fun m=>look_map hname l m
    show (if z.f0=n then p else z.f1)=⟨#[]⟩∨ ∃y,look (movL l n p x) (if z.f0=n then p else z.f1)=some y
    by_cases e:z.f0=n
    · rw [if_pos e]
      rcases hp with h|⟨y,h⟩
      · exact .inl h
      exact .inr ⟨_,by rw [hlk,h];rfl⟩
    rw [if_neg e]
    rcases hl.par z hz with h|⟨y,h⟩
    · exact .inl h
    exact .inr ⟨_,by rw [hlk,h];rfl⟩
  rotate_left
  · intro y hy
    obtain ⟨z,hz,rfl⟩:=List.mem_map.1 hy
    show∃us,Chain (movL l n p x) z.f0 us
    have hlk: ∀m,look (movL l n p x) m=(look l m).map (movG n p (up l x.f1) (up l p) x.f4):=fun m=>look_map hname l m
    have apart: ∀{m:ByteArray} {us:List ByteArray},Chain l m us→n ∉ us→Chain (movL l n p x) m us:=by
      intro m us h
      induction h with
      |nil q=>intro _;exact Chain.nil (by rw [hlk,q];rfl)
      | @cons m y us q _ ih =>
        intro hn
        rw [List.mem_cons,not_or] at hn
        have hy:=ih hn.2
        have hyn:=(look_mem q).2
        refine Chain.cons (x:=movG n p (up l x.f1) (up l p) x.f4 y) (by rw [hlk,q];rfl) ?_
        show Chain _ (if y.f0=n then p else y.f1) us
        rw [if_neg (by rw [hyn];exact fun e=>hn.1 e.symm)]
        exact hy
    have hown:Chain (movL l n p x) n (n::up l p):=by
      refine Chain.cons (x:=movG n p (up l x.f1) (up l p) x.f4 x) (by rw [hlk,hx];rfl) ?_
      show Chain _ (if x.f0=n then p else x.f1) _
      rw [if_pos hxn]
      exact apart (hl.chainAll p) hnt
    have all: ∀{m:ByteArray} {us:List ByteArray},Chain l m us→ ∃us',Chain (movL l n p x) m us':=by
      intro m us h
      induction h with
      |nil q=>exact ⟨_,Chain.nil (by rw [hlk,q];rfl)⟩
      | @cons m y us q _ ih =>
        have hyn:=(look_mem q).2
        by_cases e:y.f0=n
        · rw [← hyn, e]
          exact ⟨_,hown⟩
        obtain ⟨us',h'⟩:=ih
        refine ⟨m::us',Chain.cons (us:=us') (x:=movG n p (up l x.f1) (up l p) x.f4 y) (by rw [hlk,q];rfl) ?_⟩
        show Chain _ (if y.f0=n then p else y.f1) _
        rw [if_neg e]
        exact h'
    exact all (hl.chainAll z.f0)
  intro c y hy
  obtain ⟨z,hz,rfl⟩:=List.mem_map.1 hy
  show c.of (mvS (up l x.f1) (up l p) x.f4 z)=c.of z.f3+csum c (movL l n p x) z.f0
  have k1:=chain_kids hl (hl.chainAll x.f1) (c.of x.f4) hz
  have k2:=chain_kids hl (hl.chainAll p) (c.of x.f4) hz
  have hone: ∀v:Int,sumBy (fun y=>if y.f0=n then v else 0) l=v:=fun v=>by
    have:=sumBy_one (v:=v) hl.nodup hxm
    rw [hxn] at this
    exact this
  have hcs:csum c (movL l n p x) z.f0=csum c l z.f0 - sumBy (fun y=>if y.f1=z.f0∧y.f0∈up l x.f1 then c.of x.f4 else 0) l+sumBy (fun y=>if y.f1=z.f0∧y.f0∈up l p then c.of x.f4 else 0) l - sumBy (fun y=>if y.f0=n then (if x.f1=z.f0 then c.of x.f4 else 0) else 0) l+sumBy (fun y=>if y.f0=n then (if p=z.f0 then c.of x.f4 else 0) else 0) l:=by
    unfold csum movL
    rw [sumBy_map,←sumBy_sub,←sumBy_add,←sumBy_sub,←sumBy_add]
    refine sumBy_congr fun y hy=> ?_
    show (if (if y.f0=n then p else y.f1)=z.f0 then c.of (mvS (up l x.f1) (up l p) x.f4 y) else 0)=_
    rw [of_mvS]
    by_cases e:y.f0=n
    · have h6 := heq y hy e
      subst h6
      have q1:y.f0 ∉ up l y.f1:=by rw [e];exact hnf
      have q2:y.f0 ∉ up l p:=by rw [e];exact hnt
      simp only [e,if_true,hnf,hnt,if_false,and_false]
      by_cases a1:y.f1=z.f0<;>by_cases a2:p=z.f0<;>simp only [a1,a2,if_true,if_false]<;>omega
    simp only [e,if_false]
    by_cases a1:y.f1=z.f0
    · by_cases a2:y.f0∈up l x.f1<;>by_cases a3:y.f0∈up l p<;>simp only [a1,a2,a3,true_and,if_true,if_false]<;>omega
    simp only [a1,false_and,if_false]
    omega
  rw [hcs,hone,hone,k1,k2,of_mvS]
  have hs:=hl.sum c z hz
  have m1:z.f0=x.f1→z.f0∈up l x.f1:=fun e=>by rw [←e];exact up_self (hl.look hz)
  have m2:z.f0=p→z.f0∈up l p:=fun e=>by rw [←e];exact up_self (hl.look hz)
  have t1:(if z.f0∈up l x.f1∧z.f0≠x.f1 then c.of x.f4 else 0)+(if x.f1=z.f0 then c.of x.f4 else 0)=if z.f0∈up l x.f1 then c.of x.f4 else 0:=by
    by_cases e:z.f0=x.f1
    · rw [if_neg (fun h=>h.2 e),if_pos e.symm,if_pos (m1 e)];omega
    have e': ¬x.f1=z.f0:=fun q=>e q.symm
    by_cases q:z.f0∈up l x.f1<;>simp [e,e',q]
  have t2:(if z.f0∈up l p∧z.f0≠p then c.of x.f4 else 0)+(if p=z.f0 then c.of x.f4 else 0)=if z.f0∈up l p then c.of x.f4 else 0:=by
    by_cases e:z.f0=p
    · rw [if_neg (fun h=>h.2 e),if_pos e.symm,if_pos (m2 e)];omega
    have e': ¬p=z.f0:=fun q=>e q.symm
    by_cases q:z.f0∈up l p<;>simp [e,e',q]
  omega
def NoOr (r:List Item×Int):Prop:=r.2=0∨r.1=[]
theorem cre_no (l:List Item) (n p:ByteArray) (v:Vec):NoOr (creR l n p v):=by
 unfold creR
 repeat' split
 all_goals first|exact .inr rfl|exact .inl rfl
theorem lim_no (l:List Item) (n:ByteArray) (v:Vec) (ver:Int):NoOr (limR l n v ver):=by
 unfold limR
 repeat' split
 all_goals first|exact .inr rfl|exact .inl rfl
theorem mov_no (l:List Item) (n p:ByteArray) (ver:Int):NoOr (movR l n p ver):=by
 unfold movR
 repeat' split
 all_goals first|exact .inr rfl|exact .inl rfl
theorem del_no (l:List Item) (n:ByteArray) (ver:Int):NoOr (delR l n ver):=by
 unfold delR
 repeat' split
 all_goals first|exact .inr rfl|exact .inl rfl
theorem do_no (l:List Item) (kd:Int) (n p:ByteArray) (v:Vec) (ver:Int):NoOr (doR l kd n p v ver):=by
  unfold doR
  split
  · exact cre_no ..
  split
  · exact lim_no ..
  split
  · exact mov_no ..
  split
  · exact del_no ..
  exact .inr rfl
theorem do_right {l:List Item} (hl:RightP l) {kd:Int} {n p:ByteArray} {v:Vec} {ver:Int} (h:(doR l kd n p v ver).2=0):RightP (doR l kd n p v ver).1:=by
  unfold doR at h ⊢
  by_cases h1:kd=1
  · rw [if_pos h1] at h ⊢
    have:=creR_right hl h
    rw [this.1]
    exact this.2.1
  rw [if_neg h1] at h ⊢
  by_cases h2:kd=2
  · rw [if_pos h2] at h ⊢
    unfold limR at h ⊢
    by_cases a1:MayP v
    rotate_left
    · rw [if_pos a1] at h;cases h
    rw [if_neg (fun q=>q a1)] at h ⊢
    by_cases a2:oldR l n ver=0
    rotate_left
    · rw [if_pos a2] at h;exact absurd h a2
    rw [if_neg (by simpa using a2)] at h ⊢
    obtain ⟨x,hx,_⟩:=oldR_zero a2
    simp only [hx] at h ⊢
    by_cases a3:9007199254740992≤x.f5
    · rw [if_pos a3] at h;cases h
    rw [if_neg a3] at h ⊢
    by_cases a4:LeP x.f4 v
    · rw [if_pos a4]
      exact lim_right hl hx a1 a4 a3
    rw [if_neg a4] at h;cases h
  rw [if_neg h2] at h ⊢
  by_cases h3:kd=3
  rotate_left
  · rw [if_neg h3] at h ⊢
    by_cases h4:kd=4
    rotate_left
    · rw [if_neg h4] at h;cases h
    rw [if_pos h4] at h ⊢
    unfold delR at h ⊢
    by_cases a2:oldR l n ver=0
    rotate_left
    · rw [if_pos a2] at h;exact absurd h a2
    rw [if_neg (by simpa using a2)] at h ⊢
    obtain ⟨x,hx,_⟩:=oldR_zero a2
    by_cases a3:0<(kids l n).length
    · rw [if_pos a3] at h;cases h
    rw [if_neg a3] at h ⊢
    simp only [hx] at h ⊢
    by_cases a4:x.f3.f0=0∧x.f3.f1=0∧x.f3.f2=0
    · rw [if_pos a4]
      exact del_right hl hx (kids_none a3) a4
    rw [if_neg a4] at h;cases h
  rw [if_pos h3] at h ⊢
  by_cases a2:oldR l n ver=0
  rotate_left
  · unfold movR at h
    rw [if_pos a2] at h
    exact absurd h a2
  obtain ⟨x,hx,_⟩:=oldR_zero a2
  by_cases a3:p≠⟨#[]⟩∧(look l p).isNone=true
  · unfold movR at h
    rw [if_neg (by simpa using a2),if_pos a3] at h
    cases h
  by_cases a4:n∈up l p
  · unfold movR at h
    rw [if_neg (by simpa using a2),if_neg a3,if_pos a4] at h
    cases h
  rw [movR_eq a2 hx a3 a4] at h ⊢
  by_cases a5:9007199254740992≤x.f5
  · rw [if_pos a5] at h;cases h
  rw [if_neg a5] at h ⊢
  by_cases a6:movB l x p=true
  rotate_left
  · rw [if_neg a6] at h;cases h
  rw [if_pos a6]
  refine mov_right hl hx ?_ a4 a5 a6
  by_cases e:p=⟨#[]⟩
  · exact .inl e
  right
  cases q:look l p with
  |none=>exact absurd ⟨e,by rw [q];rfl⟩ a3
  |some y=>exact ⟨y,rfl⟩
theorem doR_len {l:List Item} (hl:RightP l) (kd:Int) (n p:ByteArray) (v:Vec) (ver:Int):(doR l kd n p v ver).1.length<1000000:=by
  rcases do_no l kd n p v ver with h|h
  · have := (do_right hl h).len
    omega
  rw [h]
  decide
end Go.Proofs.Ytcgefpklljclgaa.Print

namespace Go.Proofs.Ytcgefpklljclgaa.Print
open Go.RowKit Go.Proofs.YtcgefpklljclgaaW.PrintWords Go.Proofs.YtcgefpklljclgaaW.PrintLast Go.Proofs.YtcgefpklljclgaaW.PrintMore
attribute [local go_sem] max2_int min2_int max_two min_two max_three min_three max_four min_four

attribute [local go_sem high] eqA31
end Go.Proofs.Ytcgefpklljclgaa.Print

namespace Go.Proofs.Ytcgefpklljclgaa.Print
open Go.RowKit Go.Proofs.YtcgefpklljclgaaW.PrintWords Go.Proofs.YtcgefpklljclgaaW.PrintLast Go.Proofs.YtcgefpklljclgaaW.PrintMore
theorem ss_num (e:Int):law1_Num.f e=some e:=rfl
theorem ss_awake:law15_awake.f=some true:=by kernel_rfl
theorem ss_awake_ev:Ev (fun _=>law15_awake.f.bind fun t=>some t) true:=Ev.const (by rw [ss_awake];rfl)
def kdS (a:Int):Int:=1+a % 4
def nmS (b:Int):ByteArray:=one (97+b % 25)
def parS (a c:Int):ByteArray:=if kdS a=1∨kdS a=3 then (if c % 5=0 then ⟨#[]⟩ else one (97+c % 25)) else ⟨#[]⟩
def limS (a:Int):Int:=if kdS a≤2 then a / 4*3 else 0
theorem step_ev {a b c:Int} (ha:0≤a∧a≤255) (hb:0≤b∧b≤255) (hc:0≤c∧c≤255):Ev (fun k=>law15_Step.f k a b c) (kdS a,nmS b,parS a c,limS a,limS a,limS a):=by
 have e1:wrap64 a=a:=w64 (by omega) (by omega)
 have e2:Int.tmod a 4=a % 4:=Int.tmod_eq_emod_of_nonneg ha.1
 have e3:Int.tdiv a 4=a / 4:=Int.tdiv_eq_ediv_of_nonneg ha.1
 have e4:Int.tmod b 25=b % 25:=Int.tmod_eq_emod_of_nonneg hb.1
 have e5:Int.tmod c 25=c % 25:=Int.tmod_eq_emod_of_nonneg hc.1
 have e6:Int.tmod c 5=c % 5:=Int.tmod_eq_emod_of_nonneg hc.1
 have e7:wrap64 (1+a % 4)=kdS a:=w64 (by omega) (by omega)
 have e8:wrap64 (wrap64 (a / 4)*3)=a / 4*3:=by rw [w64 (n:=a / 4) (by omega) (by omega)];exact w64 (by omega) (by omega)
 have e9:(97+b % 25) % 256=97+b % 25:=by omega
 have e10:(97+c % 25) % 256=97+c % 25:=by omega
 have hk:kdS a=1∨kdS a=2∨kdS a=3∨kdS a=4:=by unfold kdS;omega
 refine Ev.step (f:=fun _=>some (kdS a,nmS b,parS a c,limS a,limS a,limS a)) (fun k=> ?_) (Ev.now _)
 simp only [law15_Step.f,law15_Step.j0,Option.bind_some,e1,e2,e3,e4,e5,e6,e7,e8,e9,e10]
 unfold parS limS nmS one
 rcases hk with h|h|h|h<;>by_cases h5:c % 5=0<;>simp [h,h5]
theorem sr_look {l:List Item} {it:Item} (h:look l it.f0=none) (m:ByteArray):look (insL l it) m=if m=it.f0 then some it else look l m:=by
 obtain ⟨a,b,e,ei,_⟩:=insL_eq l it
 rw [ei,look_ins a b it m (by rw [←e];exact h),←e]
theorem sr_len {l:List Item} (hl:RightP l) {n:ByteArray} {x:Item} (h:look l n=some x):l.length=(delL l n).length+1:=by
 have e:=congrArg List.length (cut_delL hl h)
 rw [List.length_append,List.length_take,List.length_drop] at e
 have h0:=fnd_ge.2 ⟨x,h⟩
 have h1:=fnd_lt l n
 omega
theorem sr_len0 {l:List Item} {n:ByteArray} (h:look l n=none):l.length=(delL l n).length:=by
 unfold delL
 rw [List.filter_eq_self.2 (fun x hx=>by simpa using look_none.1 h x hx)]
def RestP (l m:List Item) (n:ByteArray) (kd:Int):Prop:=
 (∀x∈l,x.f0≠n→ ∃y,look m x.f0=some y∧y.f0=x.f0∧y.f1=x.f1∧y.f2=x.f2∧y.f3=x.f3∧y.f5=x.f5)∧(kd=4∧look m n=none∧m.length=(delL l n).length∨kd≠4∧(∃y,look m n=some y)∧m.length=(delL l n).length+1)
theorem do_rest {l:List Item} (hl:RightP l) {kd:Int} {n p:ByteArray} {v:Vec} {ver:Int} (h:(doR l kd n p v ver).2=0):RestP l (doR l kd n p v ver).1 n kd:=by
  unfold doR at h ⊢
  by_cases h1:kd=1
  · rw [if_pos h1] at h ⊢
    have:=creR_right hl h
    rw [this.1]
    have hnew:look l (newItem n p v).f0=none:=this.2.2.1
    refine ⟨fun x hx hn=>⟨x, ?_,rfl,rfl,rfl,rfl,rfl⟩, .inr ⟨by omega,⟨newItem n p v, ?_⟩, ?_⟩⟩
    · rw [sr_look hnew,if_neg (show¬x.f0=(newItem n p v).f0 from hn)];exact hl.look hx
    · rw [sr_look hnew];exact if_pos rfl
    rw [len_insL,sr_len0 (n:=n) hnew]
  rw [if_neg h1] at h ⊢
  by_cases h2:kd=2
  · rw [if_pos h2] at h ⊢
    unfold limR at h ⊢
    by_cases a1:MayP v
    rotate_left
    · rw [if_pos a1] at h;cases h
    rw [if_neg (fun q=>q a1)] at h ⊢
    by_cases a2:oldR l n ver=0
    rotate_left
    · rw [if_pos a2] at h;exact absurd h a2
    rw [if_neg (by simpa using a2)] at h ⊢
    obtain ⟨x,hx,_⟩:=oldR_zero a2
    simp only [hx] at h ⊢
    by_cases a3:9007199254740992≤x.f5
    · rw [if_pos a3] at h;cases h
    rw [if_neg a3] at h ⊢
    by_cases a4:LeP x.f4 v
    rotate_left
    · rw [if_neg a4] at h;cases h
    rw [if_pos a4]
    have lm:=fun m=>look_map (f:=limG n v) (fun z=>by unfold limG;split<;>rfl) l m
    refine ⟨fun z hz hn=>⟨limG n v z, ?_, ?_⟩, .inr ⟨by omega,⟨limG n v x, ?_⟩, ?_⟩⟩
    · dsimp only;rw [lm,hl.look hz];rfl
    · unfold limG;rw [if_neg hn];exact ⟨rfl,rfl,rfl,rfl,rfl⟩
    · dsimp only;rw [lm,hx];rfl
    dsimp only;rw [List.length_map];exact sr_len hl hx
  rw [if_neg h2] at h ⊢
  by_cases h3:kd=3
  rotate_left
  · rw [if_neg h3] at h ⊢
    by_cases h4:kd=4
    rotate_left
    · rw [if_neg h4] at h;cases h
    rw [if_pos h4] at h ⊢
    unfold delR at h ⊢
    by_cases a2:oldR l n ver=0
    rotate_left
    · rw [if_pos a2] at h;exact absurd h a2
    rw [if_neg (by simpa using a2)] at h ⊢
    obtain ⟨x,hx,_⟩:=oldR_zero a2
    by_cases a3:0<(kids l n).length
    · rw [if_pos a3] at h;cases h
    rw [if_neg a3] at h ⊢
    simp only [hx] at h ⊢
    by_cases a4:x.f3.f0=0∧x.f3.f1=0∧x.f3.f2=0
    rotate_left
    · rw [if_neg a4] at h;cases h
    rw [if_pos a4]
    refine ⟨fun z hz hn=>⟨z, ?_,rfl,rfl,rfl,rfl,rfl⟩, .inl ⟨h4, ?_,rfl⟩⟩
    · dsimp only;rw [look_delL,if_neg hn];exact hl.look hz
    dsimp only;rw [look_delL,if_pos rfl]
  rw [if_pos h3] at h ⊢
  by_cases a2:oldR l n ver=0
  rotate_left
  · unfold movR at h
    rw [if_pos a2] at h
    exact absurd h a2
  obtain ⟨x,hx,_⟩:=oldR_zero a2
  by_cases a3:p≠⟨#[]⟩∧(look l p).isNone=true
  · unfold movR at h
    rw [if_neg (by simpa using a2),if_pos a3] at h
    cases h
  by_cases a4:n∈up l p
  · unfold movR at h
    rw [if_neg (by simpa using a2),if_neg a3,if_pos a4] at h
    cases h
  rw [movR_eq a2 hx a3 a4] at h ⊢
  by_cases a5:9007199254740992≤x.f5
  · rw [if_pos a5] at h;cases h
  rw [if_neg a5] at h ⊢
  by_cases a6:movB l x p=true
  rotate_left
  · rw [if_neg a6] at h;cases h
  rw [if_pos a6]
  have lm:=fun m=>look_map (f:=movG n p (up l x.f1) (up l p) x.f4) (fun z=>rfl) l m
  refine ⟨fun z hz hn=>⟨movG n p (up l x.f1) (up l p) x.f4 z, ?_, ?_⟩, .inr ⟨by omega,⟨movG n p (up l x.f1) (up l p) x.f4 x, ?_⟩, ?_⟩⟩
  · dsimp only;unfold movL;rw [lm,hl.look hz];rfl
  · unfold movG;rw [if_neg hn,if_neg hn];exact ⟨rfl,rfl,rfl,rfl,rfl⟩
  · dsimp only;unfold movL;rw [lm,hx];rfl
  dsimp only;unfold movL;rw [List.length_map];exact sr_len hl hx
theorem sr_l0 {l m:List Item} (hl:l.length≤24) (hm:m.length<1000000) {n p:ByteArray} {v:Vec} {kd:Int} (hr:RestP l m n kd): ∀(d i c:Nat),l.length - i=d→i≤l.length→c≤i→c+(delL (l.drop i) n).length=(delL l n).length→Ev (fun k=>law15_ShapeRest.l0 k l m (c:Int) (i:Int) kd n p v.f0 v.f1 v.f2) true
  | 0, i, c, hd, hi, hc, hC => by
    refine Ev.step (fun k=>law15_ShapeRest.l0.eq_2 (k:=k) ..) (Ev.congr (fun k=>if_neg (by omega)) (Ev.bind (r10_Find_ev m n hm) ?_))
    rw [List.drop_of_length_le (by omega)] at hC
    have e0:(delL [] n).length=0:=rfl
    have e4:wrap64 ((c:Int)+1)=(c:Int)+1:=w64 (by omega) (by omega)
    rw [e4]
    rcases hr.2 with ⟨hk,hlk,hlen⟩|⟨hk,⟨y,hy⟩,hlen⟩
    · exact Ev.congr (fun k=>by rw [if_pos hk,if_pos (fnd_neg.2 hlk),if_pos (by omega)]) ss_awake_ev
    have h0:=fnd_ge.2 ⟨y,hy⟩
    exact Ev.congr (fun k=>by rw [if_neg hk,if_pos h0,if_pos (by omega)]) ss_awake_ev
  | d + 1, i, c, hd, hi, hc, hC => by
    have hlt:i<l.length:=by omega
    have e3:wrap64 ((i:Int)+1)=((i+1:Nat):Int):=by rw [w64 (by omega) (by omega)];rfl
    have e4:wrap64 ((c:Int)+1)=((c+1:Nat):Int):=by rw [w64 (by omega) (by omega)];rfl
    have hrd:rd_T31 l (i:Int)=l[i]:=by rw [rd_item,Int.toNat_natCast,List.getD_eq_getElem?_getD,List.getElem?_eq_getElem hlt,Option.getD_some]
    rw [List.drop_eq_getElem_cons hlt] at hC
    refine Ev.step (fun k=>law15_ShapeRest.l0.eq_2 (k:=k) ..) ?_
    rw [e3,e4,hrd]
    refine Ev.congr (fun k=>by rw [if_pos (by omega),if_pos (by omega)]) ?_
    by_cases q:l[i].f0.toList=n.toList
    · have q2 := nm_inj.1 q
      have hC2:c+(delL (l.drop (i+1)) n).length=(delL l n).length:=by rw [←hC];unfold delL;rw [List.filter_cons,if_neg (by simp [q2])]
      exact Ev.congr (fun k=>if_pos q) (sr_l0 hl hm hr d (i+1) c (by omega) (by omega) (by omega) hC2)
    have q2:l[i].f0≠n:=fun e=>q (by rw [e])
    have hC2:(c+1)+(delL (l.drop (i+1)) n).length=(delL l n).length:=by rw [←hC];unfold delL;rw [List.filter_cons,if_pos (by simp [q2]),List.length_cons];omega
    obtain ⟨y,hy,y0,y1,y2,y3,y5⟩:=hr.1 l[i] (List.getElem_mem hlt) q2
    have h0:=fnd_ge.2 ⟨y,hy⟩
    have h1:=fnd_lt m l[i].f0
    refine Ev.congr (fun k=>if_neg q) (Ev.bind (r10_Find_ev m l[i].f0 hm) ?_)
    rw [fnd_rd hy]
    refine Ev.congr (fun k=>by rw [if_neg (by omega),if_pos h0,if_pos h1,if_neg (by rw [y0,y1,y2,y3,y5];simp)]) ?_
    exact sr_l0 hl hm hr d (i+1) (c+1) (by omega) (by omega) (by omega) hC2
end Go.Proofs.Ytcgefpklljclgaa.Print
namespace Go.Proofs.Ytcgefpklljclgaa.Pure
open Go.RowKit Go.Proofs.Ytcgefpklljclgaa.Print Go.Proofs.YtcgefpklljclgaaW.PrintWords Go.Proofs.YtcgefpklljclgaaW.PrintLast
theorem ShapeRest:law15_ShapeRest.Pure:=by
  intro l0 a1 a2 a3 _ _ hw h1 h2 h3
  unfold law15_ShapeRest.f
  by_cases h:(l0.length:Int)>90
  · exact Ev.rounds (Ev.congr (fun k=>if_pos h) ss_awake_ev)
  obtain ⟨l,hlev,hM⟩:=made_all (ns:=l0) (fun x hx=>u8_bd (hw x hx)) (by omega)
  have hlen:=hM.len
  refine Ev.rounds (Ev.congr (fun k=>if_neg h) (Ev.bind hlev ?_))
  refine Ev.bind (step_ev (u8_bd h1) (u8_bd h2) (u8_bd h3)) ?_
  dsimp only
  generalize kdS a1=kd
  generalize nmS a2=n
  generalize parS a1 a3=p
  have hdd:=shape_Do_ev hM.right kd n p ⟨limS a1,limS a1,limS a1⟩ (-1)
  have hdl:=doR_len hM.right kd n p ⟨limS a1,limS a1,limS a1⟩ (-1)
  have hno:=do_no l kd n p ⟨limS a1,limS a1,limS a1⟩ (-1)
  have hde:(doR l kd n p ⟨limS a1,limS a1,limS a1⟩ (-1)).2=0→_:=do_rest hM.right
  refine Ev.bind hdd ?_
  rw [ss_num]
  simp only [Option.bind_some]
  by_cases hr:(doR l kd n p ⟨limS a1,limS a1,limS a1⟩ (-1)).2=0
  · refine Ev.congr (fun k => if_pos hr) ?_
    exact sr_l0 (v:=⟨limS a1,limS a1,limS a1⟩) hlen hdl (hde hr) l.length 0 0 (by omega) (by omega) (by omega) (by rw [List.drop_zero,Nat.zero_add])
  rcases hno with q|q
  · exact absurd q hr
  exact Ev.congr (fun k=>by rw [if_neg hr,if_pos (by rw [q];rfl)]) ss_awake_ev
end Go.Proofs.Ytcgefpklljclgaa.Pure

namespace Go.Proofs.Ytcgefpklljclgaa.Head
def signs:List Char:=(List.map Char.ofNat [104,97,114,110,101,115,115,32,101,57,98,52,101,102,52,49,56,50,56,101,102,50,55,102,51,55,102,48,53,54,50,55,56,50,54,101,101,100,101,57,53,99,56,98,55,57,99,100,98,99,52,99,49,100,54,49,98,101,98,55,57,55,52,102,49,51,53,99,97,49,48,51,32,99,117,116,32,97,116,32,100,111,111,114,107,101,101,112,101,114,47,100,111,111,114,107,101,101,112,101,114,108,97,119,49,51,46,82,111,111,109,85,112,32,100,111,111,114,107,101,101,112,101,114,47,100,111,111,114,107,101,101,112,101,114,108,97,119,49,55,46,68,114,105,102,116,65,108,108,32,100,111,111,114,107,101,101,112,101,114,47,100,111,111,114,107,101,101,112,101,114,108,97,119,49,55,46,68,114,105,102,116,84,101,108,108,115,32,100,111,111,114,107,101,101,112,101,114,47,100,111,111,114,107,101,101,112,101,114,108,97,119,50,48,46,69,102,102,101,99,116,65,108,108,32,100,111,111,114,107,101,101,112,101,114,47,100,111,111,114,107,101,101,112,101,114,108,97,119,50,48,46,69,102,102,101,99,116,77,97,100,101,32,100,111,111,114,107,101,101,112,101,114,47,100,111,111,114,107,101,101,112,101,114,108,97,119,50,48,46,69,102,102,101,99,116,68,111,110,101,32,100,111,111,114,107,101,101,112,101,114,47,100,111,111,114,107,101,101,112,101,114,108,97,119,49,52,46,65,100,109,105,116,84,119,105,99,101,32,100,111,111,114,107,101,101,112,101,114,47,100,111,111,114,107,101,101,112,101,114,108,97,119,49,51,46,82,111,111,109,70,105,116,115,32,100,111,111,114,107,101,101,112,101,114,47,100,111,111,114,107,101,101,112,101,114,108,97,119,49,50,46,84,114,101,101,65,108,108,32,100,111,111,114,107,101,101,112,101,114,47,100,111,111,114,107,101,101,112,101,114,108,97,119,49,50,46,84,114,101,101,77,97,100,101,32,100,111,111,114,107,101,101,112,101,114,47,100,111,111,114,107,101,101,112,101,114,108,97,119,49,50,46,84,114,101,101,83,117,109,115,32,100,111,111,114,107,101,101,112,101,114,47,100,111,111,114,107,101,101,112,101,114,108,97,119,49,50,46,84,114,101,101,66,101,108,111,119,32,100,111,111,114,107,101,101,112,101,114,47,100,111,111,114,107,101,101,112,101,114,108,97,119,49,51,46,82,111,111,109,83,104,97,114,101,115,32,100,111,111,114,107,101,101,112,101,114,47,100,111,111,114,107,101,101,112,101,114,108,97,119,49,52,46,65,100,109,105,116,65,108,108,32,100,111,111,114,107,101,101,112,101,114,47,100,111,111,114,107,101,101,112,101,114,108,97,119,49,52,46,65,100,109,105,116,77,97,100,101,32,100,111,111,114,107,101,101,112,101,114,47,100,111,111,114,107,101,101,112,101,114,108,97,119,49,52,46,65,100,109,105,116,82,111,111,109,32,100,111,111,114,107,101,101,112,101,114,47,100,111,111,114,107,101,101,112,101,114,108,97,119,49,51,46,82,111,111,109,65,108,108,32,100,111,111,114,107,101,101,112,101,114,47,100,111,111,114,107,101,101,112,101,114,108,97,119,49,51,46,82,111,111,109,77,97,100,101,32,100,111,111,114,107,101,101,112,101,114,47,100,111,111,114,107,101,101,112,101,114,108,97,119,49,53,46,83,104,97,112,101,77,97,110,121,32,100,111,111,114,107,101,101,112,101,114,47,100,111,111,114,107,101,101,112,101,114,108,97,119,49,53,46,83,104,97,112,101,67,111,109,101,115,32,100,111,111,114,107,101,101,112,101,114,47,100,111,111,114,107,101,101,112,101,114,108,97,119,49,53,46,83,104,97,112,101,76,105,109,105,116,115,32,100,111,111,114,107,101,101,112,101,114,47,100,111,111,114,107,101,101,112,101,114,108,97,119,49,53,46,83,104,97,112,101,77,111,118,101,115,32,100,111,111,114,107,101,101,112,101,114,47,100,111,111,114,107,101,101,112,101,114,108,97,119,49,53,46,83,104,97,112,101,65,108,108,32,100,111,111,114,107,101,101,112,101,114,47,100,111,111,114,107,101,101,112,101,114,108,97,119,49,53,46,83,104,97,112,101,77,97,100,101,32,100,111,111,114,107,101,101,112,101,114,47,100,111,111,114,107,101,101,112,101,114,108,97,119,49,53,46,83,104,97,112,101,82,101,115,116,32,100,111,111,114,107,101,101,112,101,114,47,100,111,111,114,107,101,101,112,101,114,108,97,119,49,57,46,84,114,105,97,108,67,117,116,115,32,100,111,111,114,107,101,101,112,101,114,47,100,111,111,114,107,101,101,112,101,114,108,97,119,49,57,46,84,114,105,97,108,65,108,108,32,100,111,111,114,107,101,101,112,101,114,47,100,111,111,114,107,101,101,112,101,114,108,97,119,49,57,46,84,114,105,97,108,77,97,100,101])
set_option maxRecDepth 100000 in
theorem word:Try.prog.initOrder=String.ofList signs:=by kernel_rfl
theorem list:Try.prog.initOrder.toList=signs:=by rw [word,String.toList_ofList]
theorem words_app: ∀(w r:List Char),(∀c∈w,c≠Char.ofNat 32)→wordsSigns (w++Char.ofNat 32::r)=w::wordsSigns r
  |[],r,_=>rfl
  | c :: w, r, h => by
    have hc:c≠Char.ofNat 32:=h c (by simp)
    have ih:=words_app w r (fun d hd=>h d (by simp [hd]))
    show wordsSigns (c::(w++Char.ofNat 32::r))=_
    rw [wordsSigns.eq_3 _ _ (fun q=>hc q),ih]
def w1:List Char:=[Char.ofNat 104,Char.ofNat 97,Char.ofNat 114,Char.ofNat 110,Char.ofNat 101,Char.ofNat 115,Char.ofNat 115]
def w2:List Char:=(List.map Char.ofNat [101,57,98,52,101,102,52,49,56,50,56,101,102,50,55,102,51,55,102,48,53,54,50,55,56,50,54,101,101,100,101,57,53,99,56,98,55,57,99,100,98,99,52,99,49,100,54,49,98,101,98,55,57,55,52,102,49,51,53,99,97,49,48,51])
def w3:List Char:=[Char.ofNat 99,Char.ofNat 117,Char.ofNat 116]
def rest:List Char:=(List.map Char.ofNat [97,116,32,100,111,111,114,107,101,101,112,101,114,47,100,111,111,114,107,101,101,112,101,114,108,97,119,49,51,46,82,111,111,109,85,112,32,100,111,111,114,107,101,101,112,101,114,47,100,111,111,114,107,101,101,112,101,114,108,97,119,49,55,46,68,114,105,102,116,65,108,108,32,100,111,111,114,107,101,101,112,101,114,47,100,111,111,114,107,101,101,112,101,114,108,97,119,49,55,46,68,114,105,102,116,84,101,108,108,115,32,100,111,111,114,107,101,101,112,101,114,47,100,111,111,114,107,101,101,112,101,114,108,97,119,50,48,46,69,102,102,101,99,116,65,108,108,32,100,111,111,114,107,101,101,112,101,114,47,100,111,111,114,107,101,101,112,101,114,108,97,119,50,48,46,69,102,102,101,99,116,77,97,100,101,32,100,111,111,114,107,101,101,112,101,114,47,100,111,111,114,107,101,101,112,101,114,108,97,119,50,48,46,69,102,102,101,99,116,68,111,110,101,32,100,111,111,114,107,101,101,112,101,114,47,100,111,111,114,107,101,101,112,101,114,108,97,119,49,52,46,65,100,109,105,116,84,119,105,99,101,32,100,111,111,114,107,101,101,112,101,114,47,100,111,111,114,107,101,101,112,101,114,108,97,119,49,51,46,82,111,111,109,70,105,116,115,32,100,111,111,114,107,101,101,112,101,114,47,100,111,111,114,107,101,101,112,101,114,108,97,119,49,50,46,84,114,101,101,65,108,108,32,100,111,111,114,107,101,101,112,101,114,47,100,111,111,114,107,101,101,112,101,114,108,97,119,49,50,46,84,114,101,101,77,97,100,101,32,100,111,111,114,107,101,101,112,101,114,47,100,111,111,114,107,101,101,112,101,114,108,97,119,49,50,46,84,114,101,101,83,117,109,115,32,100,111,111,114,107,101,101,112,101,114,47,100,111,111,114,107,101,101,112,101,114,108,97,119,49,50,46,84,114,101,101,66,101,108,111,119,32,100,111,111,114,107,101,101,112,101,114,47,100,111,111,114,107,101,101,112,101,114,108,97,119,49,51,46,82,111,111,109,83,104,97,114,101,115,32,100,111,111,114,107,101,101,112,101,114,47,100,111,111,114,107,101,101,112,101,114,108,97,119,49,52,46,65,100,109,105,116,65,108,108,32,100,111,111,114,107,101,101,112,101,114,47,100,111,111,114,107,101,101,112,101,114,108,97,119,49,52,46,65,100,109,105,116,77,97,100,101,32,100,111,111,114,107,101,101,112,101,114,47,100,111,111,114,107,101,101,112,101,114,108,97,119,49,52,46,65,100,109,105,116,82,111,111,109,32,100,111,111,114,107,101,101,112,101,114,47,100,111,111,114,107,101,101,112,101,114,108,97,119,49,51,46,82,111,111,109,65,108,108,32,100,111,111,114,107,101,101,112,101,114,47,100,111,111,114,107,101,101,112,101,114,108,97,119,49,51,46,82,111,111,109,77,97,100,101,32,100,111,111,114,107,101,101,112,101,114,47,100,111,111,114,107,101,101,112,101,114,108,97,119,49,53,46,83,104,97,112,101,77,97,110,121,32,100,111,111,114,107,101,101,112,101,114,47,100,111,111,114,107,101,101,112,101,114,108,97,119,49,53,46,83,104,97,112,101,67,111,109,101,115,32,100,111,111,114,107,101,101,112,101,114,47,100,111,111,114,107,101,101,112,101,114,108,97,119,49,53,46,83,104,97,112,101,76,105,109,105,116,115,32,100,111,111,114,107,101,101,112,101,114,47,100,111,111,114,107,101,101,112,101,114,108,97,119,49,53,46,83,104,97,112,101,77,111,118,101,115,32,100,111,111,114,107,101,101,112,101,114,47,100,111,111,114,107,101,101,112,101,114,108,97,119,49,53,46,83,104,97,112,101,65,108,108,32,100,111,111,114,107,101,101,112,101,114,47,100,111,111,114,107,101,101,112,101,114,108,97,119,49,53,46,83,104,97,112,101,77,97,100,101,32,100,111,111,114,107,101,101,112,101,114,47,100,111,111,114,107,101,101,112,101,114,108,97,119,49,53,46,83,104,97,112,101,82,101,115,116,32,100,111,111,114,107,101,101,112,101,114,47,100,111,111,114,107,101,101,112,101,114,108,97,119,49,57,46,84,114,105,97,108,67,117,116,115,32,100,111,111,114,107,101,101,112,101,114,47,100,111,111,114,107,101,101,112,101,114,108,97,119,49,57,46,84,114,105,97,108,65,108,108,32,100,111,111,114,107,101,101,112,101,114,47,100,111,111,114,107,101,101,112,101,114,108,97,119,49,57,46,84,114,105,97,108,77,97,100,101])
theorem parts:signs=w1++Char.ofNat 32::(w2++Char.ofNat 32::(w3++Char.ofNat 32::rest)):=by kernel_rfl
theorem behind: ∃r,behindMainWord (wordsSigns Try.prog.initOrder.toList)=w3::r:=by
 refine ⟨wordsSigns rest, ?_⟩
 rw [list,parts,words_app w1 _ (by decide),words_app w2 _ (by decide),words_app w3 _ (by decide)]
 generalize wordsSigns rest=r
 rfl
theorem strip (r:List (List Char)):stripLifts liftWords (w3::r)=([],w3::r):=by kernel_rfl
theorem not_carried (r:List (List Char)):((w3::r).head?==some "carried".toList)=false:=by kernel_rfl
theorem is_cut (r:List (List Char)):((w3::r).head?==some "cut".toList)=true:=by kernel_rfl
theorem not_gc:(w3== "gc".toList||w3== "spec".toList)=false:=by kernel_rfl
theorem cut_:(w3== "cut".toList)=true:=by kernel_rfl
theorem lifts_of {P:Program} {r:List (List Char)} (h:behindMainWord (wordsSigns P.initOrder.toList)=w3::r):P.liftsFinal=false:=by
 unfold Program.liftsFinal Program.headLifts
 simp only [h,strip,not_carried,is_cut,if_true,Bool.false_and,Bool.false_or,List.contains_nil]
theorem make_of {P:Program} {r:List (List Char)} (h:behindMainWord (wordsSigns P.initOrder.toList)=w3::r):P.make=some .cut:=by
 unfold Program.make
 simp only [h,not_gc,cut_,Bool.true_or,if_true,Bool.false_eq_true,if_false]
theorem lifts:Try.prog.liftsFinal=false:=by obtain ⟨r,h⟩:=behind;exact lifts_of h
theorem make:Try.prog.make=some .cut:=by obtain ⟨r,h⟩:=behind;exact make_of h
theorem later:Try.prog.laysLater=false:=by kernel_rfl
theorem reflects:Try.prog.bearsReflect=false:=by kernel_rfl
theorem door:Try.prog.doorFits []=true:=by kernel_rfl
theorem may_of {P:Program} {r:List (List Char)} (h:behindMainWord (wordsSigns P.initOrder.toList)=w3::r) (h1:P.laysLater=false) (h2:P.bearsReflect=false) (h3:P.doorFits []=true):P.mayEnter=true:=by
 unfold Program.mayEnter
 simp only [h,strip,is_cut,h1,h2,h3,List.contains_nil,Bool.not_false,Bool.or_true,Bool.and_true,Bool.and_self]
theorem mayEnter:Try.prog.mayEnter=true:=by obtain ⟨r,h⟩:=behind;exact may_of h later reflects door
theorem stopsHeard:Try.prog.stopsHeard=true:=by kernel_rfl
theorem laidOut:laidOutB Try.prog=true:=by kernel_rfl
theorem mapsRowed:mapsRowed Try.prog=true:=by kernel_rfl
theorem stops:(Try.prog.stops==[])=true:=by kernel_rfl
theorem stopKnobs:(Try.prog.stopKnobs==[])=true:=by kernel_rfl
end Go.Proofs.Ytcgefpklljclgaa.Head

-- PRINTED WORDS (module Derived/Print/Sized.lean): go-gate-2's, for the rows of laws over slices: an AI agent of Go's test side, Tue Nov 17 2026; no person has read it. Lean checks it.
namespace Go.Proofs.YtcgefpklljclgaaW.PrintWords
open Go.ChangeShapes Go.WideShapes
theorem sized_ints {H:Type} {enc:TypeId×Value→H} {P:Program} {W:World} {base:Nat} {spare:Nat→Bool} {held:Bool} {t e:TypeId} {k:IntKind} {a:Option Addr} {len cap:Nat} {d:DataW H} {ps:List MemPlace} {ts:List TypeId} {ds:List (DataW H)} {j:Nat}
    (hsz:(DataW.weightsEach P ts ds).all (· ≤reachBytes)=true) (ht:ts[j]?=some t) (hd:ds[j]?=some d) (hu:P.underlying t=some (.slice e)) (he:P.underlying e=some (.int k)) (hc:P.cellsOf e=1) {B:Nat} (hB:P.bytesOf e=B)
    (h:DataW.Trod enc P W base spare held t (.slice a len cap) d ps):len*B≤140737488351232:=by
  obtain ⟨fuel,hf⟩:=h
  rcases open_ints hu he hc hf with ⟨hcs,_⟩|⟨x,l,c,zs,hcs,_,hl,_,hz,hx,_,_⟩
  · simp [Value.cells] at hcs
    obtain ⟨rfl,rfl,rfl⟩:=hcs
    simp
  · simp [Value.cells] at hcs
    obtain ⟨rfl,rfl,rfl⟩:=hcs
    obtain ⟨hx,_⟩:=Prod.mk.inj hx
    subst hx
    have z:=sized_slice hsz ht hd hu
    rw [hB] at z
    have hl2:len≤zs.length:=by
      rw [hz]
      split
      · exact hl
      · exact Nat.le_refl _
    have h1:(lits (H:=H) k (zs.take len)).length+(lits (H:=H) k (zs.drop len)).length=zs.length:=by
      simp [lits]
      omega
    rw [h1] at z
    exact Nat.le_trans (Nat.mul_le_mul_right _ hl2) z
end Go.Proofs.YtcgefpklljclgaaW.PrintWords
