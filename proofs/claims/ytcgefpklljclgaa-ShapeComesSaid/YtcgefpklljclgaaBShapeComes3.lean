/- A part of the proof of ShapeComes: the machine's side by the kit's print, contracts and lemmas by this session. -/
import Derived.Laws.Strings
import Derived.Shelf.Abstract
import Derived.StillTailTactics
import Derived.Laws.Cover1
import Derived.Test.YtcgefpklljclgaaRows
import Derived.WalkKit
import Derived.ProofKit
import Derived.OpenShut
import Derived.JoinedOf
import Derived.SizedLaws
import Derived.ChangeSlices
import Derived.Test.YtcgefpklljclgaaBShapeComes0
import Derived.Test.YtcgefpklljclgaaBShapeComes1
import Derived.Test.YtcgefpklljclgaaBShapeComes2
namespace Go.Proofs.Ytcgefpklljclgaa.Print
open Go.RowKit Go.Proofs.YtcgefpklljclgaaW.PrintWords Go.Proofs.YtcgefpklljclgaaW.PrintLast Go.Proofs.YtcgefpklljclgaaW.PrintMore
attribute [local go_sem] max2_int min2_int max_two min_two max_three min_three max_four min_four
set_option linter.unusedVariables false
set_option linter.unusedSimpArgs false

attribute [local go_sem high] eqA31
def law15_awake.f:Option (Bool):=(shape_Create.f ([]:List (S31)) (⟨#[97]⟩:ByteArray) (⟨#[]⟩:ByteArray) 1 0 0).bind fun bt1=>((law1_Num.f bt1.2).bind fun t5=>(if t5=0 then (if (bt1.1.length:Int)=1 then (if 0<(bt1.1.length:Int) then (some ((((rd_T31 bt1.1 0).f0).toList)==([97]:List UInt8) && ((((rd_T31 bt1.1 0).f1).toList)==([]:List UInt8) && ((((rd_T31 bt1.1 0).f2.f0)==1 && (((rd_T31 bt1.1 0).f2.f1)==0 && (((rd_T31 bt1.1 0).f2.f2)==0))) && ((((rd_T31 bt1.1 0).f3.f0)==0 && (((rd_T31 bt1.1 0).f3.f1)==0 && (((rd_T31 bt1.1 0).f3.f2)==0))) && ((((rd_T31 bt1.1 0).f4.f0)==0 && (((rd_T31 bt1.1 0).f4.f1)==0 && (((rd_T31 bt1.1 0).f4.f2)==0))) && (((rd_T31 bt1.1 0).f5)==1))))))) else (none)) else (some false)) else (some false)))
set_option maxHeartbeats 8000000 in
set_option maxRecDepth 100000 in
theorem law15_awake.calls (r:Bool) (w:World) (h:law15_awake.f=some r):
  Calls Try.prog 85 #[] w fun e w'=>e= .returned (.bool r)∧Below w.heap.size w w':=by
 have hu27:=Try.underlying27
 have hu31:=Try.underlying31
 have HB:=am_ (Below.refl w.heap.size w)
 have H:((shape_Create.f ([]:List (S31)) (⟨#[97]⟩:ByteArray) (⟨#[]⟩:ByteArray) 1 0 0).bind fun bt1=>((law1_Num.f bt1.2).bind fun t5=>(if t5=0 then (if (bt1.1.length:Int)=1 then (if 0<(bt1.1.length:Int) then (some ((((rd_T31 bt1.1 0).f0).toList)==([97]:List UInt8) && ((((rd_T31 bt1.1 0).f1).toList)==([]:List UInt8) && ((((rd_T31 bt1.1 0).f2.f0)==1 && (((rd_T31 bt1.1 0).f2.f1)==0 && (((rd_T31 bt1.1 0).f2.f2)==0))) && ((((rd_T31 bt1.1 0).f3.f0)==0 && (((rd_T31 bt1.1 0).f3.f1)==0 && (((rd_T31 bt1.1 0).f3.f2)==0))) && ((((rd_T31 bt1.1 0).f4.f0)==0 && (((rd_T31 bt1.1 0).f4.f1)==0 && (((rd_T31 bt1.1 0).f4.f2)==0))) && (((rd_T31 bt1.1 0).f5)==1))))))) else (none)) else (some false)) else (some false))))=some r:=h
 clear h
 replace H:=Option.bind_eq_some_iff.mp H
 obtain ⟨⟨t1,t4⟩,A10,H⟩:=H
 replace H:((law1_Num.f t4).bind fun t5=>(if t5=0 then (if (t1.length:Int)=1 then (if 0<(t1.length:Int) then (some ((((rd_T31 t1 0).f0).toList)==([97]:List UInt8) && ((((rd_T31 t1 0).f1).toList)==([]:List UInt8) && ((((rd_T31 t1 0).f2.f0)==1 && (((rd_T31 t1 0).f2.f1)==0 && (((rd_T31 t1 0).f2.f2)==0))) && ((((rd_T31 t1 0).f3.f0)==0 && (((rd_T31 t1 0).f3.f1)==0 && (((rd_T31 t1 0).f3.f2)==0))) && ((((rd_T31 t1 0).f4.f0)==0 && (((rd_T31 t1 0).f4.f1)==0 && (((rd_T31 t1 0).f4.f2)==0))) && (((rd_T31 t1 0).f5)==1))))))) else (none)) else (some false)) else (some false)))=some r:=H
 have A1:=Aside0.mk A10
 clear A10
 replace H:=Option.bind_eq_some_iff.mp H
 obtain ⟨t5,A20,H⟩:=H
 replace H:(if t5=0 then (if (t1.length:Int)=1 then (if 0<(t1.length:Int) then (some ((((rd_T31 t1 0).f0).toList)==([97]:List UInt8) && ((((rd_T31 t1 0).f1).toList)==([]:List UInt8) && ((((rd_T31 t1 0).f2.f0)==1 && (((rd_T31 t1 0).f2.f1)==0 && (((rd_T31 t1 0).f2.f2)==0))) && ((((rd_T31 t1 0).f3.f0)==0 && (((rd_T31 t1 0).f3.f1)==0 && (((rd_T31 t1 0).f3.f2)==0))) && ((((rd_T31 t1 0).f4.f0)==0 && (((rd_T31 t1 0).f4.f1)==0 && (((rd_T31 t1 0).f4.f2)==0))) && (((rd_T31 t1 0).f5)==1))))))) else (none)) else (some false)) else (some false))=some r:=H
 have A2:=Aside0.mk A20
 clear A20
 by_cases c3:t5=0
 ·rw [if_pos c3] at H
  have c3b0:(t5==0)=true:=beq_iff_eq.mpr c3
  have c3b1:(t5 !=0)=false:=bne_eq_false_iff_eq.mpr c3
  clear c3
  by_cases c4:(t1.length:Int)=1
  ·rw [if_pos c4] at H
   have c4b0:((t1.length:Int)==1)=true:=beq_iff_eq.mpr c4
   have c4b1:((t1.length:Int) !=1)=false:=bne_eq_false_iff_eq.mpr c4
   clear c4
   by_cases c5:0<(t1.length:Int)
   ·rw [if_pos c5] at H
    have c5b0:decide (0<(t1.length:Int))=true:=decide_eq_true c5
    have c5b1:decide (0<t1.length)=true:=decide_eq_true (by omega)
    clear c5
    obtain rfl:=Option.some.inj H
    go_enter Try.func85,Try.ntmps85
    go_wp2_with (first|((with_reducible refine gate_callee (f:=84) rfl ?_);refine goesL_ (some 5) rfl rfl Try.func84 (by kernel_rfl) rfl #[.slice none 0 0, .string (⟨#[97]⟩:ByteArray), .string (⟨#[]⟩:ByteArray), .agg #[.int .i64 1, .int .i64 0, .int .i64 0]] rfl zs_ ?_;(refine (shape_Create.calls _ _ ([]:List (S31)) (⟨#[97]⟩:ByteArray) (⟨#[]⟩:ByteArray) 1 0 0 t1 t4 _ ?side1 ?side2 A1.out).mono ?_);(case side1=>exact Kd.C_nil _ _);(case side2=>exact Nat.le_refl _);rintro e w6 ⟨v2,rfl,ho0,hb⟩;refine ⟨_,rfl, ?_⟩;have n0_:=am_ (Kd.R_lower ho0 (below_size (zl0_ HB)));have n1_:=am_ (below_step (zl0_ HB) hb);clear HB;have HO3:=n0_;have HB:=n1_;clear n0_ n1_;(try clear hb);(try clear hb2);(try clear hk);(try clear hi);(try clear ho0))|((with_reducible refine gate_callee (f:=61) rfl ?_);refine goesL_ (some 9) rfl rfl Try.func61 (by kernel_rfl) rfl #[.int .i64 t4] rfl zs_ ?_;(with_reducible refine (law1_Num.calls t4 t5 _ A2.out).mono ?_);rintro e w' ⟨rfl,⟨nd,rfl⟩⟩;refine ⟨_,rfl, ?_⟩;obtain ⟨Ao7,co7,eo7⟩:=Kd.R_slice HO3.out;subst eo7;have p6:0≤(0:Int):=(by omega);have q6:0<(t1.length:Int):=of_decide_eq_true zq_;obtain ⟨ad6,e6,hx6_0,hx6_1,hx6_2,hx6_3,hx6_4,hx6_5,hx6_6,hx6_7,hx6_8,hx6_9,hx6_10,hx6_11⟩:=at_T31 (Kd.R_reads' HO3.out).2.2 0 p6 q6;cases e6;have qi6:(0<t1.length)=True:=eq_true (by omega);(try rw [show ((0:Int)).toNat=0 from rfl] at hx6_0);(try rw [show 0*12=0 from rfl] at hx6_0);(try rw [Addr.add_zero'] at hx6_0);(try rw [show ((0:Int)).toNat=0 from rfl] at hx6_1);(try rw [show 0*12=0 from rfl] at hx6_1);(try rw [Addr.add_zero'] at hx6_1);(try rw [show ((0:Int)).toNat=0 from rfl] at hx6_2);(try rw [show 0*12=0 from rfl] at hx6_2);(try rw [Addr.add_zero'] at hx6_2);(try rw [show ((0:Int)).toNat=0 from rfl] at hx6_3);(try rw [show 0*12=0 from rfl] at hx6_3);(try rw [Addr.add_zero'] at hx6_3);(try rw [show ((0:Int)).toNat=0 from rfl] at hx6_4);(try rw [show 0*12=0 from rfl] at hx6_4);(try rw [Addr.add_zero'] at hx6_4);(try rw [show ((0:Int)).toNat=0 from rfl] at hx6_5);(try rw [show 0*12=0 from rfl] at hx6_5);(try rw [Addr.add_zero'] at hx6_5);(try rw [show ((0:Int)).toNat=0 from rfl] at hx6_6);(try rw [show 0*12=0 from rfl] at hx6_6);(try rw [Addr.add_zero'] at hx6_6);(try rw [show ((0:Int)).toNat=0 from rfl] at hx6_7);(try rw [show 0*12=0 from rfl] at hx6_7);(try rw [Addr.add_zero'] at hx6_7);(try rw [show ((0:Int)).toNat=0 from rfl] at hx6_8);(try rw [show 0*12=0 from rfl] at hx6_8);(try rw [Addr.add_zero'] at hx6_8);(try rw [show ((0:Int)).toNat=0 from rfl] at hx6_9);(try rw [show 0*12=0 from rfl] at hx6_9);(try rw [Addr.add_zero'] at hx6_9);(try rw [show ((0:Int)).toNat=0 from rfl] at hx6_10);(try rw [show 0*12=0 from rfl] at hx6_10);(try rw [Addr.add_zero'] at hx6_10);(try rw [show ((0:Int)).toNat=0 from rfl] at hx6_11);(try rw [show 0*12=0 from rfl] at hx6_11);(try rw [Addr.add_zero'] at hx6_11);replace p6:=eq_true p6;replace q6:=eq_true q6))
    go_ret
    exact ⟨by first|rfl|(simp [errW_none,errW_some]<;>rfl)|(simp [*,errW_none,errW_some]<;>rfl),zl0_ HB⟩
   ·rw [if_neg c5] at H
    exact absurd H (by simp)
  ·rw [if_neg c4] at H
   have c4b0:((t1.length:Int)==1)=false:=beq_eq_false_iff_ne.mpr c4
   have c4b1:((t1.length:Int) !=1)=true:=bne_iff_ne.mpr c4
   obtain rfl:=Option.some.inj H
   go_enter Try.func85,Try.ntmps85
   go_wp2_with (first|((with_reducible refine gate_callee (f:=84) rfl ?_);refine goesL_ (some 5) rfl rfl Try.func84 (by kernel_rfl) rfl #[.slice none 0 0, .string (⟨#[97]⟩:ByteArray), .string (⟨#[]⟩:ByteArray), .agg #[.int .i64 1, .int .i64 0, .int .i64 0]] rfl zs_ ?_;(refine (shape_Create.calls _ _ ([]:List (S31)) (⟨#[97]⟩:ByteArray) (⟨#[]⟩:ByteArray) 1 0 0 t1 t4 _ ?side1 ?side2 A1.out).mono ?_);(case side1=>exact Kd.C_nil _ _);(case side2=>exact Nat.le_refl _);rintro e w8 ⟨v2,rfl,ho0,hb⟩;refine ⟨_,rfl, ?_⟩;have n0_:=am_ (Kd.R_lower ho0 (below_size (zl0_ HB)));have n1_:=am_ (below_step (zl0_ HB) hb);clear HB;have HO3:=n0_;have HB:=n1_;clear n0_ n1_;(try clear hb);(try clear hb2);(try clear hk);(try clear hi);(try clear ho0))|((with_reducible refine gate_callee (f:=61) rfl ?_);refine goesL_ (some 9) rfl rfl Try.func61 (by kernel_rfl) rfl #[.int .i64 t4] rfl zs_ ?_;(with_reducible refine (law1_Num.calls t4 t5 _ A2.out).mono ?_);rintro e w' ⟨rfl,⟨nd,rfl⟩⟩;refine ⟨_,rfl, ?_⟩;obtain ⟨Ao9,co9,eo9⟩:=Kd.R_slice HO3.out;subst eo9))
   go_ret
   exact ⟨by first|rfl|(simp [errW_none,errW_some]<;>rfl)|(simp [*,errW_none,errW_some]<;>rfl),zl0_ HB⟩
 ·rw [if_neg c3] at H
  have c3b0:(t5==0)=false:=beq_eq_false_iff_ne.mpr c3
  have c3b1:(t5 !=0)=true:=bne_iff_ne.mpr c3
  obtain rfl:=Option.some.inj H
  go_enter Try.func85,Try.ntmps85
  go_wp2_with (first|((with_reducible refine gate_callee (f:=84) rfl ?_);refine goesL_ (some 5) rfl rfl Try.func84 (by kernel_rfl) rfl #[.slice none 0 0, .string (⟨#[97]⟩:ByteArray), .string (⟨#[]⟩:ByteArray), .agg #[.int .i64 1, .int .i64 0, .int .i64 0]] rfl zs_ ?_;(refine (shape_Create.calls _ _ ([]:List (S31)) (⟨#[97]⟩:ByteArray) (⟨#[]⟩:ByteArray) 1 0 0 t1 t4 _ ?side1 ?side2 A1.out).mono ?_);(case side1=>exact Kd.C_nil _ _);(case side2=>exact Nat.le_refl _);rintro e w10 ⟨v2,rfl,ho0,hb⟩;refine ⟨_,rfl, ?_⟩;have n0_:=am_ (Kd.R_lower ho0 (below_size (zl0_ HB)));have n1_:=am_ (below_step (zl0_ HB) hb);clear HB;have HO3:=n0_;have HB:=n1_;clear n0_ n1_;(try clear hb);(try clear hb2);(try clear hk);(try clear hi);(try clear ho0))|((with_reducible refine gate_callee (f:=61) rfl ?_);refine goesL_ (some 9) rfl rfl Try.func61 (by kernel_rfl) rfl #[.int .i64 t4] rfl zs_ ?_;(with_reducible refine (law1_Num.calls t4 t5 _ A2.out).mono ?_);rintro e w' ⟨rfl,⟨nd,rfl⟩⟩;refine ⟨_,rfl, ?_⟩))
  go_ret
  exact ⟨by first|rfl|(simp [errW_none,errW_some]<;>rfl)|(simp [*,errW_none,errW_some]<;>rfl),zl0_ HB⟩

attribute [local go_sem high] eqA31
mutual
def law15_ShapeComes.j0:Nat→List Int→ByteArray→Int→Int→Bool→Option (Bool)
 |0,_,_,_,_,_=>none
 |k+1,x0,x1,x2,x3,x28=>if x28=true then ((law15_awake.f).bind fun t1=>(some t1)) else ((law12_Make.f k x0).bind fun t2=>(if (wrap64 ((t2.length:Int)+1))=0 then (none) else (if (Int.tmod (wrap64 (x2)) (wrap64 ((t2.length:Int)+1)))<(t2.length:Int) then (if 0≤(Int.tmod (wrap64 (x2)) (wrap64 ((t2.length:Int)+1))) then (law15_ShapeComes.j1 k x1 x3 t2 ((rd_T31 t2 (Int.tmod (wrap64 (x2)) (wrap64 ((t2.length:Int)+1)))).f0)) else (none)) else (law15_ShapeComes.j1 k x1 x3 t2 (⟨#[]⟩:ByteArray)))))
def law15_ShapeComes.j1:Nat→ByteArray→Int→List (S31)→ByteArray→Option (Bool)
 |0,_,_,_,_=>none
 |k+1,x1,x3,x9,x10=>(shape_Create.f x9 x1 x10 (wrap64 (x3)) 0 0).bind fun bt7=>(if x1.toList=([]:List UInt8) then (law15_ShapeComes.j2 k x1 x9 x10 bt7.1 bt7.2 true (wrap64 (x3)) 0 0) else (law15_ShapeComes.j2 k x1 x9 x10 bt7.1 bt7.2 (decide ((x1.size:Int)>24)) (wrap64 (x3)) 0 0))
def law15_ShapeComes.j2:Nat→ByteArray→List (S31)→ByteArray→List (S31)→Int→Bool→Int→Int→Int→Option (Bool)
 |0,_,_,_,_,_,_,_,_,_=>none
 |k+1,x1,x9,x10,x12,x13,x62,x7000,x7001,x7002=>if x62=true then ((law1_Num.f x13).bind fun t11=>(if t11=1 then ((law15_awake.f).bind fun t12=>(some t12)) else (some false))) else ((r10_Find.f k x9 x1).bind fun t13=>(if t13≥0 then ((law1_Num.f x13).bind fun t14=>(if t14=3 then ((law15_awake.f).bind fun t15=>(some t15)) else (some false))) else ((r10_Find.f k x12 x1).bind fun t16=>((law1_Num.f x13).bind fun t17=>(if t17=0 then ((r10_Right.f k x12).bind fun t18=>(if t18=true then (if t16<0 then (law15_ShapeComes.j3 k x1 x9 x12 true x7000 x7001 x7002) else (if 0≤t16 then (if t16<(x12.length:Int) then (law15_ShapeComes.j3 k x1 x9 x12 (!((((rd_T31 x12 t16).f0).toList)==x1.toList)||(!((((rd_T31 x12 t16).f1).toList)==x10.toList)||((!(((rd_T31 x12 t16).f2.f0)==x7000)||(!(((rd_T31 x12 t16).f2.f1)==x7001)||(!(((rd_T31 x12 t16).f2.f2)==x7002))))||((!(((rd_T31 x12 t16).f3.f0)==0)||(!(((rd_T31 x12 t16).f3.f1)==0)||(!(((rd_T31 x12 t16).f3.f2)==0))))||((!(((rd_T31 x12 t16).f4.f0)==0)||(!(((rd_T31 x12 t16).f4.f1)==0)||(!(((rd_T31 x12 t16).f4.f2)==0))))||(!(((rd_T31 x12 t16).f5)==1))))))) x7000 x7001 x7002) else (none)) else (none))) else (law15_ShapeComes.j3 k x1 x9 x12 true x7000 x7001 x7002))) else (law15_ShapeComes.j3 k x1 x9 x12 true x7000 x7001 x7002))))))
def law15_ShapeComes.j3:Nat→ByteArray→List (S31)→List (S31)→Bool→Int→Int→Int→Option (Bool)
 |0,_,_,_,_,_,_,_=>none
 |k+1,x1,x9,x12,x112,x7000,x7001,x7002=>if x112=true then (some false) else ((shape_Delete.f k x12 x1 1).bind fun bt20=>((shape_Create.f x9 x1 (⟨#[110,111,110,101]⟩:ByteArray) x7000 x7001 x7002).bind fun bt24=>((shape_Delete.f k x12 x1 2).bind fun bt28=>((law1_Num.f bt20.2).bind fun t32=>(if t32=0 then ((r10_SameItems.f k bt20.1 x9).bind fun t33=>(if t33=true then ((law1_Num.f bt24.2).bind fun t34=>(if t34=2 then ((law1_Num.f bt28.2).bind fun t35=>(if t35=14 then ((law15_awake.f).bind fun t36=>(some t36)) else (some false))) else (if x1.toList=([110,111,110,101]:List UInt8) then ((law1_Num.f bt28.2).bind fun t37=>(if t37=14 then ((law15_awake.f).bind fun t38=>(some t38)) else (some false))) else (some false)))) else (some false))) else (some false))))))
end
def law15_ShapeComes.f (k:Nat) (l0:List Int) (a1:ByteArray) (a2:Int) (a3:Int):Option (Bool):=if (l0.length:Int)>90 then (law15_ShapeComes.j0 k l0 a1 a2 a3 true) else (law15_ShapeComes.j0 k l0 a1 a2 a3 (decide ((a1.size:Int)>40)))
theorem law15_ShapeComes.mono_l: ∀k,(∀y0 y1 y2 y3 y4,LeO (law15_ShapeComes.j0 k y0 y1 y2 y3 y4) (law15_ShapeComes.j0 (k+1) y0 y1 y2 y3 y4))∧(∀y0 y1 y2 y3,LeO (law15_ShapeComes.j1 k y0 y1 y2 y3) (law15_ShapeComes.j1 (k+1) y0 y1 y2 y3))∧(∀y0 y1 y2 y3 y4 y5 y6 y7 y8,LeO (law15_ShapeComes.j2 k y0 y1 y2 y3 y4 y5 y6 y7 y8) (law15_ShapeComes.j2 (k+1) y0 y1 y2 y3 y4 y5 y6 y7 y8))∧(∀y0 y1 y2 y3 y4 y5 y6,LeO (law15_ShapeComes.j3 k y0 y1 y2 y3 y4 y5 y6) (law15_ShapeComes.j3 (k+1) y0 y1 y2 y3 y4 y5 y6))
 |0=>⟨fun _ _ _ _ _ r h=>by simp [law15_ShapeComes.j0] at h,fun _ _ _ _ r h=>by simp [law15_ShapeComes.j1] at h,fun _ _ _ _ _ _ _ _ _ r h=>by simp [law15_ShapeComes.j2] at h,fun _ _ _ _ _ _ _ r h=>by simp [law15_ShapeComes.j3] at h⟩
 |k+1=>by
  obtain ⟨ih0,ih1,ih2,ih3⟩:=law15_ShapeComes.mono_l k
  refine ⟨?_, ?_, ?_, ?_⟩
  ·intro y0 y1 y2 y3 y4
   unfold law15_ShapeComes.j0
   repeat' first
   |(with_reducible exact ih0 _ _ _ _ _)
   |(with_reducible exact ih1 _ _ _ _)
   |(with_reducible exact ih2 _ _ _ _ _ _ _ _ _)
   |(with_reducible exact ih3 _ _ _ _ _ _ _)
   |(with_reducible exact law12_Make.mono _ _)
   |(with_reducible exact r10_Find.mono _ _ _)
   |(with_reducible exact r10_Right.mono _ _)
   |(with_reducible exact r10_SameItems.mono _ _ _)
   |(with_reducible exact shape_Delete.mono _ _ _ _)
   |(with_reducible exact LeO.refl _)
   |(with_reducible exact LeO.none _)
   |(with_reducible refine LeO.ite ?_ ?_)
   |(with_reducible refine LeO.bind ?_ (fun _=> ?_))
   |exact ih0 _ _ _ _ _
   |exact ih1 _ _ _ _
   |exact ih2 _ _ _ _ _ _ _ _ _
   |exact ih3 _ _ _ _ _ _ _
   |exact law12_Make.mono _ _
   |exact r10_Find.mono _ _ _
   |exact r10_Right.mono _ _
   |exact r10_SameItems.mono _ _ _
   |exact shape_Delete.mono _ _ _ _
   |exact LeO.none _
   |refine LeO.ite ?_ ?_
   |refine LeO.bind ?_ (fun _=> ?_)
  ·intro y0 y1 y2 y3
   unfold law15_ShapeComes.j1
   repeat' first
   |(with_reducible exact ih0 _ _ _ _ _)
   |(with_reducible exact ih1 _ _ _ _)
   |(with_reducible exact ih2 _ _ _ _ _ _ _ _ _)
   |(with_reducible exact ih3 _ _ _ _ _ _ _)
   |(with_reducible exact law12_Make.mono _ _)
   |(with_reducible exact r10_Find.mono _ _ _)
   |(with_reducible exact r10_Right.mono _ _)
   |(with_reducible exact r10_SameItems.mono _ _ _)
   |(with_reducible exact shape_Delete.mono _ _ _ _)
   |(with_reducible exact LeO.refl _)
   |(with_reducible exact LeO.none _)
   |(with_reducible refine LeO.ite ?_ ?_)
   |(with_reducible refine LeO.bind ?_ (fun _=> ?_))
   |exact ih0 _ _ _ _ _
   |exact ih1 _ _ _ _
   |exact ih2 _ _ _ _ _ _ _ _ _
   |exact ih3 _ _ _ _ _ _ _
   |exact law12_Make.mono _ _
   |exact r10_Find.mono _ _ _
   |exact r10_Right.mono _ _
   |exact r10_SameItems.mono _ _ _
   |exact shape_Delete.mono _ _ _ _
   |exact LeO.none _
   |refine LeO.ite ?_ ?_
   |refine LeO.bind ?_ (fun _=> ?_)
  ·intro y0 y1 y2 y3 y4 y5 y6 y7 y8
   unfold law15_ShapeComes.j2
   repeat' first
   |(with_reducible exact ih0 _ _ _ _ _)
   |(with_reducible exact ih1 _ _ _ _)
   |(with_reducible exact ih2 _ _ _ _ _ _ _ _ _)
   |(with_reducible exact ih3 _ _ _ _ _ _ _)
   |(with_reducible exact law12_Make.mono _ _)
   |(with_reducible exact r10_Find.mono _ _ _)
   |(with_reducible exact r10_Right.mono _ _)
   |(with_reducible exact r10_SameItems.mono _ _ _)
   |(with_reducible exact shape_Delete.mono _ _ _ _)
   |(with_reducible exact LeO.refl _)
   |(with_reducible exact LeO.none _)
   |(with_reducible refine LeO.ite ?_ ?_)
   |(with_reducible refine LeO.bind ?_ (fun _=> ?_))
   |exact ih0 _ _ _ _ _
   |exact ih1 _ _ _ _
   |exact ih2 _ _ _ _ _ _ _ _ _
   |exact ih3 _ _ _ _ _ _ _
   |exact law12_Make.mono _ _
   |exact r10_Find.mono _ _ _
   |exact r10_Right.mono _ _
   |exact r10_SameItems.mono _ _ _
   |exact shape_Delete.mono _ _ _ _
   |exact LeO.none _
   |refine LeO.ite ?_ ?_
   |refine LeO.bind ?_ (fun _=> ?_)
  ·intro y0 y1 y2 y3 y4 y5 y6
   unfold law15_ShapeComes.j3
   repeat' first
   |(with_reducible exact ih0 _ _ _ _ _)
   |(with_reducible exact ih1 _ _ _ _)
   |(with_reducible exact ih2 _ _ _ _ _ _ _ _ _)
   |(with_reducible exact ih3 _ _ _ _ _ _ _)
   |(with_reducible exact law12_Make.mono _ _)
   |(with_reducible exact r10_Find.mono _ _ _)
   |(with_reducible exact r10_Right.mono _ _)
   |(with_reducible exact r10_SameItems.mono _ _ _)
   |(with_reducible exact shape_Delete.mono _ _ _ _)
   |(with_reducible exact LeO.refl _)
   |(with_reducible exact LeO.none _)
   |(with_reducible refine LeO.ite ?_ ?_)
   |(with_reducible refine LeO.bind ?_ (fun _=> ?_))
   |exact ih0 _ _ _ _ _
   |exact ih1 _ _ _ _
   |exact ih2 _ _ _ _ _ _ _ _ _
   |exact ih3 _ _ _ _ _ _ _
   |exact law12_Make.mono _ _
   |exact r10_Find.mono _ _ _
   |exact r10_Right.mono _ _
   |exact r10_SameItems.mono _ _ _
   |exact shape_Delete.mono _ _ _ _
   |exact LeO.none _
   |refine LeO.ite ?_ ?_
   |refine LeO.bind ?_ (fun _=> ?_)
theorem law15_ShapeComes.mono: ∀a0 a1 a2 a3 k,LeO (law15_ShapeComes.f k a0 a1 a2 a3) (law15_ShapeComes.f (k+1) a0 a1 a2 a3):=by
 intro a0 a1 a2 a3 k
 obtain ⟨ih0,ih1,ih2,ih3⟩:=law15_ShapeComes.mono_l k
 unfold law15_ShapeComes.f
 repeat' first
  |(with_reducible exact ih0 _ _ _ _ _)
  |(with_reducible exact ih1 _ _ _ _)
  |(with_reducible exact ih2 _ _ _ _ _ _ _ _ _)
  |(with_reducible exact ih3 _ _ _ _ _ _ _)
  |(with_reducible exact law12_Make.mono _ _)
  |(with_reducible exact r10_Find.mono _ _ _)
  |(with_reducible exact r10_Right.mono _ _)
  |(with_reducible exact r10_SameItems.mono _ _ _)
  |(with_reducible exact shape_Delete.mono _ _ _ _)
  |(with_reducible exact LeO.refl _)
  |(with_reducible exact LeO.none _)
  |(with_reducible refine LeO.ite ?_ ?_)
  |(with_reducible refine LeO.bind ?_ (fun _=> ?_))
  |exact ih0 _ _ _ _ _
  |exact ih1 _ _ _ _
  |exact ih2 _ _ _ _ _ _ _ _ _
  |exact ih3 _ _ _ _ _ _ _
  |exact law12_Make.mono _ _
  |exact r10_Find.mono _ _ _
  |exact r10_Right.mono _ _
  |exact r10_SameItems.mono _ _ _
  |exact shape_Delete.mono _ _ _ _
  |exact LeO.none _
  |refine LeO.ite ?_ ?_
  |refine LeO.bind ?_ (fun _=> ?_)
def law15_ShapeComes.T14:Bool×List (List Nat×List Nat):=(true,[([],[]),([0],[0]),([1],[1]),([2,1],[2]),([3],[3]),([4,3,3],[3,4]),([5,3],[3,5]),([3,6],[3,6]),([7,5],[7]),([8],[8]),([9,8],[8,9]),([8,10],[8,10]),([11,8],[11]),([12],[12]),([12],[12]),([13,14,12],[12,13,14]),([15,12],[12,15]),([12],[12]),([12],[12]),([12],[12]),([17,18,19,12],[12,17,18,19]),([16,20,12],[12,16,20]),([12,21],[12,21])])
def law15_ShapeComes.B14:List Nat:=[0,1,3,7,15,31,63,127,255,511,1023,2047,4095,8191,8191,32767,65535,8191,8191,8191,925695,2097151,4194303]
theorem law15_ShapeComes.tab14:rtab .any (opsOf Try.f22 14)=law15_ShapeComes.T14:=by kernel_rfl
theorem law15_ShapeComes.bits14:waitsOk law15_ShapeComes.T14.2 law15_ShapeComes.B14=true:=by kernel_rfl
theorem law15_ShapeComes.gw_ {c:Code} {P:Program} {Q:Exit→Act→World→Prop} {a:Act} {wc:World} {m:Nat} (h: ∀(n:Nat) (w':World),w'=wc.drewN n→c.wp P Q a w'):c.wp P Q a (wc.drewN m):=h m _ rfl
set_option maxHeartbeats 8000000 in
set_option maxRecDepth 100000 in
theorem law15_ShapeComes.calls (k:Nat) (A0:Option Addr) (c0:Nat) (l0:List Int) (a1:ByteArray) (a2:Int) (a3:Int) (r:Bool) (w:World) (hr0:Kd.C (Kd.int .u8) w A0 l0.length l0) (hc0:l0.length≤c0) (h:law15_ShapeComes.f k l0 a1 a2 a3=some r):
  Calls Try.prog 22 #[.slice A0 l0.length c0, .string a1, .int .u8 a2, .int .u16 a3] w fun e w'=>e= .returned (.bool r)∧Below w.heap.size w w':=by
 have hu27:=Try.underlying27
 have hu31:=Try.underlying31
 have HR0:=Aside0.mk hr0
 have HC0:=Aside0.mk hc0
 clear hr0 hc0
 have HB:=am_ (Below.refl w.heap.size w)
 have H:(if (l0.length:Int)>90 then (law15_ShapeComes.j0 k l0 a1 a2 a3 true) else (law15_ShapeComes.j0 k l0 a1 a2 a3 (decide ((a1.size:Int)>40))))=some r:=h
 clear h
 have HC5:=Aside0.mk H
 clear H
 go_enter Try.func22,Try.ntmps22
 go_upto_region 1 with (fail)
 go_cut [28] (fun v28 wc=> ∃(kq:Nat) (x28_4:Bool),v28= .bool x28_4∧Aside0 (law15_ShapeComes.j0 kq l0 a1 a2 a3 x28_4=some r)∧Aside0 (kq≤k)∧Aside0 (Below w.heap.size w wc))
 case first=>
  have H:=HC5.out
  clear HC5
  by_cases c6:(l0.length:Int)>90
  ·rw [if_pos c6] at H
   have c6b0:decide (90<(l0.length:Int))=true:=decide_eq_true c6
   have c6b1:decide (90<l0.length)=true:=decide_eq_true (by omega)
   clear c6
   (first|rw [c6b0]|(simp only [i64_w,i32_w];rw [c6b0])|skip)
   have H':=Aside0.mk H
   clear H
   go_wp2
   go_meet
   case rel=>exact ⟨_,(true),(by first|rfl|(simp;done)|(simp [*];done)),H',⟨by first|omega|exact Nat.le_refl _⟩,⟨zl0_ HB⟩⟩
  ·rw [if_neg c6] at H
   have c6b0:decide (90<(l0.length:Int))=false:=decide_eq_false c6
   have c6b1:decide (90<l0.length)=false:=decide_eq_false (by omega)
   clear c6
   (first|rw [c6b0]|(simp only [i64_w,i32_w];rw [c6b0])|skip)
   have H':=Aside0.mk H
   clear H
   go_wp2
   go_meet
   case rel=>exact ⟨_,(decide ((a1.size:Int)>40)),(by first|rfl|(simp;done)|(simp [*];done)),H',⟨by first|omega|exact Nat.le_refl _⟩,⟨zl0_ HB⟩⟩
 case rest=>
  clear HC5
  try clear c2
  try clear p2
  try clear c6
  try clear c6b0
  try clear c6b1
  obtain ⟨kq,x28_4,rfl,HA,HJ4,HB⟩:=hcut
  cases kq with
  |zero=>exact absurd HA.out (by simp [law15_ShapeComes.j0])
  |succ kj4=>
   have H:=HA.out
   clear HA
   simp only [law15_ShapeComes.j0] at H
   by_cases c7:x28_4=true
   ·subst c7
    have H1:((law15_awake.f).bind fun t1=>(some t1))=some r:=by rw [if_pos rfl] at H;exact H
    clear H
    have H:=H1
    clear H1
    replace H:=Option.bind_eq_some_iff.mp H
    obtain ⟨t1,A80,H⟩:=H
    replace H:(some t1)=some r:=H
    have A8:=Aside0.mk A80
    clear A80
    obtain rfl:=Option.some.inj H
    go_wp2_with (first|((with_reducible refine gate_callee (f:=85) rfl ?_);refine goesL_ (some 29) rfl rfl Try.func85 (by kernel_rfl) rfl #[] rfl zs_ ?_;(with_reducible refine (law15_awake.calls t1 _ A8.out).mono ?_);rintro e w9 ⟨rfl,hb⟩;refine ⟨_,rfl, ?_⟩;have n0_:=am_ (below_step (zl0_ HB) hb);clear HB;have HB:=n0_;clear n0_;(try clear hb);(try clear hb2);(try clear hk);(try clear hi)))
    go_ret
    exact ⟨by first|rfl|(simp [errW_none,errW_some]<;>rfl)|(simp [*,errW_none,errW_some]<;>rfl),zl0_ HB⟩
   ·replace c7:=Bool.eq_false_iff.mpr c7
    subst c7
    have H1:((law12_Make.f kj4 l0).bind fun t2=>(if (wrap64 ((t2.length:Int)+1))=0 then (none) else (if (Int.tmod (wrap64 (a2)) (wrap64 ((t2.length:Int)+1)))<(t2.length:Int) then (if 0≤(Int.tmod (wrap64 (a2)) (wrap64 ((t2.length:Int)+1))) then (law15_ShapeComes.j1 kj4 a1 a3 t2 ((rd_T31 t2 (Int.tmod (wrap64 (a2)) (wrap64 ((t2.length:Int)+1)))).f0)) else (none)) else (law15_ShapeComes.j1 kj4 a1 a3 t2 (⟨#[]⟩:ByteArray)))))=some r:=by rw [if_neg (show¬(false=true) by decide)] at H;exact H
    clear H
    have H:=H1
    clear H1
    replace H:=Option.bind_eq_some_iff.mp H
    obtain ⟨t2,A100,H⟩:=H
    replace H:(if (wrap64 ((t2.length:Int)+1))=0 then (none) else (if (Int.tmod (wrap64 (a2)) (wrap64 ((t2.length:Int)+1)))<(t2.length:Int) then (if 0≤(Int.tmod (wrap64 (a2)) (wrap64 ((t2.length:Int)+1))) then (law15_ShapeComes.j1 kj4 a1 a3 t2 ((rd_T31 t2 (Int.tmod (wrap64 (a2)) (wrap64 ((t2.length:Int)+1)))).f0)) else (none)) else (law15_ShapeComes.j1 kj4 a1 a3 t2 (⟨#[]⟩:ByteArray))))=some r:=H
    have A10:=Aside0.mk A100
    clear A100
    by_cases c11:(wrap64 ((t2.length:Int)+1))=0
    ·rw [if_pos c11] at H
     exact absurd H (by simp)
    ·rw [if_neg c11] at H
     have c11b0:((wrap64 ((t2.length:Int)+1))==0)=false:=beq_eq_false_iff_ne.mpr c11
     have c11b1:((wrap64 ((t2.length:Int)+1)) !=0)=true:=bne_iff_ne.mpr c11
     have HC12:=Aside0.mk H
     clear H
     go_upto_if 40 with (first|((with_reducible refine gate_callee (f:=32) rfl ?_);refine goesL_ (some 31) rfl rfl Try.func32 (by kernel_rfl) rfl #[.slice A0 l0.length c0] rfl zs_ ?_;(with_reducible refine (law12_Make.calls kj4 _ _ l0 t2 _ ?side1 ?side2 A10.out).mono ?_);(case side1=>exact zc_ (Kd.C_below HR0.out HB.out));(case side2=>exact HC0.out);rintro e w13 ⟨v3,rfl,ho0,hb⟩;refine ⟨_,rfl, ?_⟩;have n0_:=am_ (Kd.R_lower ho0 (below_size (zl0_ HB)));have n1_:=am_ (below_step (zl0_ HB) hb);clear HB;have HO4:=n0_;have HB:=n1_;clear n0_ n1_;(try clear hb);(try clear hb2);(try clear hk);(try clear hi);(try clear ho0);obtain ⟨Ao14,co14,eo14⟩:=Kd.R_slice HO4.out;subst eo14))
     (try simp only [Act.put,List.setIfInBounds_toArray,List.set_cons_zero,List.set_cons_succ])
     go_cut [10] (fun v10 wc=> ∃(kq:Nat) (x10_11:ByteArray),v10= .string x10_11∧Aside0 (law15_ShapeComes.j1 kq a1 a3 t2 x10_11=some r)∧Aside0 (kq≤kj4)∧Aside0 (Kd.R k31 31 wc w.heap.size (fun _=>True) (.slice Ao14 t2.length co14) t2)∧Aside0 (Below w.heap.size w wc))
     case first=>
      have H:=HC12.out
      clear HC12
      by_cases c15:(Int.tmod (wrap64 (a2)) (wrap64 ((t2.length:Int)+1)))<(t2.length:Int)
      ·rw [if_pos c15] at H
       have c15b0:decide ((Int.tmod (wrap64 (a2)) (wrap64 ((t2.length:Int)+1)))<(t2.length:Int))=true:=decide_eq_true c15
       clear c15
       (first|rw [c15b0]|(simp only [i64_w,i32_w];rw [c15b0])|skip)
       obtain ⟨ji16,hji16⟩: ∃j_:Int,(Int.tmod (wrap64 (a2)) (wrap64 ((t2.length:Int)+1)))=j_:=⟨_,rfl⟩
       replace H:(if 0≤(ji16) then (law15_ShapeComes.j1 kj4 a1 a3 t2 ((rd_T31 t2 (ji16)).f0)) else (none))=some r:=by first|(rw [hji16] at H;exact H)|(simp only [hji16] at H ⊢;exact H)
       (try rw [hji16] at c15b0)
       by_cases c17:0≤(ji16)
       ·rw [if_pos c17] at H
        have c17b0:decide (0≤(ji16))=true:=decide_eq_true c17
        clear c17
        have H':=Aside0.mk H
        clear H
        have p5:0≤((ji16):Int):=of_decide_eq_true zq_
        have q5:(ji16)<(t2.length:Int):=of_decide_eq_true zq_
        obtain ⟨ad5,e5,hx5_0,hx5_1,hx5_2,hx5_3,hx5_4,hx5_5,hx5_6,hx5_7,hx5_8,hx5_9,hx5_10,hx5_11⟩:=at_T31 (Kd.R_reads' HO4.out).2.2 (ji16) p5 q5
        cases e5
        replace p5:=eq_true p5
        replace q5:=eq_true q5
        go_wp2
        go_meet
        case rel=>exact ⟨_,((rd_T31 t2 (ji16)).f0),(by first|rfl|(simp;done)|(simp only [←hji16]<;>(first|rfl|simp))|(simp [*];done)),H',⟨by have:=HJ4.out;first|omega|exact Nat.le_refl _⟩,⟨by (with_reducible repeat (first|apply Kd.R_alloc|apply Kd.R_drewN|apply Kd.R_drew));exact HO4.out⟩,⟨zl0_ HB⟩⟩
       ·rw [if_neg c17] at H
        exact absurd H (by simp)
      ·rw [if_neg c15] at H
       have c15b0:decide ((Int.tmod (wrap64 (a2)) (wrap64 ((t2.length:Int)+1)))<(t2.length:Int))=false:=decide_eq_false c15
       clear c15
       (first|rw [c15b0]|(simp only [i64_w,i32_w];rw [c15b0])|skip)
       have H':=Aside0.mk H
       clear H
       go_wp2
       go_meet
       case rel=>exact ⟨_,((⟨#[]⟩:ByteArray)),(by first|rfl|(simp;done)|(simp [*];done)),H',⟨by have:=HJ4.out;first|omega|exact Nat.le_refl _⟩,⟨by (with_reducible repeat (first|apply Kd.R_alloc|apply Kd.R_drewN|apply Kd.R_drew));exact HO4.out⟩,⟨zl0_ HB⟩⟩
     case rest=>
      clear HC12
      try clear c1
      try clear c2
      try clear p2
      try clear c3
      try clear p5
      try clear q5
      try clear hx5
      try clear c6
      try clear c6b0
      try clear c6b1
      try clear p6
      try clear c7
      try clear c8
      try clear c11
      try clear c11b0
      try clear c11b1
      try clear c15
      try clear c15b0
      try clear c17
      try clear c17b0
      try clear hx5_0
      try clear hx5_1
      try clear hx5_10
      try clear hx5_11
      try clear hx5_2
      try clear hx5_3
      try clear hx5_4
      try clear hx5_5
      try clear hx5_6
      try clear hx5_7
      try clear hx5_8
      try clear hx5_9
      try clear p2
      try clear p5
      try clear q5
      obtain ⟨kq,x10_11,rfl,HA,HJ11,HO_9,HB⟩:=hcut
      cases kq with
      |zero=>exact absurd HA.out (by simp [law15_ShapeComes.j1])
      |succ kj11=>
       have H:=HA.out
       clear HA
       simp only [law15_ShapeComes.j1] at H
       replace H:=Option.bind_eq_some_iff.mp H
       obtain ⟨⟨t7,t10⟩,A180,H⟩:=H
       replace H:(if a1.toList=([]:List UInt8) then (law15_ShapeComes.j2 kj11 a1 t2 x10_11 t7 t10 true (wrap64 (a3)) 0 0) else (law15_ShapeComes.j2 kj11 a1 t2 x10_11 t7 t10 (decide ((a1.size:Int)>24)) (wrap64 (a3)) 0 0))=some r:=H
       have A18:=Aside0.mk A180
       clear A180
       have HC19:=Aside0.mk H
       clear H
       go_upto_region 9 with (first|((with_reducible refine gate_dst (N:=11) rfl ?_);(try (refine gate_guard (by rfl) ?_;dsimp only));refine box_event ?hg (N:=11) ?hd (cs:=#[.int .i64 0, .int .i64 0, .int .i64 0]) (t:=27) ?hr ?_;(case hd=>rfl);(case hg=>rfl);(case hr=>first|(go_simp;done)|(go_simp;rfl));intro gb6 hg w20 hbox hb;have n0_:=am_ (Kd.R_below (zr_ HO_9) hb);have n1_:=am_ (below_step (zl0_ HB) hb);have n2_:=am_ (hbox);have n3_:=am_ ((zg0_ HB hg:w.heap.size≤gb6));have n4_:=am_ ((zg0_ HB hg:w.heap.size≤gb6));clear HO_9;clear HB;have HO_9:=n0_;have HB:=n1_;have BK6:=n2_;have GW6:=n3_;have GE6:=n4_;clear n0_ n1_ n2_ n3_ n4_;clear hb hbox hg;have hcz21_0:w20.cell? ⟨gb6,0,none⟩=some (.int .i64 0):=(blk_cell BK6.out 0).trans rfl;have hcz21_1:w20.cell? ⟨gb6,1,none⟩=some (.int .i64 0):=(blk_cell BK6.out 1).trans rfl;have hcz21_2:w20.cell? ⟨gb6,2,none⟩=some (.int .i64 0):=(blk_cell BK6.out 2).trans rfl;have hfz21_0:=blk_frozen BK6.out 0;have hfz21_1:=blk_frozen BK6.out 1;have hfz21_2:=blk_frozen BK6.out 2)|((with_reducible refine gate_callee (f:=84) rfl ?_);refine goesL_ (some 59) rfl rfl Try.func84 (by kernel_rfl) rfl #[.slice Ao14 t2.length co14, .string a1, .string x10_11, .agg #[.int .i64 (wrap64 (a3)), .int .i64 0, .int .i64 0]] rfl zs_ ?_;(with_reducible refine (shape_Create.calls _ _ t2 a1 x10_11 (wrap64 (a3)) 0 0 t7 t10 _ ?side1 ?side2 A18.out).mono ?_);(case side1=>refine (Kd.R_reads' (e:=31) (base:=w.heap.size) (ok:=fun k_=>True) (n:=t2.length) (c:=co14) ?_).2.2;exact (by refine zt_ ?_;exact (Kd.R_mono (Kd.R_far (p:=⟨gb6,2,none⟩) (Kd.R_far (p:=⟨gb6,1,none⟩) (Kd.R_far (p:=⟨gb6,0,none⟩) (Kd.R_types HO_9.out BK6.out (by decide)) (fun _ hk=>hk.2) (.int .i64 (wrap64 (a3)))) (fun _ hk=>hk.2) (.int .i64 0)) (fun _ hk=>hk.2) (.int .i64 0)) (fun _ h_=>h_.1))));(case side2=>exact (Kd.R_reads' HO_9.out).2.1);rintro e w22 ⟨v8,rfl,ho0,hb⟩;refine ⟨_,rfl, ?_⟩;have n0_:=am_ (Kd.R_elder' (by refine zt_ ?_;exact (Kd.R_mono (Kd.R_far (p:=⟨gb6,2,none⟩) (Kd.R_far (p:=⟨gb6,1,none⟩) (Kd.R_far (p:=⟨gb6,0,none⟩) (Kd.R_types HO_9.out BK6.out (by decide)) (fun _ hk=>hk.2) (.int .i64 (wrap64 (a3)))) (fun _ hk=>hk.2) (.int .i64 0)) (fun _ hk=>hk.2) (.int .i64 0)) (fun _ h_=>h_.1))) (Kd.R_base ho0) hb);have n1_:=am_ (Kd.R_lower (Kd.R_new' ho0 (Kd.R_lt (by refine zt_ ?_;exact (Kd.R_mono (Kd.R_far (p:=⟨gb6,2,none⟩) (Kd.R_far (p:=⟨gb6,1,none⟩) (Kd.R_far (p:=⟨gb6,0,none⟩) (Kd.R_types HO_9.out BK6.out (by decide)) (fun _ hk=>hk.2) (.int .i64 (wrap64 (a3)))) (fun _ hk=>hk.2) (.int .i64 0)) (fun _ hk=>hk.2) (.int .i64 0)) (fun _ h_=>h_.1))))) (below_size (zl1_ HB GE6)));have n2_:=am_ (blk_below (g:=gb6) (o:= .cells #[.int .i64 (wrap64 (a3)), .int .i64 0, .int .i64 0] 27 (0,0)) (by refine zk_ ?_;refine blk_put (cs:=#[.int .i64 (wrap64 (a3)), .int .i64 0, .int .i64 0]) ?_ 2 _ rfl;refine zk_ ?_;refine blk_put (cs:=#[.int .i64 (wrap64 (a3)), .int .i64 0, .int .i64 0]) ?_ 1 _ rfl;refine zk_ ?_;refine blk_put (cs:=#[.int .i64 0, .int .i64 0, .int .i64 0]) ?_ 0 _ rfl;refine zk_ ?_;exact BK6.out) hb);have n3_:=am_ (below_step (zl1_ HB GE6) hb);clear HO_9;clear BK6;clear HB;have HO_9:=n0_;have HO9:=n1_;have BK6:=n2_;have HB:=n3_;clear n0_ n1_ n2_ n3_;(try clear hb);(try clear hb2);(try clear hk);(try clear hi);(try clear ho0)))
       (try simp only [Act.put,List.setIfInBounds_toArray,List.set_cons_zero,List.set_cons_succ])
       go_cut [62] (fun v62 wc=> ∃(kq:Nat) (x62_18:Bool),v62= .bool x62_18∧Aside0 (law15_ShapeComes.j2 kq a1 t2 x10_11 t7 t10 x62_18 (wrap64 (a3)) 0 0=some r)∧Aside0 (kq≤kj11)∧Aside0 (Kd.R k31 31 wc w.heap.size (fun k_=>some k_≠(v8:Value).ownBlock) (.slice Ao14 t2.length co14) t2)∧Aside0 (Kd.R k31 31 wc w.heap.size (fun k_=>some k_≠((.slice Ao14 t2.length co14):Value).ownBlock) v8 t7)∧Aside0 (wc.heap[gb6]?=some (.cells #[.int .i64 (wrap64 (a3)), .int .i64 0, .int .i64 0] 27 (0,0)))∧Aside0 (Below w.heap.size w wc))
       case first=>
        have H:=HC19.out
        clear HC19
        by_cases c23:a1.toList=([]:List UInt8)
        ·rw [if_pos c23] at H
         have c23b0:(a1.toList==([]:List UInt8))=true:=beq_iff_eq.mpr c23
         have c23b1:(a1.toList !=([]:List UInt8))=false:=bne_eq_false_iff_eq.mpr c23
         clear c23
         (first|rw [c23b0]|(simp only [i64_w,i32_w];rw [c23b0])|skip)
         have H':=Aside0.mk H
         clear H
         go_wp2
         go_meet
         case rel=>exact ⟨_,(true),(by first|rfl|(simp;done)|(simp [*];done)),H',⟨by have:=HJ4.out;have:=HJ11.out;first|omega|exact Nat.le_refl _⟩,⟨by (with_reducible repeat (first|apply Kd.R_alloc|apply Kd.R_drewN|apply Kd.R_drew));exact Kd.R_mono HO_9.out (fun _ hk=>hk.2)⟩,⟨by (with_reducible repeat (first|apply Kd.R_alloc|apply Kd.R_drewN|apply Kd.R_drew));exact Kd.R_mono HO9.out (fun _ hk=>hk.2)⟩,⟨by refine zk_ ?_;exact BK6.out⟩,⟨zl1_ HB GE6⟩⟩
        ·rw [if_neg c23] at H
         have c23b0:(a1.toList==([]:List UInt8))=false:=beq_eq_false_iff_ne.mpr c23
         have c23b1:(a1.toList !=([]:List UInt8))=true:=bne_iff_ne.mpr c23
         (first|rw [c23b0]|(simp only [i64_w,i32_w];rw [c23b0])|skip)
         have H':=Aside0.mk H
         clear H
         go_wp2
         go_meet
         case rel=>exact ⟨_,(decide ((a1.size:Int)>24)),(by first|rfl|(simp;done)|(simp [*];done)),H',⟨by have:=HJ4.out;have:=HJ11.out;first|omega|exact Nat.le_refl _⟩,⟨by (with_reducible repeat (first|apply Kd.R_alloc|apply Kd.R_drewN|apply Kd.R_drew));exact Kd.R_mono HO_9.out (fun _ hk=>hk.2)⟩,⟨by (with_reducible repeat (first|apply Kd.R_alloc|apply Kd.R_drewN|apply Kd.R_drew));exact Kd.R_mono HO9.out (fun _ hk=>hk.2)⟩,⟨by refine zk_ ?_;exact BK6.out⟩,⟨zl1_ HB GE6⟩⟩
       case rest=>
        clear HC19
        try clear c1
        try clear c2
        try clear p2
        try clear c3
        try clear p5
        try clear q5
        try clear hx5
        try clear c6
        try clear c6b0
        try clear c6b1
        try clear p6
        try clear c7
        try clear c8
        try clear c11
        try clear c11b0
        try clear c11b1
        try clear c15
        try clear c15b0
        try clear c17
        try clear c17b0
        try clear c22
        try clear c23
        try clear c23b0
        try clear c23b1
        try clear hcz21_0
        try clear hcz21_1
        try clear hcz21_2
        try clear hfz21_0
        try clear hfz21_1
        try clear hfz21_2
        try clear hx5_0
        try clear hx5_1
        try clear hx5_10
        try clear hx5_11
        try clear hx5_2
        try clear hx5_3
        try clear hx5_4
        try clear hx5_5
        try clear hx5_6
        try clear hx5_7
        try clear hx5_8
        try clear hx5_9
        try clear p2
        try clear p5
        try clear p6
        try clear q5
        obtain ⟨kq,x62_18,rfl,HA,HJ18,HO_9,HO_12,BK6,HB⟩:=hcut
        cases kq with
        |zero=>exact absurd HA.out (by simp [law15_ShapeComes.j2])
        |succ kj18=>
         have H:=HA.out
         clear HA
         simp only [law15_ShapeComes.j2] at H
         by_cases c24:x62_18=true
         ·subst c24
          have H1:((law1_Num.f t10).bind fun t11=>(if t11=1 then ((law15_awake.f).bind fun t12=>(some t12)) else (some false)))=some r:=by rw [if_pos rfl] at H;exact H
          clear H
          have H:=H1
          clear H1
          replace H:=Option.bind_eq_some_iff.mp H
          obtain ⟨t11,A250,H⟩:=H
          replace H:(if t11=1 then ((law15_awake.f).bind fun t12=>(some t12)) else (some false))=some r:=H
          have A25:=Aside0.mk A250
          clear A250
          by_cases c26:t11=1
          ·rw [if_pos c26] at H
           have c26b0:(t11==1)=true:=beq_iff_eq.mpr c26
           have c26b1:(t11 !=1)=false:=bne_eq_false_iff_eq.mpr c26
           clear c26
           replace H:=Option.bind_eq_some_iff.mp H
           obtain ⟨t12,A270,H⟩:=H
           replace H:(some t12)=some r:=H
           have A27:=Aside0.mk A270
           clear A270
           obtain rfl:=Option.some.inj H
           go_wp2_with (first|((with_reducible refine gate_callee (f:=61) rfl ?_);refine goesL_ (some 71) rfl rfl Try.func61 (by kernel_rfl) rfl #[.int .i64 t10] rfl zs_ ?_;(with_reducible refine (law1_Num.calls t10 t11 _ A25.out).mono ?_);rintro e w' ⟨rfl,⟨nd,rfl⟩⟩;refine ⟨_,rfl, ?_⟩)|(go_at_call 85;(with_reducible refine (law15_awake.calls t12 _ A27.out).mono ?_);rintro e w28 ⟨rfl,hb⟩;have n0_:=am_ (Kd.R_below (zr_ HO_9) hb);have n1_:=am_ (Kd.R_below (zr_ HO_12) hb);have n2_:=am_ (blk_below (zb_ BK6) hb);have n3_:=am_ (below_step (zl1_ HB GE6) hb);clear HO_9;clear HO_12;clear BK6;clear HB;have HO_9:=n0_;have HO_12:=n1_;have BK6:=n2_;have HB:=n3_;clear n0_ n1_ n2_ n3_;(try clear hb);(try clear hb2);(try clear hk);(try clear hi)))
           go_ret
           exact ⟨by first|rfl|(simp [errW_none,errW_some]<;>rfl)|(simp [*,errW_none,errW_some]<;>rfl),zl1_ HB GE6⟩
          ·rw [if_neg c26] at H
           have c26b0:(t11==1)=false:=beq_eq_false_iff_ne.mpr c26
           have c26b1:(t11 !=1)=true:=bne_iff_ne.mpr c26
           obtain rfl:=Option.some.inj H
           go_wp2_with (first|((with_reducible refine gate_callee (f:=61) rfl ?_);refine goesL_ (some 71) rfl rfl Try.func61 (by kernel_rfl) rfl #[.int .i64 t10] rfl zs_ ?_;(with_reducible refine (law1_Num.calls t10 t11 _ A25.out).mono ?_);rintro e w' ⟨rfl,⟨nd,rfl⟩⟩;refine ⟨_,rfl, ?_⟩))
           go_ret
           exact ⟨by first|rfl|(simp [errW_none,errW_some]<;>rfl)|(simp [*,errW_none,errW_some]<;>rfl),zl1_ HB GE6⟩
         ·replace c24:=Bool.eq_false_iff.mpr c24
          subst c24
          have H1:((r10_Find.f kj18 t2 a1).bind fun t13=>(if t13≥0 then ((law1_Num.f t10).bind fun t14=>(if t14=3 then ((law15_awake.f).bind fun t15=>(some t15)) else (some false))) else ((r10_Find.f kj18 t7 a1).bind fun t16=>((law1_Num.f t10).bind fun t17=>(if t17=0 then ((r10_Right.f kj18 t7).bind fun t18=>(if t18=true then (if t16<0 then (law15_ShapeComes.j3 kj18 a1 t2 t7 true (wrap64 (a3)) 0 0) else (if 0≤t16 then (if t16<(t7.length:Int) then (law15_ShapeComes.j3 kj18 a1 t2 t7 (!((((rd_T31 t7 t16).f0).toList)==a1.toList)||(!((((rd_T31 t7 t16).f1).toList)==x10_11.toList)||((!(((rd_T31 t7 t16).f2.f0)==(wrap64 (a3)))||(!(((rd_T31 t7 t16).f2.f1)==0)||(!(((rd_T31 t7 t16).f2.f2)==0))))||((!(((rd_T31 t7 t16).f3.f0)==0)||(!(((rd_T31 t7 t16).f3.f1)==0)||(!(((rd_T31 t7 t16).f3.f2)==0))))||((!(((rd_T31 t7 t16).f4.f0)==0)||(!(((rd_T31 t7 t16).f4.f1)==0)||(!(((rd_T31 t7 t16).f4.f2)==0))))||(!(((rd_T31 t7 t16).f5)==1))))))) (wrap64 (a3)) 0 0) else (none)) else (none))) else (law15_ShapeComes.j3 kj18 a1 t2 t7 true (wrap64 (a3)) 0 0))) else (law15_ShapeComes.j3 kj18 a1 t2 t7 true (wrap64 (a3)) 0 0))))))=some r:=by rw [if_neg (show¬(false=true) by decide)] at H;exact H
          clear H
          have H:=H1
          clear H1
          replace H:=Option.bind_eq_some_iff.mp H
          obtain ⟨t13,A290,H⟩:=H
          replace H:(if t13≥0 then ((law1_Num.f t10).bind fun t14=>(if t14=3 then ((law15_awake.f).bind fun t15=>(some t15)) else (some false))) else ((r10_Find.f kj18 t7 a1).bind fun t16=>((law1_Num.f t10).bind fun t17=>(if t17=0 then ((r10_Right.f kj18 t7).bind fun t18=>(if t18=true then (if t16<0 then (law15_ShapeComes.j3 kj18 a1 t2 t7 true (wrap64 (a3)) 0 0) else (if 0≤t16 then (if t16<(t7.length:Int) then (law15_ShapeComes.j3 kj18 a1 t2 t7 (!((((rd_T31 t7 t16).f0).toList)==a1.toList)||(!((((rd_T31 t7 t16).f1).toList)==x10_11.toList)||((!(((rd_T31 t7 t16).f2.f0)==(wrap64 (a3)))||(!(((rd_T31 t7 t16).f2.f1)==0)||(!(((rd_T31 t7 t16).f2.f2)==0))))||((!(((rd_T31 t7 t16).f3.f0)==0)||(!(((rd_T31 t7 t16).f3.f1)==0)||(!(((rd_T31 t7 t16).f3.f2)==0))))||((!(((rd_T31 t7 t16).f4.f0)==0)||(!(((rd_T31 t7 t16).f4.f1)==0)||(!(((rd_T31 t7 t16).f4.f2)==0))))||(!(((rd_T31 t7 t16).f5)==1))))))) (wrap64 (a3)) 0 0) else (none)) else (none))) else (law15_ShapeComes.j3 kj18 a1 t2 t7 true (wrap64 (a3)) 0 0))) else (law15_ShapeComes.j3 kj18 a1 t2 t7 true (wrap64 (a3)) 0 0)))))=some r:=H
          have A29:=Aside0.mk A290
          clear A290
          by_cases c30:t13≥0
          ·rw [if_pos c30] at H
           have c30b0:decide (0≤t13)=true:=decide_eq_true c30
           clear c30
           replace H:=Option.bind_eq_some_iff.mp H
           obtain ⟨t14,A310,H⟩:=H
           replace H:(if t14=3 then ((law15_awake.f).bind fun t15=>(some t15)) else (some false))=some r:=H
           have A31:=Aside0.mk A310
           clear A310
           by_cases c32:t14=3
           ·rw [if_pos c32] at H
            have c32b0:(t14==3)=true:=beq_iff_eq.mpr c32
            have c32b1:(t14 !=3)=false:=bne_eq_false_iff_eq.mpr c32
            clear c32
            replace H:=Option.bind_eq_some_iff.mp H
            obtain ⟨t15,A330,H⟩:=H
            replace H:(some t15)=some r:=H
            have A33:=Aside0.mk A330
            clear A330
            obtain rfl:=Option.some.inj H
            go_wp2_with (first|((with_reducible refine gate_callee (f:=50) rfl ?_);refine goesL_ (some 79) rfl rfl Try.func50 (by kernel_rfl) rfl #[.slice Ao14 t2.length co14, .string a1] rfl zs_ ?_;(with_reducible refine (r10_Find.calls kj18 _ _ t2 a1 t13 _ ?side1 ?side2 A29.out).mono ?_);(case side1=>repeat (first|exact (Kd.R_reads' HO_9.out).2.2|(with_reducible refine Kd.C_alloc ?_ _)|(with_reducible refine Kd.C_drewN ?_ _)|(with_reducible refine Kd.C_drew ?_)));(case side2=>exact (Kd.R_reads' HO_9.out).2.1);rintro e w' ⟨rfl,⟨nd,rfl⟩⟩;refine ⟨_,rfl, ?_⟩)|((with_reducible refine gate_callee (f:=61) rfl ?_);refine goesL_ (some 82) rfl rfl Try.func61 (by kernel_rfl) rfl #[.int .i64 t10] rfl zs_ ?_;(with_reducible refine (law1_Num.calls t10 t14 _ A31.out).mono ?_);rintro e w' ⟨rfl,⟨nd,rfl⟩⟩;refine ⟨_,rfl, ?_⟩)|(go_at_call 85;(with_reducible refine (law15_awake.calls t15 _ A33.out).mono ?_);rintro e w34 ⟨rfl,hb⟩;have n0_:=am_ (Kd.R_below (zr_ HO_9) hb);have n1_:=am_ (Kd.R_below (zr_ HO_12) hb);have n2_:=am_ (blk_below (zb_ BK6) hb);have n3_:=am_ (below_step (zl1_ HB GE6) hb);clear HO_9;clear HO_12;clear BK6;clear HB;have HO_9:=n0_;have HO_12:=n1_;have BK6:=n2_;have HB:=n3_;clear n0_ n1_ n2_ n3_;(try clear hb);(try clear hb2);(try clear hk);(try clear hi)))
            go_ret
            exact ⟨by first|rfl|(simp [errW_none,errW_some]<;>rfl)|(simp [*,errW_none,errW_some]<;>rfl),zl1_ HB GE6⟩
           ·rw [if_neg c32] at H
            have c32b0:(t14==3)=false:=beq_eq_false_iff_ne.mpr c32
            have c32b1:(t14 !=3)=true:=bne_iff_ne.mpr c32
            obtain rfl:=Option.some.inj H
            go_wp2_with (first|((with_reducible refine gate_callee (f:=50) rfl ?_);refine goesL_ (some 79) rfl rfl Try.func50 (by kernel_rfl) rfl #[.slice Ao14 t2.length co14, .string a1] rfl zs_ ?_;(with_reducible refine (r10_Find.calls kj18 _ _ t2 a1 t13 _ ?side1 ?side2 A29.out).mono ?_);(case side1=>repeat (first|exact (Kd.R_reads' HO_9.out).2.2|(with_reducible refine Kd.C_alloc ?_ _)|(with_reducible refine Kd.C_drewN ?_ _)|(with_reducible refine Kd.C_drew ?_)));(case side2=>exact (Kd.R_reads' HO_9.out).2.1);rintro e w' ⟨rfl,⟨nd,rfl⟩⟩;refine ⟨_,rfl, ?_⟩)|((with_reducible refine gate_callee (f:=61) rfl ?_);refine goesL_ (some 82) rfl rfl Try.func61 (by kernel_rfl) rfl #[.int .i64 t10] rfl zs_ ?_;(with_reducible refine (law1_Num.calls t10 t14 _ A31.out).mono ?_);rintro e w' ⟨rfl,⟨nd,rfl⟩⟩;refine ⟨_,rfl, ?_⟩))
            go_ret
            exact ⟨by first|rfl|(simp [errW_none,errW_some]<;>rfl)|(simp [*,errW_none,errW_some]<;>rfl),zl1_ HB GE6⟩
          ·rw [if_neg c30] at H
           have c30b0:decide (0≤t13)=false:=decide_eq_false c30
           clear c30
           replace H:=Option.bind_eq_some_iff.mp H
           obtain ⟨t16,A350,H⟩:=H
           replace H:((law1_Num.f t10).bind fun t17=>(if t17=0 then ((r10_Right.f kj18 t7).bind fun t18=>(if t18=true then (if t16<0 then (law15_ShapeComes.j3 kj18 a1 t2 t7 true (wrap64 (a3)) 0 0) else (if 0≤t16 then (if t16<(t7.length:Int) then (law15_ShapeComes.j3 kj18 a1 t2 t7 (!((((rd_T31 t7 t16).f0).toList)==a1.toList)||(!((((rd_T31 t7 t16).f1).toList)==x10_11.toList)||((!(((rd_T31 t7 t16).f2.f0)==(wrap64 (a3)))||(!(((rd_T31 t7 t16).f2.f1)==0)||(!(((rd_T31 t7 t16).f2.f2)==0))))||((!(((rd_T31 t7 t16).f3.f0)==0)||(!(((rd_T31 t7 t16).f3.f1)==0)||(!(((rd_T31 t7 t16).f3.f2)==0))))||((!(((rd_T31 t7 t16).f4.f0)==0)||(!(((rd_T31 t7 t16).f4.f1)==0)||(!(((rd_T31 t7 t16).f4.f2)==0))))||(!(((rd_T31 t7 t16).f5)==1))))))) (wrap64 (a3)) 0 0) else (none)) else (none))) else (law15_ShapeComes.j3 kj18 a1 t2 t7 true (wrap64 (a3)) 0 0))) else (law15_ShapeComes.j3 kj18 a1 t2 t7 true (wrap64 (a3)) 0 0)))=some r:=H
           have A35:=Aside0.mk A350
           clear A350
           have HC36:=Aside0.mk H
           clear H
           go_upto_region 14 with (first|((with_reducible refine gate_callee (f:=50) rfl ?_);refine goesL_ (some 79) rfl rfl Try.func50 (by kernel_rfl) rfl #[.slice Ao14 t2.length co14, .string a1] rfl zs_ ?_;(with_reducible refine (r10_Find.calls kj18 _ _ t2 a1 t13 _ ?side1 ?side2 A29.out).mono ?_);(case side1=>repeat (first|exact (Kd.R_reads' HO_9.out).2.2|(with_reducible refine Kd.C_alloc ?_ _)|(with_reducible refine Kd.C_drewN ?_ _)|(with_reducible refine Kd.C_drew ?_)));(case side2=>exact (Kd.R_reads' HO_9.out).2.1);rintro e w' ⟨rfl,⟨nd,rfl⟩⟩;refine ⟨_,rfl, ?_⟩;obtain ⟨Ao37,co37,eo37⟩:=Kd.R_slice HO_12.out;subst eo37)|((with_reducible refine gate_callee (f:=50) rfl ?_);refine goesL_ (some 89) rfl rfl Try.func50 (by kernel_rfl) rfl #[.slice Ao37 t7.length co37, .string a1] rfl zs_ ?_;(with_reducible refine (r10_Find.calls kj18 _ _ t7 a1 t16 _ ?side1 ?side2 A35.out).mono ?_);(case side1=>repeat (first|exact (Kd.R_reads' HO_12.out).2.2|(with_reducible refine Kd.C_alloc ?_ _)|(with_reducible refine Kd.C_drewN ?_ _)|(with_reducible refine Kd.C_drew ?_)));(case side2=>exact (Kd.R_reads' HO_12.out).2.1);rintro e w' ⟨rfl,⟨nd,rfl⟩⟩;refine ⟨_,rfl, ?_⟩))
           (try simp only [Act.put,List.setIfInBounds_toArray,List.set_cons_zero,List.set_cons_succ])
           go_cut [112] (fun v112 wc=> ∃(kq:Nat) (x112_35:Bool),v112= .bool x112_35∧Aside0 (law15_ShapeComes.j3 kq a1 t2 t7 x112_35 (wrap64 (a3)) 0 0=some r)∧Aside0 (kq≤kj18)∧Aside0 (Kd.R k31 31 wc w.heap.size (fun k_=>some k_≠((.slice Ao37 t7.length co37):Value).ownBlock) (.slice Ao14 t2.length co14) t2)∧Aside0 (Kd.R k31 31 wc w.heap.size (fun k_=>some k_≠((.slice Ao14 t2.length co14):Value).ownBlock) (.slice Ao37 t7.length co37) t7)∧Aside0 (wc.heap[gb6]?=some (.cells #[.int .i64 (wrap64 (a3)), .int .i64 0, .int .i64 0] 27 (0,0)))∧Aside0 (Below w.heap.size w wc))
           case first=>
            have H:=HC36.out
            clear HC36
            replace H:=Option.bind_eq_some_iff.mp H
            obtain ⟨t17,A380,H⟩:=H
            replace H:(if t17=0 then ((r10_Right.f kj18 t7).bind fun t18=>(if t18=true then (if t16<0 then (law15_ShapeComes.j3 kj18 a1 t2 t7 true (wrap64 (a3)) 0 0) else (if 0≤t16 then (if t16<(t7.length:Int) then (law15_ShapeComes.j3 kj18 a1 t2 t7 (!((((rd_T31 t7 t16).f0).toList)==a1.toList)||(!((((rd_T31 t7 t16).f1).toList)==x10_11.toList)||((!(((rd_T31 t7 t16).f2.f0)==(wrap64 (a3)))||(!(((rd_T31 t7 t16).f2.f1)==0)||(!(((rd_T31 t7 t16).f2.f2)==0))))||((!(((rd_T31 t7 t16).f3.f0)==0)||(!(((rd_T31 t7 t16).f3.f1)==0)||(!(((rd_T31 t7 t16).f3.f2)==0))))||((!(((rd_T31 t7 t16).f4.f0)==0)||(!(((rd_T31 t7 t16).f4.f1)==0)||(!(((rd_T31 t7 t16).f4.f2)==0))))||(!(((rd_T31 t7 t16).f5)==1))))))) (wrap64 (a3)) 0 0) else (none)) else (none))) else (law15_ShapeComes.j3 kj18 a1 t2 t7 true (wrap64 (a3)) 0 0))) else (law15_ShapeComes.j3 kj18 a1 t2 t7 true (wrap64 (a3)) 0 0))=some r:=H
            have A38:=Aside0.mk A380
            clear A380
            by_cases c39:t17=0
            ·rw [if_pos c39] at H
             have c39b0:(t17==0)=true:=beq_iff_eq.mpr c39
             have c39b1:(t17 !=0)=false:=bne_eq_false_iff_eq.mpr c39
             clear c39
             (first|rw [c39b0]|(simp only [i64_w,i32_w];rw [c39b0])|skip)
             replace H:=Option.bind_eq_some_iff.mp H
             obtain ⟨t18,A400,H⟩:=H
             replace H:(if t18=true then (if t16<0 then (law15_ShapeComes.j3 kj18 a1 t2 t7 true (wrap64 (a3)) 0 0) else (if 0≤t16 then (if t16<(t7.length:Int) then (law15_ShapeComes.j3 kj18 a1 t2 t7 (!((((rd_T31 t7 t16).f0).toList)==a1.toList)||(!((((rd_T31 t7 t16).f1).toList)==x10_11.toList)||((!(((rd_T31 t7 t16).f2.f0)==(wrap64 (a3)))||(!(((rd_T31 t7 t16).f2.f1)==0)||(!(((rd_T31 t7 t16).f2.f2)==0))))||((!(((rd_T31 t7 t16).f3.f0)==0)||(!(((rd_T31 t7 t16).f3.f1)==0)||(!(((rd_T31 t7 t16).f3.f2)==0))))||((!(((rd_T31 t7 t16).f4.f0)==0)||(!(((rd_T31 t7 t16).f4.f1)==0)||(!(((rd_T31 t7 t16).f4.f2)==0))))||(!(((rd_T31 t7 t16).f5)==1))))))) (wrap64 (a3)) 0 0) else (none)) else (none))) else (law15_ShapeComes.j3 kj18 a1 t2 t7 true (wrap64 (a3)) 0 0))=some r:=H
             have A40:=Aside0.mk A400
             clear A400
             by_cases c41:t18=true
             ·subst c41
              have H1:(if t16<0 then (law15_ShapeComes.j3 kj18 a1 t2 t7 true (wrap64 (a3)) 0 0) else (if 0≤t16 then (if t16<(t7.length:Int) then (law15_ShapeComes.j3 kj18 a1 t2 t7 (!((((rd_T31 t7 t16).f0).toList)==a1.toList)||(!((((rd_T31 t7 t16).f1).toList)==x10_11.toList)||((!(((rd_T31 t7 t16).f2.f0)==(wrap64 (a3)))||(!(((rd_T31 t7 t16).f2.f1)==0)||(!(((rd_T31 t7 t16).f2.f2)==0))))||((!(((rd_T31 t7 t16).f3.f0)==0)||(!(((rd_T31 t7 t16).f3.f1)==0)||(!(((rd_T31 t7 t16).f3.f2)==0))))||((!(((rd_T31 t7 t16).f4.f0)==0)||(!(((rd_T31 t7 t16).f4.f1)==0)||(!(((rd_T31 t7 t16).f4.f2)==0))))||(!(((rd_T31 t7 t16).f5)==1))))))) (wrap64 (a3)) 0 0) else (none)) else (none)))=some r:=by rw [if_pos rfl] at H;exact H
              clear H
              have H:=H1
              clear H1
              by_cases c42:t16<0
              ·rw [if_pos c42] at H
               have c42b0:decide (t16<0)=true:=decide_eq_true c42
               clear c42
               have H':=Aside0.mk H
               clear H
               try go_wp2
               refine law15_ShapeComes.gw_ (fun n9_ wc e9_=> ?_)
               replace HO_9:=am_ (Kd.R_drewN HO_9.out n9_)
               replace HO_12:=am_ (Kd.R_drewN HO_12.out n9_)
               replace BK6:=am_ (blk_drewN BK6.out n9_)
               replace HB:=am_ (pw_below_drewN HB.out n9_)
               rw [←e9_] at HO_9 HO_12 BK6 HB
               clear e9_
               have n0_:=am_ (Kd.R_drew HO_9.out)
               have n1_:=am_ (Kd.R_drew HO_12.out)
               have n2_:=am_ (blk_drew BK6.out)
               have n3_:=am_ (below_drew1 HB.out)
               clear HO_9
               clear HO_12
               clear BK6
               clear HB
               have HO_9:=n0_
               have HO_12:=n1_
               have BK6:=n2_
               have HB:=n3_
               clear n0_ n1_ n2_ n3_
               refine start_ (n:=23) (S:=fun w'=>True) (ds:=[]) (bt_ 23 0) (by kernel_rfl) rfl rfl trivial (fun hHeld=> ?_);refine with_tabW law15_ShapeComes.tab14 law15_ShapeComes.bits14 (fun HT_ HW_=> ?_)
               generalize wc.drew=w43 at HO_9 HO_12 BK6 HB hHeld ⊢
               refine pu_ (i:=0) (N:=some 90) (bt_ 23 1) HT_ ?_
               refine one_ (i:=1) (N:=some 91) (bt_ 23 3) rfl rfl (one_of HT_.out (by kernel_rfl)) (by decide) (fun K hK=> ?_)
               refine goes_ Try.func61 (by kernel_rfl) rfl #[.int .i64 t10] (by rfl) rfl rfl zs_ ?_
               with_reducible refine (law1_Num.calls t10 t17 _ A38.out).mono ?_
               rintro e w' ⟨rfl,⟨nd,rfl⟩⟩
               refine ⟨_,rfl, ?_⟩
               refine hK.out _ _ trivial (fun hHeld=> ?_)
               clear hK K
               refine no_ (N:=some 91) ?_
               refine pu_ (i:=2) (N:=some 92) (bt_ 23 7) HT_ ?_
               refine pu_ (i:=3) (N:=some 93) (bt_ 23 15) HT_ ?_
               refine pu_ (i:=4) (N:=some 94) (bt_ 23 31) HT_ ?_
               refine one_ (i:=5) (N:=some 95) (bt_ 23 63) rfl rfl (one_of HT_.out (by kernel_rfl)) (by decide) (fun K hK=> ?_)
               refine goes_ Try.func41 (by kernel_rfl) rfl #[.slice Ao37 t7.length co37] (by rfl) rfl rfl zs_ ?_
               with_reducible refine (r10_Right.calls kj18 _ _ t7 true _ ?side1 ?side2 A40.out).mono ?_
               (case side1=>repeat (first|exact (Kd.R_reads' HO_12.out).2.2|(with_reducible refine Kd.C_alloc ?_ _)|(with_reducible refine Kd.C_drewN ?_ _)|(with_reducible refine Kd.C_drew ?_)))
               (case side2=>exact (Kd.R_reads' HO_12.out).2.1)
               rintro e w44 ⟨rfl,hb⟩
               refine ⟨_,rfl, ?_⟩
               have n0_:=am_ (Kd.R_below (zr_ HO_9) hb)
               have n1_:=am_ (Kd.R_below (zr_ HO_12) hb)
               have n2_:=am_ (blk_below (zb_ BK6) hb)
               have n3_:=am_ (below_step (zl1_ HB GE6) hb)
               clear HO_9
               clear HO_12
               clear BK6
               clear HB
               have HO_9:=n0_
               have HO_12:=n1_
               have BK6:=n2_
               have HB:=n3_
               clear n0_ n1_ n2_ n3_
               (try clear hb)
               (try clear hb2)
               (try clear hk)
               (try clear hi)
               refine hK.out _ _ trivial (fun hHeld=> ?_)
               clear hK K
               refine no_ (N:=some 95) ?_
               refine pu_ (i:=6) (N:=some 96) (bt_ 23 127) HT_ ?_
               refine pu_ (i:=7) (N:=some 97) (bt_ 23 255) HT_ ?_
               refine pu_ (i:=8) (N:=some 98) (bt_ 23 511) HT_ ?_
               refine pu_ (i:=9) (N:=some 99) (bt_ 23 1023) HT_ ?_
               refine pu_ (i:=10) (N:=some 100) (bt_ 23 2047) HT_ ?_
               refine pu_ (i:=11) (N:=some 101) (bt_ 23 4095) HT_ ?_
               refine pu_ (i:=12) (N:=some 102) (bt_ 23 8191) HT_ ?_
               refine pn_ (i:=13) (N:=some 103) (bt_ 23 16383) HT_ ?_
               refine pn_ (i:=14) (N:=some 104) (bt_ 23 32767) HT_ ?_
               refine pn_ (i:=15) (N:=some 105) (bt_ 23 65535) HT_ ?_
               refine pn_ (i:=16) (N:=some 106) (bt_ 23 131071) HT_ ?_
               refine pn_ (i:=17) (N:=some 107) (bt_ 23 262143) HT_ ?_
               refine pn_ (i:=18) (N:=some 108) (bt_ 23 524287) HT_ ?_
               refine pn_ (i:=19) (N:=some 109) (bt_ 23 1048575) HT_ ?_
               refine pn_ (i:=20) (N:=some 110) (bt_ 23 2097151) HT_ ?_
               refine pn_ (i:=21) (N:=some 111) (bt_ 23 4194303) HT_ ?_
               refine pu_ (i:=22) (N:=some 112) (bt_ 23 8388607) HT_ ?_
               refine done_ (done_of HT_.out (by kernel_rfl)) ?_
               try go_wp2
               go_meet
               case rel=>exact ⟨_,(true),(by first|rfl|(simp;done)|(simp [*];done)),H',⟨by have:=HJ4.out;have:=HJ11.out;have:=HJ18.out;first|omega|exact Nat.le_refl _⟩,⟨by (with_reducible repeat (first|apply Kd.R_alloc|apply Kd.R_drewN|apply Kd.R_drew));exact HO_9.out⟩,⟨by (with_reducible repeat (first|apply Kd.R_alloc|apply Kd.R_drewN|apply Kd.R_drew));exact HO_12.out⟩,⟨by refine zk_ ?_;exact BK6.out⟩,⟨zl1_ HB GE6⟩⟩
              ·rw [if_neg c42] at H
               have c42b0:decide (t16<0)=false:=decide_eq_false c42
               clear c42
               by_cases c45:0≤t16
               ·rw [if_pos c45] at H
                have c45b0:decide (0≤t16)=true:=decide_eq_true c45
                clear c45
                by_cases c46:t16<(t7.length:Int)
                ·rw [if_pos c46] at H
                 have c46b0:decide (t16<(t7.length:Int))=true:=decide_eq_true c46
                 clear c46
                 have H':=Aside0.mk H
                 clear H
                 try go_wp2
                 refine law15_ShapeComes.gw_ (fun n9_ wc e9_=> ?_)
                 replace HO_9:=am_ (Kd.R_drewN HO_9.out n9_)
                 replace HO_12:=am_ (Kd.R_drewN HO_12.out n9_)
                 replace BK6:=am_ (blk_drewN BK6.out n9_)
                 replace HB:=am_ (pw_below_drewN HB.out n9_)
                 rw [←e9_] at HO_9 HO_12 BK6 HB
                 clear e9_
                 have n0_:=am_ (Kd.R_drew HO_9.out)
                 have n1_:=am_ (Kd.R_drew HO_12.out)
                 have n2_:=am_ (blk_drew BK6.out)
                 have n3_:=am_ (below_drew1 HB.out)
                 clear HO_9
                 clear HO_12
                 clear BK6
                 clear HB
                 have HO_9:=n0_
                 have HO_12:=n1_
                 have BK6:=n2_
                 have HB:=n3_
                 clear n0_ n1_ n2_ n3_
                 have p19:0≤(t16:Int):=of_decide_eq_true zq_
                 have q19:t16<(t7.length:Int):=of_decide_eq_true zq_
                 obtain ⟨ad19,e19,hx19_0,hx19_1,hx19_2,hx19_3,hx19_4,hx19_5,hx19_6,hx19_7,hx19_8,hx19_9,hx19_10,hx19_11⟩:=at_T31 (Kd.R_reads' HO_12.out).2.2 t16 p19 q19
                 cases e19
                 replace p19:=eq_true p19
                 replace q19:=eq_true q19
                 refine start_ (n:=23) (S:=fun w'=>w'.cell? ⟨gb6,0,none⟩=some (.int .i64 (wrap64 (a3)))∧w'.cell? ⟨gb6,1,none⟩=some (.int .i64 0)∧w'.cell? ⟨gb6,2,none⟩=some (.int .i64 0)∧w'.cell? (ad19.add ((t16).toNat*12))=some (.string ((rd_T31 t7 t16).f0))∧w'.cell? ⟨(ad19.add ((t16).toNat*12)).block,(ad19.add ((t16).toNat*12)).off+1,none⟩=some (.string ((rd_T31 t7 t16).f1))∧w'.cell? ⟨(ad19.add ((t16).toNat*12)).block,(ad19.add ((t16).toNat*12)).off+2,none⟩=some (.int .i64 ((rd_T31 t7 t16).f2.f0))∧w'.cell? ⟨(ad19.add ((t16).toNat*12)).block,(ad19.add ((t16).toNat*12)).off+3,none⟩=some (.int .i64 ((rd_T31 t7 t16).f2.f1))∧w'.cell? ⟨(ad19.add ((t16).toNat*12)).block,(ad19.add ((t16).toNat*12)).off+4,none⟩=some (.int .i64 ((rd_T31 t7 t16).f2.f2))∧w'.cell? ⟨(ad19.add ((t16).toNat*12)).block,(ad19.add ((t16).toNat*12)).off+5,none⟩=some (.int .i64 ((rd_T31 t7 t16).f3.f0))∧w'.cell? ⟨(ad19.add ((t16).toNat*12)).block,(ad19.add ((t16).toNat*12)).off+6,none⟩=some (.int .i64 ((rd_T31 t7 t16).f3.f1))∧w'.cell? ⟨(ad19.add ((t16).toNat*12)).block,(ad19.add ((t16).toNat*12)).off+7,none⟩=some (.int .i64 ((rd_T31 t7 t16).f3.f2))∧w'.cell? ⟨(ad19.add ((t16).toNat*12)).block,(ad19.add ((t16).toNat*12)).off+8,none⟩=some (.int .i64 ((rd_T31 t7 t16).f4.f0))∧w'.cell? ⟨(ad19.add ((t16).toNat*12)).block,(ad19.add ((t16).toNat*12)).off+9,none⟩=some (.int .i64 ((rd_T31 t7 t16).f4.f1))∧w'.cell? ⟨(ad19.add ((t16).toNat*12)).block,(ad19.add ((t16).toNat*12)).off+10,none⟩=some (.int .i64 ((rd_T31 t7 t16).f4.f2))∧w'.cell? ⟨(ad19.add ((t16).toNat*12)).block,(ad19.add ((t16).toNat*12)).off+11,none⟩=some (.int .i64 ((rd_T31 t7 t16).f5))) (ds:=[]) (bt_ 23 0) (by kernel_rfl) rfl rfl ⟨(blk_cell BK6.out 0).trans rfl,(blk_cell BK6.out 1).trans rfl,(blk_cell BK6.out 2).trans rfl,hx19_0,hx19_1,hx19_2,hx19_3,hx19_4,hx19_5,hx19_6,hx19_7,hx19_8,hx19_9,hx19_10,hx19_11⟩ (fun hHeld=> ?_);refine with_tabW law15_ShapeComes.tab14 law15_ShapeComes.bits14 (fun HT_ HW_=> ?_)
                 generalize wc.drew=w47 at HO_9 HO_12 BK6 HB hx19_0 hx19_1 hx19_10 hx19_11 hx19_2 hx19_3 hx19_4 hx19_5 hx19_6 hx19_7 hx19_8 hx19_9 hHeld ⊢
                 refine pu_ (i:=0) (N:=some 90) (bt_ 23 1) HT_ ?_
                 refine one_ (i:=1) (N:=some 91) (bt_ 23 3) rfl rfl (one_of HT_.out (by kernel_rfl)) (by decide) (fun K hK=> ?_)
                 refine goes_ Try.func61 (by kernel_rfl) rfl #[.int .i64 t10] (by rfl) rfl rfl zs_ ?_
                 with_reducible refine (law1_Num.calls t10 t17 _ A38.out).mono ?_
                 rintro e w' ⟨rfl,⟨nd,rfl⟩⟩
                 refine ⟨_,rfl, ?_⟩
                 refine hK.out _ _ ⟨(blk_cell BK6.out 0).trans rfl,(blk_cell BK6.out 1).trans rfl,(blk_cell BK6.out 2).trans rfl,hHeld.2.2.2.1,hHeld.2.2.2.2.1,hHeld.2.2.2.2.2.1,hHeld.2.2.2.2.2.2.1,hHeld.2.2.2.2.2.2.2.1,hHeld.2.2.2.2.2.2.2.2.1,hHeld.2.2.2.2.2.2.2.2.2.1,hHeld.2.2.2.2.2.2.2.2.2.2.1,hHeld.2.2.2.2.2.2.2.2.2.2.2.1,hHeld.2.2.2.2.2.2.2.2.2.2.2.2.1,hHeld.2.2.2.2.2.2.2.2.2.2.2.2.2.1,hHeld.2.2.2.2.2.2.2.2.2.2.2.2.2.2⟩ (fun hHeld=> ?_)
                 clear hK K
                 refine no_ (N:=some 91) ?_
                 refine pu_ (i:=2) (N:=some 92) (bt_ 23 7) HT_ ?_
                 refine pu_ (i:=3) (N:=some 93) (bt_ 23 15) HT_ ?_
                 refine pu_ (i:=4) (N:=some 94) (bt_ 23 31) HT_ ?_
                 refine one_ (i:=5) (N:=some 95) (bt_ 23 63) rfl rfl (one_of HT_.out (by kernel_rfl)) (by decide) (fun K hK=> ?_)
                 refine goes_ Try.func41 (by kernel_rfl) rfl #[.slice (some ad19) t7.length co37] (by rfl) rfl rfl zs_ ?_
                 with_reducible refine (r10_Right.calls kj18 _ _ t7 true _ ?side1 ?side2 A40.out).mono ?_
                 (case side1=>repeat (first|exact (Kd.R_reads' HO_12.out).2.2|(with_reducible refine Kd.C_alloc ?_ _)|(with_reducible refine Kd.C_drewN ?_ _)|(with_reducible refine Kd.C_drew ?_)))
                 (case side2=>exact (Kd.R_reads' HO_12.out).2.1)
                 rintro e w48 ⟨rfl,hb⟩
                 have HS3_:=zh_ hb (hHeld.2.2.2.1)
                 have HS4_:=zh_ hb (hHeld.2.2.2.2.1)
                 have HS5_:=zh_ hb (hHeld.2.2.2.2.2.1)
                 have HS6_:=zh_ hb (hHeld.2.2.2.2.2.2.1)
                 have HS7_:=zh_ hb (hHeld.2.2.2.2.2.2.2.1)
                 have HS8_:=zh_ hb (hHeld.2.2.2.2.2.2.2.2.1)
                 have HS9_:=zh_ hb (hHeld.2.2.2.2.2.2.2.2.2.1)
                 have HS10_:=zh_ hb (hHeld.2.2.2.2.2.2.2.2.2.2.1)
                 have HS11_:=zh_ hb (hHeld.2.2.2.2.2.2.2.2.2.2.2.1)
                 have HS12_:=zh_ hb (hHeld.2.2.2.2.2.2.2.2.2.2.2.2.1)
                 have HS13_:=zh_ hb (hHeld.2.2.2.2.2.2.2.2.2.2.2.2.2.1)
                 have HS14_:=zh_ hb (hHeld.2.2.2.2.2.2.2.2.2.2.2.2.2.2)
                 refine ⟨_,rfl, ?_⟩
                 have n0_:=am_ (Kd.R_below (zr_ HO_9) hb)
                 have n1_:=am_ (Kd.R_below (zr_ HO_12) hb)
                 have n2_:=am_ (blk_below (zb_ BK6) hb)
                 have n3_:=am_ (below_step (zl1_ HB GE6) hb)
                 clear HO_9
                 clear HO_12
                 clear BK6
                 clear HB
                 have HO_9:=n0_
                 have HO_12:=n1_
                 have BK6:=n2_
                 have HB:=n3_
                 clear n0_ n1_ n2_ n3_
                 (try clear hb)
                 (try clear hb2)
                 (try clear hk)
                 (try clear hi)
                 refine hK.out _ _ ⟨(blk_cell BK6.out 0).trans rfl,(blk_cell BK6.out 1).trans rfl,(blk_cell BK6.out 2).trans rfl,HS3_,HS4_,HS5_,HS6_,HS7_,HS8_,HS9_,HS10_,HS11_,HS12_,HS13_,HS14_⟩ (fun hHeld=> ?_)
                 clear hK K
                 refine no_ (N:=some 95) ?_
                 refine pu_ (i:=6) (N:=some 96) (bt_ 23 127) HT_ ?_
                 refine pu_ (i:=7) (N:=some 97) (bt_ 23 255) HT_ ?_
                 refine pu_ (i:=8) (N:=some 98) (bt_ 23 511) HT_ ?_
                 refine pu_ (i:=9) (N:=some 99) (bt_ 23 1023) HT_ ?_
                 refine pu_ (i:=10) (N:=some 100) (bt_ 23 2047) HT_ ?_
                 refine pu_ (i:=11) (N:=some 101) (bt_ 23 4095) HT_ ?_
                 refine pu_ (i:=12) (N:=some 102) (bt_ 23 8191) HT_ ?_
                 refine pu_ (i:=13) (N:=some 103) (bt_ 23 16383) HT_ ?_
                 refine pu_ (i:=14) (N:=some 104) (bt_ 23 32767) HT_ ?_
                 refine pu_ (i:=15) (N:=some 105) (bt_ 23 65535) HT_ ?_
                 refine pu_ (i:=17) (N:=some 107) (bt_ 23 196607) HT_ ?_
                 refine pu_ (i:=18) (N:=some 108) (bt_ 23 458751) HT_ ?_
                 refine tk_ (i:=16) (N:=some 106) (bt_ 23 524287) HT_ HW_ hHeld ?_
                 refine tk_ (i:=19) (N:=some 109) (bt_ 23 1048575) HT_ HW_ hHeld ?_
                 refine pu_ (i:=20) (N:=some 110) (bt_ 23 2097151) HT_ ?_
                 refine pu_ (i:=21) (N:=some 111) (bt_ 23 4194303) HT_ ?_
                 refine pu_ (i:=22) (N:=some 112) (bt_ 23 8388607) HT_ ?_
                 refine done_ (done_of HT_.out (by kernel_rfl)) ?_
                 try go_wp2
                 go_meet
                 case rel=>exact ⟨_,((!((((rd_T31 t7 t16).f0).toList)==a1.toList)||(!((((rd_T31 t7 t16).f1).toList)==x10_11.toList)||((!(((rd_T31 t7 t16).f2.f0)==(wrap64 (a3)))||(!(((rd_T31 t7 t16).f2.f1)==0)||(!(((rd_T31 t7 t16).f2.f2)==0))))||((!(((rd_T31 t7 t16).f3.f0)==0)||(!(((rd_T31 t7 t16).f3.f1)==0)||(!(((rd_T31 t7 t16).f3.f2)==0))))||((!(((rd_T31 t7 t16).f4.f0)==0)||(!(((rd_T31 t7 t16).f4.f1)==0)||(!(((rd_T31 t7 t16).f4.f2)==0))))||(!(((rd_T31 t7 t16).f5)==1)))))))),(by first|rfl|(simp;done)|(simp [*];done)),H',⟨by have:=HJ4.out;have:=HJ11.out;have:=HJ18.out;first|omega|exact Nat.le_refl _⟩,⟨by (with_reducible repeat (first|apply Kd.R_alloc|apply Kd.R_drewN|apply Kd.R_drew));exact HO_9.out⟩,⟨by (with_reducible repeat (first|apply Kd.R_alloc|apply Kd.R_drewN|apply Kd.R_drew));exact HO_12.out⟩,⟨by refine zk_ ?_;exact BK6.out⟩,⟨zl1_ HB GE6⟩⟩
                ·rw [if_neg c46] at H
                 exact absurd H (by simp)
               ·rw [if_neg c45] at H
                exact absurd H (by simp)
             ·replace c41:=Bool.eq_false_iff.mpr c41
              subst c41
              have H1:(law15_ShapeComes.j3 kj18 a1 t2 t7 true (wrap64 (a3)) 0 0)=some r:=by rw [if_neg (show¬(false=true) by decide)] at H;exact H
              clear H
              have H:=H1
              clear H1
              have H':=Aside0.mk H
              clear H
              try go_wp2
              refine law15_ShapeComes.gw_ (fun n9_ wc e9_=> ?_)
              replace HO_9:=am_ (Kd.R_drewN HO_9.out n9_)
              replace HO_12:=am_ (Kd.R_drewN HO_12.out n9_)
              replace BK6:=am_ (blk_drewN BK6.out n9_)
              replace HB:=am_ (pw_below_drewN HB.out n9_)
              rw [←e9_] at HO_9 HO_12 BK6 HB
              clear e9_
              have n0_:=am_ (Kd.R_drew HO_9.out)
              have n1_:=am_ (Kd.R_drew HO_12.out)
              have n2_:=am_ (blk_drew BK6.out)
              have n3_:=am_ (below_drew1 HB.out)
              clear HO_9
              clear HO_12
              clear BK6
              clear HB
              have HO_9:=n0_
              have HO_12:=n1_
              have BK6:=n2_
              have HB:=n3_
              clear n0_ n1_ n2_ n3_
              refine start_ (n:=23) (S:=fun w'=>True) (ds:=[]) (bt_ 23 0) (by kernel_rfl) rfl rfl trivial (fun hHeld=> ?_);refine with_tabW law15_ShapeComes.tab14 law15_ShapeComes.bits14 (fun HT_ HW_=> ?_)
              generalize wc.drew=w49 at HO_9 HO_12 BK6 HB hHeld ⊢
              refine pu_ (i:=0) (N:=some 90) (bt_ 23 1) HT_ ?_
              refine one_ (i:=1) (N:=some 91) (bt_ 23 3) rfl rfl (one_of HT_.out (by kernel_rfl)) (by decide) (fun K hK=> ?_)
              refine goes_ Try.func61 (by kernel_rfl) rfl #[.int .i64 t10] (by rfl) rfl rfl zs_ ?_
              with_reducible refine (law1_Num.calls t10 t17 _ A38.out).mono ?_
              rintro e w' ⟨rfl,⟨nd,rfl⟩⟩
              refine ⟨_,rfl, ?_⟩
              refine hK.out _ _ trivial (fun hHeld=> ?_)
              clear hK K
              refine no_ (N:=some 91) ?_
              refine pu_ (i:=2) (N:=some 92) (bt_ 23 7) HT_ ?_
              refine pu_ (i:=3) (N:=some 93) (bt_ 23 15) HT_ ?_
              refine pu_ (i:=4) (N:=some 94) (bt_ 23 31) HT_ ?_
              refine one_ (i:=5) (N:=some 95) (bt_ 23 63) rfl rfl (one_of HT_.out (by kernel_rfl)) (by decide) (fun K hK=> ?_)
              refine goes_ Try.func41 (by kernel_rfl) rfl #[.slice Ao37 t7.length co37] (by rfl) rfl rfl zs_ ?_
              with_reducible refine (r10_Right.calls kj18 _ _ t7 false _ ?side1 ?side2 A40.out).mono ?_
              (case side1=>repeat (first|exact (Kd.R_reads' HO_12.out).2.2|(with_reducible refine Kd.C_alloc ?_ _)|(with_reducible refine Kd.C_drewN ?_ _)|(with_reducible refine Kd.C_drew ?_)))
              (case side2=>exact (Kd.R_reads' HO_12.out).2.1)
              rintro e w50 ⟨rfl,hb⟩
              refine ⟨_,rfl, ?_⟩
              have n0_:=am_ (Kd.R_below (zr_ HO_9) hb)
              have n1_:=am_ (Kd.R_below (zr_ HO_12) hb)
              have n2_:=am_ (blk_below (zb_ BK6) hb)
              have n3_:=am_ (below_step (zl1_ HB GE6) hb)
              clear HO_9
              clear HO_12
              clear BK6
              clear HB
              have HO_9:=n0_
              have HO_12:=n1_
              have BK6:=n2_
              have HB:=n3_
              clear n0_ n1_ n2_ n3_
              (try clear hb)
              (try clear hb2)
              (try clear hk)
              (try clear hi)
              refine hK.out _ _ trivial (fun hHeld=> ?_)
              clear hK K
              refine no_ (N:=some 95) ?_
              refine pu_ (i:=6) (N:=some 96) (bt_ 23 127) HT_ ?_
              refine pu_ (i:=7) (N:=some 97) (bt_ 23 255) HT_ ?_
              refine pu_ (i:=8) (N:=some 98) (bt_ 23 511) HT_ ?_
              refine pn_ (i:=9) (N:=some 99) (bt_ 23 1023) HT_ ?_
              refine pn_ (i:=10) (N:=some 100) (bt_ 23 2047) HT_ ?_
              refine pu_ (i:=11) (N:=some 101) (bt_ 23 4095) HT_ ?_
              refine pu_ (i:=12) (N:=some 102) (bt_ 23 8191) HT_ ?_
              refine pn_ (i:=13) (N:=some 103) (bt_ 23 16383) HT_ ?_
              refine pn_ (i:=14) (N:=some 104) (bt_ 23 32767) HT_ ?_
              refine pn_ (i:=15) (N:=some 105) (bt_ 23 65535) HT_ ?_
              refine pn_ (i:=16) (N:=some 106) (bt_ 23 131071) HT_ ?_
              refine pn_ (i:=17) (N:=some 107) (bt_ 23 262143) HT_ ?_
              refine pn_ (i:=18) (N:=some 108) (bt_ 23 524287) HT_ ?_
              refine pn_ (i:=19) (N:=some 109) (bt_ 23 1048575) HT_ ?_
              refine pn_ (i:=20) (N:=some 110) (bt_ 23 2097151) HT_ ?_
              refine pn_ (i:=21) (N:=some 111) (bt_ 23 4194303) HT_ ?_
              refine pu_ (i:=22) (N:=some 112) (bt_ 23 8388607) HT_ ?_
              refine done_ (done_of HT_.out (by kernel_rfl)) ?_
              try go_wp2
              go_meet
              case rel=>exact ⟨_,(true),(by first|rfl|(simp;done)|(simp [*];done)),H',⟨by have:=HJ4.out;have:=HJ11.out;have:=HJ18.out;first|omega|exact Nat.le_refl _⟩,⟨by (with_reducible repeat (first|apply Kd.R_alloc|apply Kd.R_drewN|apply Kd.R_drew));exact HO_9.out⟩,⟨by (with_reducible repeat (first|apply Kd.R_alloc|apply Kd.R_drewN|apply Kd.R_drew));exact HO_12.out⟩,⟨by refine zk_ ?_;exact BK6.out⟩,⟨zl1_ HB GE6⟩⟩
            ·rw [if_neg c39] at H
             have c39b0:(t17==0)=false:=beq_eq_false_iff_ne.mpr c39
             have c39b1:(t17 !=0)=true:=bne_iff_ne.mpr c39
             (first|rw [c39b0]|(simp only [i64_w,i32_w];rw [c39b0])|skip)
             have H':=Aside0.mk H
             clear H
             try go_wp2
             refine law15_ShapeComes.gw_ (fun n9_ wc e9_=> ?_)
             replace HO_9:=am_ (Kd.R_drewN HO_9.out n9_)
             replace HO_12:=am_ (Kd.R_drewN HO_12.out n9_)
             replace BK6:=am_ (blk_drewN BK6.out n9_)
             replace HB:=am_ (pw_below_drewN HB.out n9_)
             rw [←e9_] at HO_9 HO_12 BK6 HB
             clear e9_
             have n0_:=am_ (Kd.R_drew HO_9.out)
             have n1_:=am_ (Kd.R_drew HO_12.out)
             have n2_:=am_ (blk_drew BK6.out)
             have n3_:=am_ (below_drew1 HB.out)
             clear HO_9
             clear HO_12
             clear BK6
             clear HB
             have HO_9:=n0_
             have HO_12:=n1_
             have BK6:=n2_
             have HB:=n3_
             clear n0_ n1_ n2_ n3_
             refine start_ (n:=23) (S:=fun w'=>True) (ds:=[]) (bt_ 23 0) (by kernel_rfl) rfl rfl trivial (fun hHeld=> ?_);refine with_tabW law15_ShapeComes.tab14 law15_ShapeComes.bits14 (fun HT_ HW_=> ?_)
             generalize wc.drew=w51 at HO_9 HO_12 BK6 HB hHeld ⊢
             refine pu_ (i:=0) (N:=some 90) (bt_ 23 1) HT_ ?_
             refine one_ (i:=1) (N:=some 91) (bt_ 23 3) rfl rfl (one_of HT_.out (by kernel_rfl)) (by decide) (fun K hK=> ?_)
             refine goes_ Try.func61 (by kernel_rfl) rfl #[.int .i64 t10] (by rfl) rfl rfl zs_ ?_
             with_reducible refine (law1_Num.calls t10 t17 _ A38.out).mono ?_
             rintro e w' ⟨rfl,⟨nd,rfl⟩⟩
             refine ⟨_,rfl, ?_⟩
             refine hK.out _ _ trivial (fun hHeld=> ?_)
             clear hK K
             refine no_ (N:=some 91) ?_
             refine pu_ (i:=2) (N:=some 92) (bt_ 23 7) HT_ ?_
             refine pu_ (i:=3) (N:=some 93) (bt_ 23 15) HT_ ?_
             refine pn_ (i:=4) (N:=some 94) (bt_ 23 31) HT_ ?_
             refine pn_ (i:=5) (N:=some 95) (bt_ 23 63) HT_ ?_
             refine pn_ (i:=6) (N:=some 96) (bt_ 23 127) HT_ ?_
             refine pu_ (i:=7) (N:=some 97) (bt_ 23 255) HT_ ?_
             refine pu_ (i:=8) (N:=some 98) (bt_ 23 511) HT_ ?_
             refine pn_ (i:=9) (N:=some 99) (bt_ 23 1023) HT_ ?_
             refine pn_ (i:=10) (N:=some 100) (bt_ 23 2047) HT_ ?_
             refine pu_ (i:=11) (N:=some 101) (bt_ 23 4095) HT_ ?_
             refine pu_ (i:=12) (N:=some 102) (bt_ 23 8191) HT_ ?_
             refine pn_ (i:=13) (N:=some 103) (bt_ 23 16383) HT_ ?_
             refine pn_ (i:=14) (N:=some 104) (bt_ 23 32767) HT_ ?_
             refine pn_ (i:=15) (N:=some 105) (bt_ 23 65535) HT_ ?_
             refine pn_ (i:=16) (N:=some 106) (bt_ 23 131071) HT_ ?_
             refine pn_ (i:=17) (N:=some 107) (bt_ 23 262143) HT_ ?_
             refine pn_ (i:=18) (N:=some 108) (bt_ 23 524287) HT_ ?_
             refine pn_ (i:=19) (N:=some 109) (bt_ 23 1048575) HT_ ?_
             refine pn_ (i:=20) (N:=some 110) (bt_ 23 2097151) HT_ ?_
             refine pn_ (i:=21) (N:=some 111) (bt_ 23 4194303) HT_ ?_
             refine pu_ (i:=22) (N:=some 112) (bt_ 23 8388607) HT_ ?_
             refine done_ (done_of HT_.out (by kernel_rfl)) ?_
             try go_wp2
             go_meet
             case rel=>exact ⟨_,(true),(by first|rfl|(simp;done)|(simp [*];done)),H',⟨by have:=HJ4.out;have:=HJ11.out;have:=HJ18.out;first|omega|exact Nat.le_refl _⟩,⟨by (with_reducible repeat (first|apply Kd.R_alloc|apply Kd.R_drewN|apply Kd.R_drew));exact HO_9.out⟩,⟨by (with_reducible repeat (first|apply Kd.R_alloc|apply Kd.R_drewN|apply Kd.R_drew));exact HO_12.out⟩,⟨by refine zk_ ?_;exact BK6.out⟩,⟨zl1_ HB GE6⟩⟩
           case rest=>
            clear HC36
            try clear p1
            try clear q1
            try clear hx1
            try clear p2
            try clear c3
            try clear c4
            try clear c6
            try clear p6
            try clear p19
            try clear q19
            try clear hx19
            try clear c39
            try clear c39b0
            try clear c39b1
            try clear c41
            try clear c45
            try clear c46
            try clear hx19_0
            try clear hx19_1
            try clear hx19_10
            try clear hx19_11
            try clear hx19_2
            try clear hx19_3
            try clear hx19_4
            try clear hx19_5
            try clear hx19_6
            try clear hx19_7
            try clear hx19_8
            try clear hx19_9
            try clear p19
            try clear q19
            obtain ⟨kq,x112_35,rfl,HA,HJ35,HO_9,HO_12,BK6,HB⟩:=hcut
            cases kq with
            |zero=>exact absurd HA.out (by simp [law15_ShapeComes.j3])
            |succ kj35=>
             have H:=HA.out
             clear HA
             simp only [law15_ShapeComes.j3] at H
             by_cases c52:x112_35=true
             ·subst c52
              have H1:(some false)=some r:=by rw [if_pos rfl] at H;exact H
              clear H
              have H:=H1
              clear H1
              obtain rfl:=Option.some.inj H
              go_wp2
              go_ret
              exact ⟨by first|rfl|(simp [errW_none,errW_some]<;>rfl)|(simp [*,errW_none,errW_some]<;>rfl),zl1_ HB GE6⟩
             ·replace c52:=Bool.eq_false_iff.mpr c52
              subst c52
              have H1:((shape_Delete.f kj35 t7 a1 1).bind fun bt20=>((shape_Create.f t2 a1 (⟨#[110,111,110,101]⟩:ByteArray) (wrap64 (a3)) 0 0).bind fun bt24=>((shape_Delete.f kj35 t7 a1 2).bind fun bt28=>((law1_Num.f bt20.2).bind fun t32=>(if t32=0 then ((r10_SameItems.f kj35 bt20.1 t2).bind fun t33=>(if t33=true then ((law1_Num.f bt24.2).bind fun t34=>(if t34=2 then ((law1_Num.f bt28.2).bind fun t35=>(if t35=14 then ((law15_awake.f).bind fun t36=>(some t36)) else (some false))) else (if a1.toList=([110,111,110,101]:List UInt8) then ((law1_Num.f bt28.2).bind fun t37=>(if t37=14 then ((law15_awake.f).bind fun t38=>(some t38)) else (some false))) else (some false)))) else (some false))) else (some false))))))=some r:=by rw [if_neg (show¬(false=true) by decide)] at H;exact H
              clear H
              have H:=H1
              clear H1
              replace H:=Option.bind_eq_some_iff.mp H
              obtain ⟨⟨t20,t21⟩,A530,H⟩:=H
              replace H:((shape_Create.f t2 a1 (⟨#[110,111,110,101]⟩:ByteArray) (wrap64 (a3)) 0 0).bind fun bt24=>((shape_Delete.f kj35 t7 a1 2).bind fun bt28=>((law1_Num.f t21).bind fun t32=>(if t32=0 then ((r10_SameItems.f kj35 t20 t2).bind fun t33=>(if t33=true then ((law1_Num.f bt24.2).bind fun t34=>(if t34=2 then ((law1_Num.f bt28.2).bind fun t35=>(if t35=14 then ((law15_awake.f).bind fun t36=>(some t36)) else (some false))) else (if a1.toList=([110,111,110,101]:List UInt8) then ((law1_Num.f bt28.2).bind fun t37=>(if t37=14 then ((law15_awake.f).bind fun t38=>(some t38)) else (some false))) else (some false)))) else (some false))) else (some false)))))=some r:=H
              have A53:=Aside0.mk A530
              clear A530
              replace H:=Option.bind_eq_some_iff.mp H
              obtain ⟨⟨t24,t27⟩,A540,H⟩:=H
              replace H:((shape_Delete.f kj35 t7 a1 2).bind fun bt28=>((law1_Num.f t21).bind fun t32=>(if t32=0 then ((r10_SameItems.f kj35 t20 t2).bind fun t33=>(if t33=true then ((law1_Num.f t27).bind fun t34=>(if t34=2 then ((law1_Num.f bt28.2).bind fun t35=>(if t35=14 then ((law15_awake.f).bind fun t36=>(some t36)) else (some false))) else (if a1.toList=([110,111,110,101]:List UInt8) then ((law1_Num.f bt28.2).bind fun t37=>(if t37=14 then ((law15_awake.f).bind fun t38=>(some t38)) else (some false))) else (some false)))) else (some false))) else (some false))))=some r:=H
              have A54:=Aside0.mk A540
              clear A540
              replace H:=Option.bind_eq_some_iff.mp H
              obtain ⟨⟨t28,t29⟩,A550,H⟩:=H
              replace H:((law1_Num.f t21).bind fun t32=>(if t32=0 then ((r10_SameItems.f kj35 t20 t2).bind fun t33=>(if t33=true then ((law1_Num.f t27).bind fun t34=>(if t34=2 then ((law1_Num.f t29).bind fun t35=>(if t35=14 then ((law15_awake.f).bind fun t36=>(some t36)) else (some false))) else (if a1.toList=([110,111,110,101]:List UInt8) then ((law1_Num.f t29).bind fun t37=>(if t37=14 then ((law15_awake.f).bind fun t38=>(some t38)) else (some false))) else (some false)))) else (some false))) else (some false)))=some r:=H
              have A55:=Aside0.mk A550
              clear A550
              replace H:=Option.bind_eq_some_iff.mp H
              obtain ⟨t32,A560,H⟩:=H
              replace H:(if t32=0 then ((r10_SameItems.f kj35 t20 t2).bind fun t33=>(if t33=true then ((law1_Num.f t27).bind fun t34=>(if t34=2 then ((law1_Num.f t29).bind fun t35=>(if t35=14 then ((law15_awake.f).bind fun t36=>(some t36)) else (some false))) else (if a1.toList=([110,111,110,101]:List UInt8) then ((law1_Num.f t29).bind fun t37=>(if t37=14 then ((law15_awake.f).bind fun t38=>(some t38)) else (some false))) else (some false)))) else (some false))) else (some false))=some r:=H
              have A56:=Aside0.mk A560
              clear A560
              by_cases c57:t32=0
              ·rw [if_pos c57] at H
               have c57b0:(t32==0)=true:=beq_iff_eq.mpr c57
               have c57b1:(t32 !=0)=false:=bne_eq_false_iff_eq.mpr c57
               clear c57
               replace H:=Option.bind_eq_some_iff.mp H
               obtain ⟨t33,A580,H⟩:=H
               replace H:(if t33=true then ((law1_Num.f t27).bind fun t34=>(if t34=2 then ((law1_Num.f t29).bind fun t35=>(if t35=14 then ((law15_awake.f).bind fun t36=>(some t36)) else (some false))) else (if a1.toList=([110,111,110,101]:List UInt8) then ((law1_Num.f t29).bind fun t37=>(if t37=14 then ((law15_awake.f).bind fun t38=>(some t38)) else (some false))) else (some false)))) else (some false))=some r:=H
               have A58:=Aside0.mk A580
               clear A580
               by_cases c59:t33=true
               ·subst c59
                have H1:((law1_Num.f t27).bind fun t34=>(if t34=2 then ((law1_Num.f t29).bind fun t35=>(if t35=14 then ((law15_awake.f).bind fun t36=>(some t36)) else (some false))) else (if a1.toList=([110,111,110,101]:List UInt8) then ((law1_Num.f t29).bind fun t37=>(if t37=14 then ((law15_awake.f).bind fun t38=>(some t38)) else (some false))) else (some false))))=some r:=by rw [if_pos rfl] at H;exact H
                clear H
                have H:=H1
                clear H1
                replace H:=Option.bind_eq_some_iff.mp H
                obtain ⟨t34,A600,H⟩:=H
                replace H:(if t34=2 then ((law1_Num.f t29).bind fun t35=>(if t35=14 then ((law15_awake.f).bind fun t36=>(some t36)) else (some false))) else (if a1.toList=([110,111,110,101]:List UInt8) then ((law1_Num.f t29).bind fun t37=>(if t37=14 then ((law15_awake.f).bind fun t38=>(some t38)) else (some false))) else (some false)))=some r:=H
                have A60:=Aside0.mk A600
                clear A600
                by_cases c61:t34=2
                ·rw [if_pos c61] at H
                 have c61b0:(t34==2)=true:=beq_iff_eq.mpr c61
                 have c61b1:(t34 !=2)=false:=bne_eq_false_iff_eq.mpr c61
                 clear c61
                 replace H:=Option.bind_eq_some_iff.mp H
                 obtain ⟨t35,A620,H⟩:=H
                 replace H:(if t35=14 then ((law15_awake.f).bind fun t36=>(some t36)) else (some false))=some r:=H
                 have A62:=Aside0.mk A620
                 clear A620
                 by_cases c63:t35=14
                 ·rw [if_pos c63] at H
                  have c63b0:(t35==14)=true:=beq_iff_eq.mpr c63
                  have c63b1:(t35 !=14)=false:=bne_eq_false_iff_eq.mpr c63
                  clear c63
                  replace H:=Option.bind_eq_some_iff.mp H
                  obtain ⟨t36,A640,H⟩:=H
                  replace H:(some t36)=some r:=H
                  have A64:=Aside0.mk A640
                  clear A640
                  obtain rfl:=Option.some.inj H
                  go_wp2_with (first|((with_reducible refine gate_callee (f:=86) rfl ?_);refine goesL_ (some 116) rfl rfl Try.func86 (by kernel_rfl) rfl #[.slice Ao37 t7.length co37, .string a1, .int .i64 1] rfl zs_ ?_;(with_reducible refine (shape_Delete.calls kj35 _ _ t7 a1 1 t20 t21 _ ?side1 ?side2 A53.out).mono ?_);(case side1=>repeat (first|exact (Kd.R_reads' HO_12.out).2.2|(with_reducible refine Kd.C_alloc ?_ _)|(with_reducible refine Kd.C_drewN ?_ _)|(with_reducible refine Kd.C_drew ?_)));(case side2=>exact (Kd.R_reads' HO_12.out).2.1);rintro e w65 ⟨v22,rfl,ho0,hb⟩;refine ⟨_,rfl, ?_⟩;have n0_:=am_ (Kd.R_elder' (zr_ HO_9) (Kd.R_base ho0) hb);have n1_:=am_ (Kd.R_elder' (zr_ HO_12) (Kd.R_base ho0) hb);have n2_:=am_ (Kd.R_lower (Kd.R_new' (Kd.R_new' ho0 (Kd.R_lt (zr_ HO_9))) (Kd.R_lt (zr_ HO_12))) (below_size (zl1_ HB GE6)));have n3_:=am_ (blk_below (zb_ BK6) hb);have n4_:=am_ (below_step (zl1_ HB GE6) hb);clear HO_9;clear HO_12;clear BK6;clear HB;have HO_9:=n0_;have HO_12:=n1_;have HO23:=n2_;have BK6:=n3_;have HB:=n4_;clear n0_ n1_ n2_ n3_ n4_;(try clear hb);(try clear hb2);(try clear hk);(try clear hi);(try clear ho0);have hcz66_0:w65.cell? ⟨gb6,0,none⟩=some (.int .i64 (wrap64 (a3))):=(blk_cell BK6.out 0).trans rfl;have hcz66_1:w65.cell? ⟨gb6,1,none⟩=some (.int .i64 0):=(blk_cell BK6.out 1).trans rfl;have hcz66_2:w65.cell? ⟨gb6,2,none⟩=some (.int .i64 0):=(blk_cell BK6.out 2).trans rfl;have hfz66_0:=blk_frozen BK6.out 0;have hfz66_1:=blk_frozen BK6.out 1;have hfz66_2:=blk_frozen BK6.out 2)|((with_reducible refine gate_callee (f:=84) rfl ?_);refine goesL_ (some 123) rfl rfl Try.func84 (by kernel_rfl) rfl #[.slice Ao14 t2.length co14, .string a1, .string (⟨#[110,111,110,101]⟩:ByteArray), .agg #[.int .i64 (wrap64 (a3)), .int .i64 0, .int .i64 0]] rfl zs_ ?_;(with_reducible refine (shape_Create.calls _ _ t2 a1 (⟨#[110,111,110,101]⟩:ByteArray) (wrap64 (a3)) 0 0 t24 t27 _ ?side1 ?side2 A54.out).mono ?_);(case side1=>repeat (first|exact (Kd.R_reads' HO_9.out).2.2|(with_reducible refine Kd.C_alloc ?_ _)|(with_reducible refine Kd.C_drewN ?_ _)|(with_reducible refine Kd.C_drew ?_)));(case side2=>exact (Kd.R_reads' HO_9.out).2.1);rintro e w67 ⟨v25,rfl,ho0,hb⟩;refine ⟨_,rfl, ?_⟩;have n0_:=am_ (Kd.R_elder' (zr_ HO_9) (Kd.R_base ho0) hb);have n1_:=am_ (Kd.R_elder' (zr_ HO_12) (Kd.R_base ho0) hb);have n2_:=am_ (Kd.R_elder' (zr_ HO23) (Kd.R_base ho0) hb);have n3_:=am_ (Kd.R_lower (Kd.R_new' (Kd.R_new' (Kd.R_new' ho0 (Kd.R_lt (zr_ HO_9))) (Kd.R_lt (zr_ HO_12))) (Kd.R_lt (zr_ HO23))) (below_size (zl1_ HB GE6)));have n4_:=am_ (blk_below (zb_ BK6) hb);have n5_:=am_ (below_step (zl1_ HB GE6) hb);clear HO_9;clear HO_12;clear HO23;clear BK6;clear HB;have HO_9:=n0_;have HO_12:=n1_;have HO23:=n2_;have HO26:=n3_;have BK6:=n4_;have HB:=n5_;clear n0_ n1_ n2_ n3_ n4_ n5_;(try clear hb);(try clear hb2);(try clear hk);(try clear hi);(try clear ho0))|((with_reducible refine gate_callee (f:=86) rfl ?_);refine goesL_ (some 129) rfl rfl Try.func86 (by kernel_rfl) rfl #[.slice Ao37 t7.length co37, .string a1, .int .i64 2] rfl zs_ ?_;(with_reducible refine (shape_Delete.calls kj35 _ _ t7 a1 2 t28 t29 _ ?side1 ?side2 A55.out).mono ?_);(case side1=>repeat (first|exact (Kd.R_reads' HO_12.out).2.2|(with_reducible refine Kd.C_alloc ?_ _)|(with_reducible refine Kd.C_drewN ?_ _)|(with_reducible refine Kd.C_drew ?_)));(case side2=>exact (Kd.R_reads' HO_12.out).2.1);rintro e w68 ⟨v30,rfl,ho0,hb⟩;refine ⟨_,rfl, ?_⟩;have n0_:=am_ (Kd.R_elder' (zr_ HO_9) (Kd.R_base ho0) hb);have n1_:=am_ (Kd.R_elder' (zr_ HO_12) (Kd.R_base ho0) hb);have n2_:=am_ (Kd.R_elder' (zr_ HO23) (Kd.R_base ho0) hb);have n3_:=am_ (Kd.R_elder' (zr_ HO26) (Kd.R_base ho0) hb);have n4_:=am_ (Kd.R_lower (Kd.R_new' (Kd.R_new' (Kd.R_new' (Kd.R_new' ho0 (Kd.R_lt (zr_ HO_9))) (Kd.R_lt (zr_ HO_12))) (Kd.R_lt (zr_ HO23))) (Kd.R_lt (zr_ HO26))) (below_size (zl1_ HB GE6)));have n5_:=am_ (blk_below (zb_ BK6) hb);have n6_:=am_ (below_step (zl1_ HB GE6) hb);clear HO_9;clear HO_12;clear HO23;clear HO26;clear BK6;clear HB;have HO_9:=n0_;have HO_12:=n1_;have HO23:=n2_;have HO26:=n3_;have HO31:=n4_;have BK6:=n5_;have HB:=n6_;clear n0_ n1_ n2_ n3_ n4_ n5_ n6_;(try clear hb);(try clear hb2);(try clear hk);(try clear hi);(try clear ho0))|((with_reducible refine gate_callee (f:=61) rfl ?_);refine goesL_ (some 133) rfl rfl Try.func61 (by kernel_rfl) rfl #[.int .i64 t21] rfl zs_ ?_;(with_reducible refine (law1_Num.calls t21 t32 _ A56.out).mono ?_);rintro e w' ⟨rfl,⟨nd,rfl⟩⟩;refine ⟨_,rfl, ?_⟩;obtain ⟨Ao69,co69,eo69⟩:=Kd.R_slice HO23.out;subst eo69)|(go_at_call 62;(with_reducible refine (r10_SameItems.calls kj35 _ _ t20 _ _ t2 true _ ?side1 ?side2 ?side3 ?side4 A58.out).mono ?_);(case side1=>repeat (first|exact (Kd.R_reads' HO23.out).2.2|(with_reducible refine Kd.C_alloc ?_ _)|(with_reducible refine Kd.C_drewN ?_ _)|(with_reducible refine Kd.C_drew ?_)));(case side2=>exact (Kd.R_reads' HO23.out).2.1);(case side3=>repeat (first|exact (Kd.R_reads' HO_9.out).2.2|(with_reducible refine Kd.C_alloc ?_ _)|(with_reducible refine Kd.C_drewN ?_ _)|(with_reducible refine Kd.C_drew ?_)));(case side4=>exact (Kd.R_reads' HO_9.out).2.1);rintro e w' ⟨rfl,⟨nd,rfl⟩⟩)|(go_at_call 61;(with_reducible refine (law1_Num.calls t27 t34 _ A60.out).mono ?_);rintro e w' ⟨rfl,⟨nd,rfl⟩⟩)|(go_at_call 61;(with_reducible refine (law1_Num.calls t29 t35 _ A62.out).mono ?_);rintro e w' ⟨rfl,⟨nd,rfl⟩⟩)|(go_at_call 85;(with_reducible refine (law15_awake.calls t36 _ A64.out).mono ?_);rintro e w70 ⟨rfl,hb⟩;have n0_:=am_ (Kd.R_below (zr_ HO_9) hb);have n1_:=am_ (Kd.R_below (zr_ HO_12) hb);have n2_:=am_ (Kd.R_below (zr_ HO23) hb);have n3_:=am_ (Kd.R_below (zr_ HO26) hb);have n4_:=am_ (Kd.R_below (zr_ HO31) hb);have n5_:=am_ (blk_below (zb_ BK6) hb);have n6_:=am_ (below_step (zl1_ HB GE6) hb);clear HO_9;clear HO_12;clear HO23;clear HO26;clear HO31;clear BK6;clear HB;have HO_9:=n0_;have HO_12:=n1_;have HO23:=n2_;have HO26:=n3_;have HO31:=n4_;have BK6:=n5_;have HB:=n6_;clear n0_ n1_ n2_ n3_ n4_ n5_ n6_;(try clear hb);(try clear hb2);(try clear hk);(try clear hi)))
                  go_ret
                  exact ⟨by first|rfl|(simp [errW_none,errW_some]<;>rfl)|(simp [*,errW_none,errW_some]<;>rfl),zl1_ HB GE6⟩
                 ·rw [if_neg c63] at H
                  have c63b0:(t35==14)=false:=beq_eq_false_iff_ne.mpr c63
                  have c63b1:(t35 !=14)=true:=bne_iff_ne.mpr c63
                  obtain rfl:=Option.some.inj H
                  go_wp2_with (first|((with_reducible refine gate_callee (f:=86) rfl ?_);refine goesL_ (some 116) rfl rfl Try.func86 (by kernel_rfl) rfl #[.slice Ao37 t7.length co37, .string a1, .int .i64 1] rfl zs_ ?_;(with_reducible refine (shape_Delete.calls kj35 _ _ t7 a1 1 t20 t21 _ ?side1 ?side2 A53.out).mono ?_);(case side1=>repeat (first|exact (Kd.R_reads' HO_12.out).2.2|(with_reducible refine Kd.C_alloc ?_ _)|(with_reducible refine Kd.C_drewN ?_ _)|(with_reducible refine Kd.C_drew ?_)));(case side2=>exact (Kd.R_reads' HO_12.out).2.1);rintro e w71 ⟨v22,rfl,ho0,hb⟩;refine ⟨_,rfl, ?_⟩;have n0_:=am_ (Kd.R_elder' (zr_ HO_9) (Kd.R_base ho0) hb);have n1_:=am_ (Kd.R_elder' (zr_ HO_12) (Kd.R_base ho0) hb);have n2_:=am_ (Kd.R_lower (Kd.R_new' (Kd.R_new' ho0 (Kd.R_lt (zr_ HO_9))) (Kd.R_lt (zr_ HO_12))) (below_size (zl1_ HB GE6)));have n3_:=am_ (blk_below (zb_ BK6) hb);have n4_:=am_ (below_step (zl1_ HB GE6) hb);clear HO_9;clear HO_12;clear BK6;clear HB;have HO_9:=n0_;have HO_12:=n1_;have HO23:=n2_;have BK6:=n3_;have HB:=n4_;clear n0_ n1_ n2_ n3_ n4_;(try clear hb);(try clear hb2);(try clear hk);(try clear hi);(try clear ho0);have hcz72_0:w71.cell? ⟨gb6,0,none⟩=some (.int .i64 (wrap64 (a3))):=(blk_cell BK6.out 0).trans rfl;have hcz72_1:w71.cell? ⟨gb6,1,none⟩=some (.int .i64 0):=(blk_cell BK6.out 1).trans rfl;have hcz72_2:w71.cell? ⟨gb6,2,none⟩=some (.int .i64 0):=(blk_cell BK6.out 2).trans rfl;have hfz72_0:=blk_frozen BK6.out 0;have hfz72_1:=blk_frozen BK6.out 1;have hfz72_2:=blk_frozen BK6.out 2)|((with_reducible refine gate_callee (f:=84) rfl ?_);refine goesL_ (some 123) rfl rfl Try.func84 (by kernel_rfl) rfl #[.slice Ao14 t2.length co14, .string a1, .string (⟨#[110,111,110,101]⟩:ByteArray), .agg #[.int .i64 (wrap64 (a3)), .int .i64 0, .int .i64 0]] rfl zs_ ?_;(with_reducible refine (shape_Create.calls _ _ t2 a1 (⟨#[110,111,110,101]⟩:ByteArray) (wrap64 (a3)) 0 0 t24 t27 _ ?side1 ?side2 A54.out).mono ?_);(case side1=>repeat (first|exact (Kd.R_reads' HO_9.out).2.2|(with_reducible refine Kd.C_alloc ?_ _)|(with_reducible refine Kd.C_drewN ?_ _)|(with_reducible refine Kd.C_drew ?_)));(case side2=>exact (Kd.R_reads' HO_9.out).2.1);rintro e w73 ⟨v25,rfl,ho0,hb⟩;refine ⟨_,rfl, ?_⟩;have n0_:=am_ (Kd.R_elder' (zr_ HO_9) (Kd.R_base ho0) hb);have n1_:=am_ (Kd.R_elder' (zr_ HO_12) (Kd.R_base ho0) hb);have n2_:=am_ (Kd.R_elder' (zr_ HO23) (Kd.R_base ho0) hb);have n3_:=am_ (Kd.R_lower (Kd.R_new' (Kd.R_new' (Kd.R_new' ho0 (Kd.R_lt (zr_ HO_9))) (Kd.R_lt (zr_ HO_12))) (Kd.R_lt (zr_ HO23))) (below_size (zl1_ HB GE6)));have n4_:=am_ (blk_below (zb_ BK6) hb);have n5_:=am_ (below_step (zl1_ HB GE6) hb);clear HO_9;clear HO_12;clear HO23;clear BK6;clear HB;have HO_9:=n0_;have HO_12:=n1_;have HO23:=n2_;have HO26:=n3_;have BK6:=n4_;have HB:=n5_;clear n0_ n1_ n2_ n3_ n4_ n5_;(try clear hb);(try clear hb2);(try clear hk);(try clear hi);(try clear ho0))|((with_reducible refine gate_callee (f:=86) rfl ?_);refine goesL_ (some 129) rfl rfl Try.func86 (by kernel_rfl) rfl #[.slice Ao37 t7.length co37, .string a1, .int .i64 2] rfl zs_ ?_;(with_reducible refine (shape_Delete.calls kj35 _ _ t7 a1 2 t28 t29 _ ?side1 ?side2 A55.out).mono ?_);(case side1=>repeat (first|exact (Kd.R_reads' HO_12.out).2.2|(with_reducible refine Kd.C_alloc ?_ _)|(with_reducible refine Kd.C_drewN ?_ _)|(with_reducible refine Kd.C_drew ?_)));(case side2=>exact (Kd.R_reads' HO_12.out).2.1);rintro e w74 ⟨v30,rfl,ho0,hb⟩;refine ⟨_,rfl, ?_⟩;have n0_:=am_ (Kd.R_elder' (zr_ HO_9) (Kd.R_base ho0) hb);have n1_:=am_ (Kd.R_elder' (zr_ HO_12) (Kd.R_base ho0) hb);have n2_:=am_ (Kd.R_elder' (zr_ HO23) (Kd.R_base ho0) hb);have n3_:=am_ (Kd.R_elder' (zr_ HO26) (Kd.R_base ho0) hb);have n4_:=am_ (Kd.R_lower (Kd.R_new' (Kd.R_new' (Kd.R_new' (Kd.R_new' ho0 (Kd.R_lt (zr_ HO_9))) (Kd.R_lt (zr_ HO_12))) (Kd.R_lt (zr_ HO23))) (Kd.R_lt (zr_ HO26))) (below_size (zl1_ HB GE6)));have n5_:=am_ (blk_below (zb_ BK6) hb);have n6_:=am_ (below_step (zl1_ HB GE6) hb);clear HO_9;clear HO_12;clear HO23;clear HO26;clear BK6;clear HB;have HO_9:=n0_;have HO_12:=n1_;have HO23:=n2_;have HO26:=n3_;have HO31:=n4_;have BK6:=n5_;have HB:=n6_;clear n0_ n1_ n2_ n3_ n4_ n5_ n6_;(try clear hb);(try clear hb2);(try clear hk);(try clear hi);(try clear ho0))|((with_reducible refine gate_callee (f:=61) rfl ?_);refine goesL_ (some 133) rfl rfl Try.func61 (by kernel_rfl) rfl #[.int .i64 t21] rfl zs_ ?_;(with_reducible refine (law1_Num.calls t21 t32 _ A56.out).mono ?_);rintro e w' ⟨rfl,⟨nd,rfl⟩⟩;refine ⟨_,rfl, ?_⟩;obtain ⟨Ao75,co75,eo75⟩:=Kd.R_slice HO23.out;subst eo75)|(go_at_call 62;(with_reducible refine (r10_SameItems.calls kj35 _ _ t20 _ _ t2 true _ ?side1 ?side2 ?side3 ?side4 A58.out).mono ?_);(case side1=>repeat (first|exact (Kd.R_reads' HO23.out).2.2|(with_reducible refine Kd.C_alloc ?_ _)|(with_reducible refine Kd.C_drewN ?_ _)|(with_reducible refine Kd.C_drew ?_)));(case side2=>exact (Kd.R_reads' HO23.out).2.1);(case side3=>repeat (first|exact (Kd.R_reads' HO_9.out).2.2|(with_reducible refine Kd.C_alloc ?_ _)|(with_reducible refine Kd.C_drewN ?_ _)|(with_reducible refine Kd.C_drew ?_)));(case side4=>exact (Kd.R_reads' HO_9.out).2.1);rintro e w' ⟨rfl,⟨nd,rfl⟩⟩)|(go_at_call 61;(with_reducible refine (law1_Num.calls t27 t34 _ A60.out).mono ?_);rintro e w' ⟨rfl,⟨nd,rfl⟩⟩)|(go_at_call 61;(with_reducible refine (law1_Num.calls t29 t35 _ A62.out).mono ?_);rintro e w' ⟨rfl,⟨nd,rfl⟩⟩))
                  go_ret
                  exact ⟨by first|rfl|(simp [errW_none,errW_some]<;>rfl)|(simp [*,errW_none,errW_some]<;>rfl),zl1_ HB GE6⟩
                ·rw [if_neg c61] at H
                 have c61b0:(t34==2)=false:=beq_eq_false_iff_ne.mpr c61
                 have c61b1:(t34 !=2)=true:=bne_iff_ne.mpr c61
                 by_cases c76:a1.toList=([110,111,110,101]:List UInt8)
                 ·rw [if_pos c76] at H
                  have c76b0:(a1.toList==([110,111,110,101]:List UInt8))=true:=beq_iff_eq.mpr c76
                  have c76b1:(a1.toList !=([110,111,110,101]:List UInt8))=false:=bne_eq_false_iff_eq.mpr c76
                  clear c76
                  replace H:=Option.bind_eq_some_iff.mp H
                  obtain ⟨t37,A770,H⟩:=H
                  replace H:(if t37=14 then ((law15_awake.f).bind fun t38=>(some t38)) else (some false))=some r:=H
                  have A77:=Aside0.mk A770
                  clear A770
                  by_cases c78:t37=14
                  ·rw [if_pos c78] at H
                   have c78b0:(t37==14)=true:=beq_iff_eq.mpr c78
                   have c78b1:(t37 !=14)=false:=bne_eq_false_iff_eq.mpr c78
                   clear c78
                   replace H:=Option.bind_eq_some_iff.mp H
                   obtain ⟨t38,A790,H⟩:=H
                   replace H:(some t38)=some r:=H
                   have A79:=Aside0.mk A790
                   clear A790
                   obtain rfl:=Option.some.inj H
                   go_wp2_with (first|((with_reducible refine gate_callee (f:=86) rfl ?_);refine goesL_ (some 116) rfl rfl Try.func86 (by kernel_rfl) rfl #[.slice Ao37 t7.length co37, .string a1, .int .i64 1] rfl zs_ ?_;(with_reducible refine (shape_Delete.calls kj35 _ _ t7 a1 1 t20 t21 _ ?side1 ?side2 A53.out).mono ?_);(case side1=>repeat (first|exact (Kd.R_reads' HO_12.out).2.2|(with_reducible refine Kd.C_alloc ?_ _)|(with_reducible refine Kd.C_drewN ?_ _)|(with_reducible refine Kd.C_drew ?_)));(case side2=>exact (Kd.R_reads' HO_12.out).2.1);rintro e w80 ⟨v22,rfl,ho0,hb⟩;refine ⟨_,rfl, ?_⟩;have n0_:=am_ (Kd.R_elder' (zr_ HO_9) (Kd.R_base ho0) hb);have n1_:=am_ (Kd.R_elder' (zr_ HO_12) (Kd.R_base ho0) hb);have n2_:=am_ (Kd.R_lower (Kd.R_new' (Kd.R_new' ho0 (Kd.R_lt (zr_ HO_9))) (Kd.R_lt (zr_ HO_12))) (below_size (zl1_ HB GE6)));have n3_:=am_ (blk_below (zb_ BK6) hb);have n4_:=am_ (below_step (zl1_ HB GE6) hb);clear HO_9;clear HO_12;clear BK6;clear HB;have HO_9:=n0_;have HO_12:=n1_;have HO23:=n2_;have BK6:=n3_;have HB:=n4_;clear n0_ n1_ n2_ n3_ n4_;(try clear hb);(try clear hb2);(try clear hk);(try clear hi);(try clear ho0);have hcz81_0:w80.cell? ⟨gb6,0,none⟩=some (.int .i64 (wrap64 (a3))):=(blk_cell BK6.out 0).trans rfl;have hcz81_1:w80.cell? ⟨gb6,1,none⟩=some (.int .i64 0):=(blk_cell BK6.out 1).trans rfl;have hcz81_2:w80.cell? ⟨gb6,2,none⟩=some (.int .i64 0):=(blk_cell BK6.out 2).trans rfl;have hfz81_0:=blk_frozen BK6.out 0;have hfz81_1:=blk_frozen BK6.out 1;have hfz81_2:=blk_frozen BK6.out 2)|((with_reducible refine gate_callee (f:=84) rfl ?_);refine goesL_ (some 123) rfl rfl Try.func84 (by kernel_rfl) rfl #[.slice Ao14 t2.length co14, .string a1, .string (⟨#[110,111,110,101]⟩:ByteArray), .agg #[.int .i64 (wrap64 (a3)), .int .i64 0, .int .i64 0]] rfl zs_ ?_;(with_reducible refine (shape_Create.calls _ _ t2 a1 (⟨#[110,111,110,101]⟩:ByteArray) (wrap64 (a3)) 0 0 t24 t27 _ ?side1 ?side2 A54.out).mono ?_);(case side1=>repeat (first|exact (Kd.R_reads' HO_9.out).2.2|(with_reducible refine Kd.C_alloc ?_ _)|(with_reducible refine Kd.C_drewN ?_ _)|(with_reducible refine Kd.C_drew ?_)));(case side2=>exact (Kd.R_reads' HO_9.out).2.1);rintro e w82 ⟨v25,rfl,ho0,hb⟩;refine ⟨_,rfl, ?_⟩;have n0_:=am_ (Kd.R_elder' (zr_ HO_9) (Kd.R_base ho0) hb);have n1_:=am_ (Kd.R_elder' (zr_ HO_12) (Kd.R_base ho0) hb);have n2_:=am_ (Kd.R_elder' (zr_ HO23) (Kd.R_base ho0) hb);have n3_:=am_ (Kd.R_lower (Kd.R_new' (Kd.R_new' (Kd.R_new' ho0 (Kd.R_lt (zr_ HO_9))) (Kd.R_lt (zr_ HO_12))) (Kd.R_lt (zr_ HO23))) (below_size (zl1_ HB GE6)));have n4_:=am_ (blk_below (zb_ BK6) hb);have n5_:=am_ (below_step (zl1_ HB GE6) hb);clear HO_9;clear HO_12;clear HO23;clear BK6;clear HB;have HO_9:=n0_;have HO_12:=n1_;have HO23:=n2_;have HO26:=n3_;have BK6:=n4_;have HB:=n5_;clear n0_ n1_ n2_ n3_ n4_ n5_;(try clear hb);(try clear hb2);(try clear hk);(try clear hi);(try clear ho0))|((with_reducible refine gate_callee (f:=86) rfl ?_);refine goesL_ (some 129) rfl rfl Try.func86 (by kernel_rfl) rfl #[.slice Ao37 t7.length co37, .string a1, .int .i64 2] rfl zs_ ?_;(with_reducible refine (shape_Delete.calls kj35 _ _ t7 a1 2 t28 t29 _ ?side1 ?side2 A55.out).mono ?_);(case side1=>repeat (first|exact (Kd.R_reads' HO_12.out).2.2|(with_reducible refine Kd.C_alloc ?_ _)|(with_reducible refine Kd.C_drewN ?_ _)|(with_reducible refine Kd.C_drew ?_)));(case side2=>exact (Kd.R_reads' HO_12.out).2.1);rintro e w83 ⟨v30,rfl,ho0,hb⟩;refine ⟨_,rfl, ?_⟩;have n0_:=am_ (Kd.R_elder' (zr_ HO_9) (Kd.R_base ho0) hb);have n1_:=am_ (Kd.R_elder' (zr_ HO_12) (Kd.R_base ho0) hb);have n2_:=am_ (Kd.R_elder' (zr_ HO23) (Kd.R_base ho0) hb);have n3_:=am_ (Kd.R_elder' (zr_ HO26) (Kd.R_base ho0) hb);have n4_:=am_ (Kd.R_lower (Kd.R_new' (Kd.R_new' (Kd.R_new' (Kd.R_new' ho0 (Kd.R_lt (zr_ HO_9))) (Kd.R_lt (zr_ HO_12))) (Kd.R_lt (zr_ HO23))) (Kd.R_lt (zr_ HO26))) (below_size (zl1_ HB GE6)));have n5_:=am_ (blk_below (zb_ BK6) hb);have n6_:=am_ (below_step (zl1_ HB GE6) hb);clear HO_9;clear HO_12;clear HO23;clear HO26;clear BK6;clear HB;have HO_9:=n0_;have HO_12:=n1_;have HO23:=n2_;have HO26:=n3_;have HO31:=n4_;have BK6:=n5_;have HB:=n6_;clear n0_ n1_ n2_ n3_ n4_ n5_ n6_;(try clear hb);(try clear hb2);(try clear hk);(try clear hi);(try clear ho0))|((with_reducible refine gate_callee (f:=61) rfl ?_);refine goesL_ (some 133) rfl rfl Try.func61 (by kernel_rfl) rfl #[.int .i64 t21] rfl zs_ ?_;(with_reducible refine (law1_Num.calls t21 t32 _ A56.out).mono ?_);rintro e w' ⟨rfl,⟨nd,rfl⟩⟩;refine ⟨_,rfl, ?_⟩;obtain ⟨Ao84,co84,eo84⟩:=Kd.R_slice HO23.out;subst eo84)|(go_at_call 62;(with_reducible refine (r10_SameItems.calls kj35 _ _ t20 _ _ t2 true _ ?side1 ?side2 ?side3 ?side4 A58.out).mono ?_);(case side1=>repeat (first|exact (Kd.R_reads' HO23.out).2.2|(with_reducible refine Kd.C_alloc ?_ _)|(with_reducible refine Kd.C_drewN ?_ _)|(with_reducible refine Kd.C_drew ?_)));(case side2=>exact (Kd.R_reads' HO23.out).2.1);(case side3=>repeat (first|exact (Kd.R_reads' HO_9.out).2.2|(with_reducible refine Kd.C_alloc ?_ _)|(with_reducible refine Kd.C_drewN ?_ _)|(with_reducible refine Kd.C_drew ?_)));(case side4=>exact (Kd.R_reads' HO_9.out).2.1);rintro e w' ⟨rfl,⟨nd,rfl⟩⟩)|(go_at_call 61;(with_reducible refine (law1_Num.calls t27 t34 _ A60.out).mono ?_);rintro e w' ⟨rfl,⟨nd,rfl⟩⟩)|(go_at_call 61;(with_reducible refine (law1_Num.calls t29 t37 _ A77.out).mono ?_);rintro e w' ⟨rfl,⟨nd,rfl⟩⟩)|(go_at_call 85;(with_reducible refine (law15_awake.calls t38 _ A79.out).mono ?_);rintro e w85 ⟨rfl,hb⟩;have n0_:=am_ (Kd.R_below (zr_ HO_9) hb);have n1_:=am_ (Kd.R_below (zr_ HO_12) hb);have n2_:=am_ (Kd.R_below (zr_ HO23) hb);have n3_:=am_ (Kd.R_below (zr_ HO26) hb);have n4_:=am_ (Kd.R_below (zr_ HO31) hb);have n5_:=am_ (blk_below (zb_ BK6) hb);have n6_:=am_ (below_step (zl1_ HB GE6) hb);clear HO_9;clear HO_12;clear HO23;clear HO26;clear HO31;clear BK6;clear HB;have HO_9:=n0_;have HO_12:=n1_;have HO23:=n2_;have HO26:=n3_;have HO31:=n4_;have BK6:=n5_;have HB:=n6_;clear n0_ n1_ n2_ n3_ n4_ n5_ n6_;(try clear hb);(try clear hb2);(try clear hk);(try clear hi)))
                   go_ret
                   exact ⟨by first|rfl|(simp [errW_none,errW_some]<;>rfl)|(simp [*,errW_none,errW_some]<;>rfl),zl1_ HB GE6⟩
                  ·rw [if_neg c78] at H
                   have c78b0:(t37==14)=false:=beq_eq_false_iff_ne.mpr c78
                   have c78b1:(t37 !=14)=true:=bne_iff_ne.mpr c78
                   obtain rfl:=Option.some.inj H
                   go_wp2_with (first|((with_reducible refine gate_callee (f:=86) rfl ?_);refine goesL_ (some 116) rfl rfl Try.func86 (by kernel_rfl) rfl #[.slice Ao37 t7.length co37, .string a1, .int .i64 1] rfl zs_ ?_;(with_reducible refine (shape_Delete.calls kj35 _ _ t7 a1 1 t20 t21 _ ?side1 ?side2 A53.out).mono ?_);(case side1=>repeat (first|exact (Kd.R_reads' HO_12.out).2.2|(with_reducible refine Kd.C_alloc ?_ _)|(with_reducible refine Kd.C_drewN ?_ _)|(with_reducible refine Kd.C_drew ?_)));(case side2=>exact (Kd.R_reads' HO_12.out).2.1);rintro e w86 ⟨v22,rfl,ho0,hb⟩;refine ⟨_,rfl, ?_⟩;have n0_:=am_ (Kd.R_elder' (zr_ HO_9) (Kd.R_base ho0) hb);have n1_:=am_ (Kd.R_elder' (zr_ HO_12) (Kd.R_base ho0) hb);have n2_:=am_ (Kd.R_lower (Kd.R_new' (Kd.R_new' ho0 (Kd.R_lt (zr_ HO_9))) (Kd.R_lt (zr_ HO_12))) (below_size (zl1_ HB GE6)));have n3_:=am_ (blk_below (zb_ BK6) hb);have n4_:=am_ (below_step (zl1_ HB GE6) hb);clear HO_9;clear HO_12;clear BK6;clear HB;have HO_9:=n0_;have HO_12:=n1_;have HO23:=n2_;have BK6:=n3_;have HB:=n4_;clear n0_ n1_ n2_ n3_ n4_;(try clear hb);(try clear hb2);(try clear hk);(try clear hi);(try clear ho0);have hcz87_0:w86.cell? ⟨gb6,0,none⟩=some (.int .i64 (wrap64 (a3))):=(blk_cell BK6.out 0).trans rfl;have hcz87_1:w86.cell? ⟨gb6,1,none⟩=some (.int .i64 0):=(blk_cell BK6.out 1).trans rfl;have hcz87_2:w86.cell? ⟨gb6,2,none⟩=some (.int .i64 0):=(blk_cell BK6.out 2).trans rfl;have hfz87_0:=blk_frozen BK6.out 0;have hfz87_1:=blk_frozen BK6.out 1;have hfz87_2:=blk_frozen BK6.out 2)|((with_reducible refine gate_callee (f:=84) rfl ?_);refine goesL_ (some 123) rfl rfl Try.func84 (by kernel_rfl) rfl #[.slice Ao14 t2.length co14, .string a1, .string (⟨#[110,111,110,101]⟩:ByteArray), .agg #[.int .i64 (wrap64 (a3)), .int .i64 0, .int .i64 0]] rfl zs_ ?_;(with_reducible refine (shape_Create.calls _ _ t2 a1 (⟨#[110,111,110,101]⟩:ByteArray) (wrap64 (a3)) 0 0 t24 t27 _ ?side1 ?side2 A54.out).mono ?_);(case side1=>repeat (first|exact (Kd.R_reads' HO_9.out).2.2|(with_reducible refine Kd.C_alloc ?_ _)|(with_reducible refine Kd.C_drewN ?_ _)|(with_reducible refine Kd.C_drew ?_)));(case side2=>exact (Kd.R_reads' HO_9.out).2.1);rintro e w88 ⟨v25,rfl,ho0,hb⟩;refine ⟨_,rfl, ?_⟩;have n0_:=am_ (Kd.R_elder' (zr_ HO_9) (Kd.R_base ho0) hb);have n1_:=am_ (Kd.R_elder' (zr_ HO_12) (Kd.R_base ho0) hb);have n2_:=am_ (Kd.R_elder' (zr_ HO23) (Kd.R_base ho0) hb);have n3_:=am_ (Kd.R_lower (Kd.R_new' (Kd.R_new' (Kd.R_new' ho0 (Kd.R_lt (zr_ HO_9))) (Kd.R_lt (zr_ HO_12))) (Kd.R_lt (zr_ HO23))) (below_size (zl1_ HB GE6)));have n4_:=am_ (blk_below (zb_ BK6) hb);have n5_:=am_ (below_step (zl1_ HB GE6) hb);clear HO_9;clear HO_12;clear HO23;clear BK6;clear HB;have HO_9:=n0_;have HO_12:=n1_;have HO23:=n2_;have HO26:=n3_;have BK6:=n4_;have HB:=n5_;clear n0_ n1_ n2_ n3_ n4_ n5_;(try clear hb);(try clear hb2);(try clear hk);(try clear hi);(try clear ho0))|((with_reducible refine gate_callee (f:=86) rfl ?_);refine goesL_ (some 129) rfl rfl Try.func86 (by kernel_rfl) rfl #[.slice Ao37 t7.length co37, .string a1, .int .i64 2] rfl zs_ ?_;(with_reducible refine (shape_Delete.calls kj35 _ _ t7 a1 2 t28 t29 _ ?side1 ?side2 A55.out).mono ?_);(case side1=>repeat (first|exact (Kd.R_reads' HO_12.out).2.2|(with_reducible refine Kd.C_alloc ?_ _)|(with_reducible refine Kd.C_drewN ?_ _)|(with_reducible refine Kd.C_drew ?_)));(case side2=>exact (Kd.R_reads' HO_12.out).2.1);rintro e w89 ⟨v30,rfl,ho0,hb⟩;refine ⟨_,rfl, ?_⟩;have n0_:=am_ (Kd.R_elder' (zr_ HO_9) (Kd.R_base ho0) hb);have n1_:=am_ (Kd.R_elder' (zr_ HO_12) (Kd.R_base ho0) hb);have n2_:=am_ (Kd.R_elder' (zr_ HO23) (Kd.R_base ho0) hb);have n3_:=am_ (Kd.R_elder' (zr_ HO26) (Kd.R_base ho0) hb);have n4_:=am_ (Kd.R_lower (Kd.R_new' (Kd.R_new' (Kd.R_new' (Kd.R_new' ho0 (Kd.R_lt (zr_ HO_9))) (Kd.R_lt (zr_ HO_12))) (Kd.R_lt (zr_ HO23))) (Kd.R_lt (zr_ HO26))) (below_size (zl1_ HB GE6)));have n5_:=am_ (blk_below (zb_ BK6) hb);have n6_:=am_ (below_step (zl1_ HB GE6) hb);clear HO_9;clear HO_12;clear HO23;clear HO26;clear BK6;clear HB;have HO_9:=n0_;have HO_12:=n1_;have HO23:=n2_;have HO26:=n3_;have HO31:=n4_;have BK6:=n5_;have HB:=n6_;clear n0_ n1_ n2_ n3_ n4_ n5_ n6_;(try clear hb);(try clear hb2);(try clear hk);(try clear hi);(try clear ho0))|((with_reducible refine gate_callee (f:=61) rfl ?_);refine goesL_ (some 133) rfl rfl Try.func61 (by kernel_rfl) rfl #[.int .i64 t21] rfl zs_ ?_;(with_reducible refine (law1_Num.calls t21 t32 _ A56.out).mono ?_);rintro e w' ⟨rfl,⟨nd,rfl⟩⟩;refine ⟨_,rfl, ?_⟩;obtain ⟨Ao90,co90,eo90⟩:=Kd.R_slice HO23.out;subst eo90)|(go_at_call 62;(with_reducible refine (r10_SameItems.calls kj35 _ _ t20 _ _ t2 true _ ?side1 ?side2 ?side3 ?side4 A58.out).mono ?_);(case side1=>repeat (first|exact (Kd.R_reads' HO23.out).2.2|(with_reducible refine Kd.C_alloc ?_ _)|(with_reducible refine Kd.C_drewN ?_ _)|(with_reducible refine Kd.C_drew ?_)));(case side2=>exact (Kd.R_reads' HO23.out).2.1);(case side3=>repeat (first|exact (Kd.R_reads' HO_9.out).2.2|(with_reducible refine Kd.C_alloc ?_ _)|(with_reducible refine Kd.C_drewN ?_ _)|(with_reducible refine Kd.C_drew ?_)));(case side4=>exact (Kd.R_reads' HO_9.out).2.1);rintro e w' ⟨rfl,⟨nd,rfl⟩⟩)|(go_at_call 61;(with_reducible refine (law1_Num.calls t27 t34 _ A60.out).mono ?_);rintro e w' ⟨rfl,⟨nd,rfl⟩⟩)|(go_at_call 61;(with_reducible refine (law1_Num.calls t29 t37 _ A77.out).mono ?_);rintro e w' ⟨rfl,⟨nd,rfl⟩⟩))
                   go_ret
                   exact ⟨by first|rfl|(simp [errW_none,errW_some]<;>rfl)|(simp [*,errW_none,errW_some]<;>rfl),zl1_ HB GE6⟩
                 ·rw [if_neg c76] at H
                  have c76b0:(a1.toList==([110,111,110,101]:List UInt8))=false:=beq_eq_false_iff_ne.mpr c76
                  have c76b1:(a1.toList !=([110,111,110,101]:List UInt8))=true:=bne_iff_ne.mpr c76
                  obtain rfl:=Option.some.inj H
                  go_wp2_with (first|((with_reducible refine gate_callee (f:=86) rfl ?_);refine goesL_ (some 116) rfl rfl Try.func86 (by kernel_rfl) rfl #[.slice Ao37 t7.length co37, .string a1, .int .i64 1] rfl zs_ ?_;(with_reducible refine (shape_Delete.calls kj35 _ _ t7 a1 1 t20 t21 _ ?side1 ?side2 A53.out).mono ?_);(case side1=>repeat (first|exact (Kd.R_reads' HO_12.out).2.2|(with_reducible refine Kd.C_alloc ?_ _)|(with_reducible refine Kd.C_drewN ?_ _)|(with_reducible refine Kd.C_drew ?_)));(case side2=>exact (Kd.R_reads' HO_12.out).2.1);rintro e w91 ⟨v22,rfl,ho0,hb⟩;refine ⟨_,rfl, ?_⟩;have n0_:=am_ (Kd.R_elder' (zr_ HO_9) (Kd.R_base ho0) hb);have n1_:=am_ (Kd.R_elder' (zr_ HO_12) (Kd.R_base ho0) hb);have n2_:=am_ (Kd.R_lower (Kd.R_new' (Kd.R_new' ho0 (Kd.R_lt (zr_ HO_9))) (Kd.R_lt (zr_ HO_12))) (below_size (zl1_ HB GE6)));have n3_:=am_ (blk_below (zb_ BK6) hb);have n4_:=am_ (below_step (zl1_ HB GE6) hb);clear HO_9;clear HO_12;clear BK6;clear HB;have HO_9:=n0_;have HO_12:=n1_;have HO23:=n2_;have BK6:=n3_;have HB:=n4_;clear n0_ n1_ n2_ n3_ n4_;(try clear hb);(try clear hb2);(try clear hk);(try clear hi);(try clear ho0);have hcz92_0:w91.cell? ⟨gb6,0,none⟩=some (.int .i64 (wrap64 (a3))):=(blk_cell BK6.out 0).trans rfl;have hcz92_1:w91.cell? ⟨gb6,1,none⟩=some (.int .i64 0):=(blk_cell BK6.out 1).trans rfl;have hcz92_2:w91.cell? ⟨gb6,2,none⟩=some (.int .i64 0):=(blk_cell BK6.out 2).trans rfl;have hfz92_0:=blk_frozen BK6.out 0;have hfz92_1:=blk_frozen BK6.out 1;have hfz92_2:=blk_frozen BK6.out 2)|((with_reducible refine gate_callee (f:=84) rfl ?_);refine goesL_ (some 123) rfl rfl Try.func84 (by kernel_rfl) rfl #[.slice Ao14 t2.length co14, .string a1, .string (⟨#[110,111,110,101]⟩:ByteArray), .agg #[.int .i64 (wrap64 (a3)), .int .i64 0, .int .i64 0]] rfl zs_ ?_;(with_reducible refine (shape_Create.calls _ _ t2 a1 (⟨#[110,111,110,101]⟩:ByteArray) (wrap64 (a3)) 0 0 t24 t27 _ ?side1 ?side2 A54.out).mono ?_);(case side1=>repeat (first|exact (Kd.R_reads' HO_9.out).2.2|(with_reducible refine Kd.C_alloc ?_ _)|(with_reducible refine Kd.C_drewN ?_ _)|(with_reducible refine Kd.C_drew ?_)));(case side2=>exact (Kd.R_reads' HO_9.out).2.1);rintro e w93 ⟨v25,rfl,ho0,hb⟩;refine ⟨_,rfl, ?_⟩;have n0_:=am_ (Kd.R_elder' (zr_ HO_9) (Kd.R_base ho0) hb);have n1_:=am_ (Kd.R_elder' (zr_ HO_12) (Kd.R_base ho0) hb);have n2_:=am_ (Kd.R_elder' (zr_ HO23) (Kd.R_base ho0) hb);have n3_:=am_ (Kd.R_lower (Kd.R_new' (Kd.R_new' (Kd.R_new' ho0 (Kd.R_lt (zr_ HO_9))) (Kd.R_lt (zr_ HO_12))) (Kd.R_lt (zr_ HO23))) (below_size (zl1_ HB GE6)));have n4_:=am_ (blk_below (zb_ BK6) hb);have n5_:=am_ (below_step (zl1_ HB GE6) hb);clear HO_9;clear HO_12;clear HO23;clear BK6;clear HB;have HO_9:=n0_;have HO_12:=n1_;have HO23:=n2_;have HO26:=n3_;have BK6:=n4_;have HB:=n5_;clear n0_ n1_ n2_ n3_ n4_ n5_;(try clear hb);(try clear hb2);(try clear hk);(try clear hi);(try clear ho0))|((with_reducible refine gate_callee (f:=86) rfl ?_);refine goesL_ (some 129) rfl rfl Try.func86 (by kernel_rfl) rfl #[.slice Ao37 t7.length co37, .string a1, .int .i64 2] rfl zs_ ?_;(with_reducible refine (shape_Delete.calls kj35 _ _ t7 a1 2 t28 t29 _ ?side1 ?side2 A55.out).mono ?_);(case side1=>repeat (first|exact (Kd.R_reads' HO_12.out).2.2|(with_reducible refine Kd.C_alloc ?_ _)|(with_reducible refine Kd.C_drewN ?_ _)|(with_reducible refine Kd.C_drew ?_)));(case side2=>exact (Kd.R_reads' HO_12.out).2.1);rintro e w94 ⟨v30,rfl,ho0,hb⟩;refine ⟨_,rfl, ?_⟩;have n0_:=am_ (Kd.R_elder' (zr_ HO_9) (Kd.R_base ho0) hb);have n1_:=am_ (Kd.R_elder' (zr_ HO_12) (Kd.R_base ho0) hb);have n2_:=am_ (Kd.R_elder' (zr_ HO23) (Kd.R_base ho0) hb);have n3_:=am_ (Kd.R_elder' (zr_ HO26) (Kd.R_base ho0) hb);have n4_:=am_ (Kd.R_lower (Kd.R_new' (Kd.R_new' (Kd.R_new' (Kd.R_new' ho0 (Kd.R_lt (zr_ HO_9))) (Kd.R_lt (zr_ HO_12))) (Kd.R_lt (zr_ HO23))) (Kd.R_lt (zr_ HO26))) (below_size (zl1_ HB GE6)));have n5_:=am_ (blk_below (zb_ BK6) hb);have n6_:=am_ (below_step (zl1_ HB GE6) hb);clear HO_9;clear HO_12;clear HO23;clear HO26;clear BK6;clear HB;have HO_9:=n0_;have HO_12:=n1_;have HO23:=n2_;have HO26:=n3_;have HO31:=n4_;have BK6:=n5_;have HB:=n6_;clear n0_ n1_ n2_ n3_ n4_ n5_ n6_;(try clear hb);(try clear hb2);(try clear hk);(try clear hi);(try clear ho0))|((with_reducible refine gate_callee (f:=61) rfl ?_);refine goesL_ (some 133) rfl rfl Try.func61 (by kernel_rfl) rfl #[.int .i64 t21] rfl zs_ ?_;(with_reducible refine (law1_Num.calls t21 t32 _ A56.out).mono ?_);rintro e w' ⟨rfl,⟨nd,rfl⟩⟩;refine ⟨_,rfl, ?_⟩;obtain ⟨Ao95,co95,eo95⟩:=Kd.R_slice HO23.out;subst eo95)|(go_at_call 62;(with_reducible refine (r10_SameItems.calls kj35 _ _ t20 _ _ t2 true _ ?side1 ?side2 ?side3 ?side4 A58.out).mono ?_);(case side1=>repeat (first|exact (Kd.R_reads' HO23.out).2.2|(with_reducible refine Kd.C_alloc ?_ _)|(with_reducible refine Kd.C_drewN ?_ _)|(with_reducible refine Kd.C_drew ?_)));(case side2=>exact (Kd.R_reads' HO23.out).2.1);(case side3=>repeat (first|exact (Kd.R_reads' HO_9.out).2.2|(with_reducible refine Kd.C_alloc ?_ _)|(with_reducible refine Kd.C_drewN ?_ _)|(with_reducible refine Kd.C_drew ?_)));(case side4=>exact (Kd.R_reads' HO_9.out).2.1);rintro e w' ⟨rfl,⟨nd,rfl⟩⟩)|(go_at_call 61;(with_reducible refine (law1_Num.calls t27 t34 _ A60.out).mono ?_);rintro e w' ⟨rfl,⟨nd,rfl⟩⟩))
                  go_ret
                  exact ⟨by first|rfl|(simp [errW_none,errW_some]<;>rfl)|(simp [*,errW_none,errW_some]<;>rfl),zl1_ HB GE6⟩
               ·replace c59:=Bool.eq_false_iff.mpr c59
                subst c59
                have H1:(some false)=some r:=by rw [if_neg (show¬(false=true) by decide)] at H;exact H
                clear H
                have H:=H1
                clear H1
                obtain rfl:=Option.some.inj H
                go_wp2_with (first|((with_reducible refine gate_callee (f:=86) rfl ?_);refine goesL_ (some 116) rfl rfl Try.func86 (by kernel_rfl) rfl #[.slice Ao37 t7.length co37, .string a1, .int .i64 1] rfl zs_ ?_;(with_reducible refine (shape_Delete.calls kj35 _ _ t7 a1 1 t20 t21 _ ?side1 ?side2 A53.out).mono ?_);(case side1=>repeat (first|exact (Kd.R_reads' HO_12.out).2.2|(with_reducible refine Kd.C_alloc ?_ _)|(with_reducible refine Kd.C_drewN ?_ _)|(with_reducible refine Kd.C_drew ?_)));(case side2=>exact (Kd.R_reads' HO_12.out).2.1);rintro e w96 ⟨v22,rfl,ho0,hb⟩;refine ⟨_,rfl, ?_⟩;have n0_:=am_ (Kd.R_elder' (zr_ HO_9) (Kd.R_base ho0) hb);have n1_:=am_ (Kd.R_elder' (zr_ HO_12) (Kd.R_base ho0) hb);have n2_:=am_ (Kd.R_lower (Kd.R_new' (Kd.R_new' ho0 (Kd.R_lt (zr_ HO_9))) (Kd.R_lt (zr_ HO_12))) (below_size (zl1_ HB GE6)));have n3_:=am_ (blk_below (zb_ BK6) hb);have n4_:=am_ (below_step (zl1_ HB GE6) hb);clear HO_9;clear HO_12;clear BK6;clear HB;have HO_9:=n0_;have HO_12:=n1_;have HO23:=n2_;have BK6:=n3_;have HB:=n4_;clear n0_ n1_ n2_ n3_ n4_;(try clear hb);(try clear hb2);(try clear hk);(try clear hi);(try clear ho0);have hcz97_0:w96.cell? ⟨gb6,0,none⟩=some (.int .i64 (wrap64 (a3))):=(blk_cell BK6.out 0).trans rfl;have hcz97_1:w96.cell? ⟨gb6,1,none⟩=some (.int .i64 0):=(blk_cell BK6.out 1).trans rfl;have hcz97_2:w96.cell? ⟨gb6,2,none⟩=some (.int .i64 0):=(blk_cell BK6.out 2).trans rfl;have hfz97_0:=blk_frozen BK6.out 0;have hfz97_1:=blk_frozen BK6.out 1;have hfz97_2:=blk_frozen BK6.out 2)|((with_reducible refine gate_callee (f:=84) rfl ?_);refine goesL_ (some 123) rfl rfl Try.func84 (by kernel_rfl) rfl #[.slice Ao14 t2.length co14, .string a1, .string (⟨#[110,111,110,101]⟩:ByteArray), .agg #[.int .i64 (wrap64 (a3)), .int .i64 0, .int .i64 0]] rfl zs_ ?_;(with_reducible refine (shape_Create.calls _ _ t2 a1 (⟨#[110,111,110,101]⟩:ByteArray) (wrap64 (a3)) 0 0 t24 t27 _ ?side1 ?side2 A54.out).mono ?_);(case side1=>repeat (first|exact (Kd.R_reads' HO_9.out).2.2|(with_reducible refine Kd.C_alloc ?_ _)|(with_reducible refine Kd.C_drewN ?_ _)|(with_reducible refine Kd.C_drew ?_)));(case side2=>exact (Kd.R_reads' HO_9.out).2.1);rintro e w98 ⟨v25,rfl,ho0,hb⟩;refine ⟨_,rfl, ?_⟩;have n0_:=am_ (Kd.R_elder' (zr_ HO_9) (Kd.R_base ho0) hb);have n1_:=am_ (Kd.R_elder' (zr_ HO_12) (Kd.R_base ho0) hb);have n2_:=am_ (Kd.R_elder' (zr_ HO23) (Kd.R_base ho0) hb);have n3_:=am_ (Kd.R_lower (Kd.R_new' (Kd.R_new' (Kd.R_new' ho0 (Kd.R_lt (zr_ HO_9))) (Kd.R_lt (zr_ HO_12))) (Kd.R_lt (zr_ HO23))) (below_size (zl1_ HB GE6)));have n4_:=am_ (blk_below (zb_ BK6) hb);have n5_:=am_ (below_step (zl1_ HB GE6) hb);clear HO_9;clear HO_12;clear HO23;clear BK6;clear HB;have HO_9:=n0_;have HO_12:=n1_;have HO23:=n2_;have HO26:=n3_;have BK6:=n4_;have HB:=n5_;clear n0_ n1_ n2_ n3_ n4_ n5_;(try clear hb);(try clear hb2);(try clear hk);(try clear hi);(try clear ho0))|((with_reducible refine gate_callee (f:=86) rfl ?_);refine goesL_ (some 129) rfl rfl Try.func86 (by kernel_rfl) rfl #[.slice Ao37 t7.length co37, .string a1, .int .i64 2] rfl zs_ ?_;(with_reducible refine (shape_Delete.calls kj35 _ _ t7 a1 2 t28 t29 _ ?side1 ?side2 A55.out).mono ?_);(case side1=>repeat (first|exact (Kd.R_reads' HO_12.out).2.2|(with_reducible refine Kd.C_alloc ?_ _)|(with_reducible refine Kd.C_drewN ?_ _)|(with_reducible refine Kd.C_drew ?_)));(case side2=>exact (Kd.R_reads' HO_12.out).2.1);rintro e w99 ⟨v30,rfl,ho0,hb⟩;refine ⟨_,rfl, ?_⟩;have n0_:=am_ (Kd.R_elder' (zr_ HO_9) (Kd.R_base ho0) hb);have n1_:=am_ (Kd.R_elder' (zr_ HO_12) (Kd.R_base ho0) hb);have n2_:=am_ (Kd.R_elder' (zr_ HO23) (Kd.R_base ho0) hb);have n3_:=am_ (Kd.R_elder' (zr_ HO26) (Kd.R_base ho0) hb);have n4_:=am_ (Kd.R_lower (Kd.R_new' (Kd.R_new' (Kd.R_new' (Kd.R_new' ho0 (Kd.R_lt (zr_ HO_9))) (Kd.R_lt (zr_ HO_12))) (Kd.R_lt (zr_ HO23))) (Kd.R_lt (zr_ HO26))) (below_size (zl1_ HB GE6)));have n5_:=am_ (blk_below (zb_ BK6) hb);have n6_:=am_ (below_step (zl1_ HB GE6) hb);clear HO_9;clear HO_12;clear HO23;clear HO26;clear BK6;clear HB;have HO_9:=n0_;have HO_12:=n1_;have HO23:=n2_;have HO26:=n3_;have HO31:=n4_;have BK6:=n5_;have HB:=n6_;clear n0_ n1_ n2_ n3_ n4_ n5_ n6_;(try clear hb);(try clear hb2);(try clear hk);(try clear hi);(try clear ho0))|((with_reducible refine gate_callee (f:=61) rfl ?_);refine goesL_ (some 133) rfl rfl Try.func61 (by kernel_rfl) rfl #[.int .i64 t21] rfl zs_ ?_;(with_reducible refine (law1_Num.calls t21 t32 _ A56.out).mono ?_);rintro e w' ⟨rfl,⟨nd,rfl⟩⟩;refine ⟨_,rfl, ?_⟩;obtain ⟨Ao100,co100,eo100⟩:=Kd.R_slice HO23.out;subst eo100)|(go_at_call 62;(with_reducible refine (r10_SameItems.calls kj35 _ _ t20 _ _ t2 false _ ?side1 ?side2 ?side3 ?side4 A58.out).mono ?_);(case side1=>repeat (first|exact (Kd.R_reads' HO23.out).2.2|(with_reducible refine Kd.C_alloc ?_ _)|(with_reducible refine Kd.C_drewN ?_ _)|(with_reducible refine Kd.C_drew ?_)));(case side2=>exact (Kd.R_reads' HO23.out).2.1);(case side3=>repeat (first|exact (Kd.R_reads' HO_9.out).2.2|(with_reducible refine Kd.C_alloc ?_ _)|(with_reducible refine Kd.C_drewN ?_ _)|(with_reducible refine Kd.C_drew ?_)));(case side4=>exact (Kd.R_reads' HO_9.out).2.1);rintro e w' ⟨rfl,⟨nd,rfl⟩⟩))
                go_ret
                exact ⟨by first|rfl|(simp [errW_none,errW_some]<;>rfl)|(simp [*,errW_none,errW_some]<;>rfl),zl1_ HB GE6⟩
              ·rw [if_neg c57] at H
               have c57b0:(t32==0)=false:=beq_eq_false_iff_ne.mpr c57
               have c57b1:(t32 !=0)=true:=bne_iff_ne.mpr c57
               obtain rfl:=Option.some.inj H
               go_wp2_with (first|((with_reducible refine gate_callee (f:=86) rfl ?_);refine goesL_ (some 116) rfl rfl Try.func86 (by kernel_rfl) rfl #[.slice Ao37 t7.length co37, .string a1, .int .i64 1] rfl zs_ ?_;(with_reducible refine (shape_Delete.calls kj35 _ _ t7 a1 1 t20 t21 _ ?side1 ?side2 A53.out).mono ?_);(case side1=>repeat (first|exact (Kd.R_reads' HO_12.out).2.2|(with_reducible refine Kd.C_alloc ?_ _)|(with_reducible refine Kd.C_drewN ?_ _)|(with_reducible refine Kd.C_drew ?_)));(case side2=>exact (Kd.R_reads' HO_12.out).2.1);rintro e w101 ⟨v22,rfl,ho0,hb⟩;refine ⟨_,rfl, ?_⟩;have n0_:=am_ (Kd.R_elder' (zr_ HO_9) (Kd.R_base ho0) hb);have n1_:=am_ (Kd.R_elder' (zr_ HO_12) (Kd.R_base ho0) hb);have n2_:=am_ (Kd.R_lower (Kd.R_new' (Kd.R_new' ho0 (Kd.R_lt (zr_ HO_9))) (Kd.R_lt (zr_ HO_12))) (below_size (zl1_ HB GE6)));have n3_:=am_ (blk_below (zb_ BK6) hb);have n4_:=am_ (below_step (zl1_ HB GE6) hb);clear HO_9;clear HO_12;clear BK6;clear HB;have HO_9:=n0_;have HO_12:=n1_;have HO23:=n2_;have BK6:=n3_;have HB:=n4_;clear n0_ n1_ n2_ n3_ n4_;(try clear hb);(try clear hb2);(try clear hk);(try clear hi);(try clear ho0);have hcz102_0:w101.cell? ⟨gb6,0,none⟩=some (.int .i64 (wrap64 (a3))):=(blk_cell BK6.out 0).trans rfl;have hcz102_1:w101.cell? ⟨gb6,1,none⟩=some (.int .i64 0):=(blk_cell BK6.out 1).trans rfl;have hcz102_2:w101.cell? ⟨gb6,2,none⟩=some (.int .i64 0):=(blk_cell BK6.out 2).trans rfl;have hfz102_0:=blk_frozen BK6.out 0;have hfz102_1:=blk_frozen BK6.out 1;have hfz102_2:=blk_frozen BK6.out 2)|((with_reducible refine gate_callee (f:=84) rfl ?_);refine goesL_ (some 123) rfl rfl Try.func84 (by kernel_rfl) rfl #[.slice Ao14 t2.length co14, .string a1, .string (⟨#[110,111,110,101]⟩:ByteArray), .agg #[.int .i64 (wrap64 (a3)), .int .i64 0, .int .i64 0]] rfl zs_ ?_;(with_reducible refine (shape_Create.calls _ _ t2 a1 (⟨#[110,111,110,101]⟩:ByteArray) (wrap64 (a3)) 0 0 t24 t27 _ ?side1 ?side2 A54.out).mono ?_);(case side1=>repeat (first|exact (Kd.R_reads' HO_9.out).2.2|(with_reducible refine Kd.C_alloc ?_ _)|(with_reducible refine Kd.C_drewN ?_ _)|(with_reducible refine Kd.C_drew ?_)));(case side2=>exact (Kd.R_reads' HO_9.out).2.1);rintro e w103 ⟨v25,rfl,ho0,hb⟩;refine ⟨_,rfl, ?_⟩;have n0_:=am_ (Kd.R_elder' (zr_ HO_9) (Kd.R_base ho0) hb);have n1_:=am_ (Kd.R_elder' (zr_ HO_12) (Kd.R_base ho0) hb);have n2_:=am_ (Kd.R_elder' (zr_ HO23) (Kd.R_base ho0) hb);have n3_:=am_ (Kd.R_lower (Kd.R_new' (Kd.R_new' (Kd.R_new' ho0 (Kd.R_lt (zr_ HO_9))) (Kd.R_lt (zr_ HO_12))) (Kd.R_lt (zr_ HO23))) (below_size (zl1_ HB GE6)));have n4_:=am_ (blk_below (zb_ BK6) hb);have n5_:=am_ (below_step (zl1_ HB GE6) hb);clear HO_9;clear HO_12;clear HO23;clear BK6;clear HB;have HO_9:=n0_;have HO_12:=n1_;have HO23:=n2_;have HO26:=n3_;have BK6:=n4_;have HB:=n5_;clear n0_ n1_ n2_ n3_ n4_ n5_;(try clear hb);(try clear hb2);(try clear hk);(try clear hi);(try clear ho0))|((with_reducible refine gate_callee (f:=86) rfl ?_);refine goesL_ (some 129) rfl rfl Try.func86 (by kernel_rfl) rfl #[.slice Ao37 t7.length co37, .string a1, .int .i64 2] rfl zs_ ?_;(with_reducible refine (shape_Delete.calls kj35 _ _ t7 a1 2 t28 t29 _ ?side1 ?side2 A55.out).mono ?_);(case side1=>repeat (first|exact (Kd.R_reads' HO_12.out).2.2|(with_reducible refine Kd.C_alloc ?_ _)|(with_reducible refine Kd.C_drewN ?_ _)|(with_reducible refine Kd.C_drew ?_)));(case side2=>exact (Kd.R_reads' HO_12.out).2.1);rintro e w104 ⟨v30,rfl,ho0,hb⟩;refine ⟨_,rfl, ?_⟩;have n0_:=am_ (Kd.R_elder' (zr_ HO_9) (Kd.R_base ho0) hb);have n1_:=am_ (Kd.R_elder' (zr_ HO_12) (Kd.R_base ho0) hb);have n2_:=am_ (Kd.R_elder' (zr_ HO23) (Kd.R_base ho0) hb);have n3_:=am_ (Kd.R_elder' (zr_ HO26) (Kd.R_base ho0) hb);have n4_:=am_ (Kd.R_lower (Kd.R_new' (Kd.R_new' (Kd.R_new' (Kd.R_new' ho0 (Kd.R_lt (zr_ HO_9))) (Kd.R_lt (zr_ HO_12))) (Kd.R_lt (zr_ HO23))) (Kd.R_lt (zr_ HO26))) (below_size (zl1_ HB GE6)));have n5_:=am_ (blk_below (zb_ BK6) hb);have n6_:=am_ (below_step (zl1_ HB GE6) hb);clear HO_9;clear HO_12;clear HO23;clear HO26;clear BK6;clear HB;have HO_9:=n0_;have HO_12:=n1_;have HO23:=n2_;have HO26:=n3_;have HO31:=n4_;have BK6:=n5_;have HB:=n6_;clear n0_ n1_ n2_ n3_ n4_ n5_ n6_;(try clear hb);(try clear hb2);(try clear hk);(try clear hi);(try clear ho0))|((with_reducible refine gate_callee (f:=61) rfl ?_);refine goesL_ (some 133) rfl rfl Try.func61 (by kernel_rfl) rfl #[.int .i64 t21] rfl zs_ ?_;(with_reducible refine (law1_Num.calls t21 t32 _ A56.out).mono ?_);rintro e w' ⟨rfl,⟨nd,rfl⟩⟩;refine ⟨_,rfl, ?_⟩))
               go_ret
               exact ⟨by first|rfl|(simp [errW_none,errW_some]<;>rfl)|(simp [*,errW_none,errW_some]<;>rfl),zl1_ HB GE6⟩

def law15_ShapeComes.Pure:Prop:= ∀(l0:List Int) (a1:ByteArray) (a2:Int) (a3:Int),l0.length≤maxLen→l0.length*1≤140737488351232→(∀x∈l0,(Lit.int .u8 x).wf=true)→a1.size≤140737488351232→(Lit.int .u8 a2).wf=true→(Lit.int .u16 a3).wf=true→ ∃k,law15_ShapeComes.f k l0 a1 a2 a3=some true
theorem law15_ShapeComes.walk (P:law15_ShapeComes.Pure) (a0:Option Addr) (len0 cap0:Nat) (z0:List Int) (a1:ByteArray) (a2:Int) (a3:Int) (w:World) (w0:(a0=none∧len0=0∧cap0=0∧z0=[])∨ ∃x,a0=some x∧len0≤cap0∧cap0≤maxLen∧z0.length=cap0∧(∀i,i<z0.length→w.cell? (x.add i)=some (.int .u8 (z0.getD i 0)))∧ ∀n∈z0,(Lit.int .u8 n).wf=true) (y0:len0*1≤140737488351232) (w1:a1.size≤140737488351232) (w2:(Lit.int .u8 a2).wf=true) (w3:(Lit.int .u16 a3).wf=true):
  Calls Try.prog 22 #[.slice a0 len0 cap0, .string a1, .int .u8 a2, .int .u16 a3] w fun e w'=>e= .returned (.bool true)∧Below w.heap.size w w':=by
 obtain ⟨l0,rfl,hr0,hm0,hw0,hc0⟩:=ReadsInt.ofRowC w0
 obtain ⟨k,h⟩:=P l0 a1 a2 a3 hm0 y0 hw0 w1 w2 w3
 refine (law15_ShapeComes.calls k _ _ l0 a1 a2 a3 true w (Kd.C_of_reads (d:=(0:Int)) (h1:=fun _=>rfl) hr0) hc0 h).mono ?_
 rintro e w' ⟨rfl,hd⟩
 exact ⟨rfl,hd⟩

end Go.Proofs.Ytcgefpklljclgaa.Print

namespace Go.Proofs.Ytcgefpklljclgaa.Print
open Go.RowKit Go.Proofs.YtcgefpklljclgaaW.PrintWords Go.Proofs.YtcgefpklljclgaaW.PrintLast
set_option linter.unusedVariables false
set_option linter.unusedSimpArgs false
abbrev Item:=S31
abbrev Vec:=S27
abbrev zItem:Item:=z31
theorem rd_item (l:List Item) (i:Int):rd_T31 l i=l.getD i.toNat zItem:=rfl
instance baLawful:LawfulBEq ByteArray where
 eq_of_beq {a b} h:=by
  obtain ⟨a⟩:=a
  obtain ⟨b⟩:=b
  have:(a==b)=true:=h
  rw [eq_of_beq this]
 rfl {a}:=by
  obtain ⟨a⟩:=a
  show (a==a)=true
  exact beq_self_eq_true a
theorem nm_inj {a b:ByteArray}:a.toList=b.toList↔a=b:=by
  constructor
  · intro h
    rw [ByteArray.toList_eq,ByteArray.toList_eq] at h
    exact ByteArray.ext (Array.toList_inj.1 h)
  · rintro rfl;rfl
theorem nm_beq (a b:ByteArray):(a.toList==b.toList)=decide (a=b):=by
 rw [Bool.eq_iff_iff,beq_iff_eq,nm_inj,decide_eq_true_iff]
theorem nm_empty {a:ByteArray}:a.toList=([]:List UInt8)↔a=⟨#[]⟩:=by
 rw [←nm_inj];rw [show (ByteArray.mk #[]).toList=[] from by rw [ByteArray.toList_eq]]
theorem Ev.const {α:Type} {g:Option α} {r:α} (h:g=some r):Ev (fun _=>g) r:=⟨0,fun _ _=>h⟩
theorem w64 {n:Int} (h0: -9223372036854775808≤n) (h1:n≤9223372036854775807):wrap64 n=n:=by unfold wrap64;omega
def look (l:List Item) (n:ByteArray):Option Item:=l.find? (fun x=>x.f0=n)
def fnd (l:List Item) (n:ByteArray):Int:=fidx (fun x:Item=>x.f0.toList==n.toList) l 0
theorem fidx_none {α:Type} {p:α→Bool}: ∀{l:List α} {i:Int},(∀x∈l,p x=false)→fidx p l i= -1
  |[],_,_=>rfl
  | x :: l, i, h => by
    unfold fidx
    rw [if_neg (by rw [h x (by simp)];simp)]
    exact fidx_none (fun y hy=>h y (by simp [hy]))
theorem fidx_some {α:Type} {p:α→Bool} (z:α): ∀{l:List α} {i:Int} {x:α},l.find? p=some x→ ∃j:Nat,j<l.length∧fidx p l i=i+j∧l.getD j z=x∧p x=true∧ ∀m,m<j→p (l.getD m z)=false
  |[],_,_,h=>by simp at h
  | y :: l, i, x, h => by
    unfold fidx
    by_cases hy:p y=true
    · rw [if_pos hy]
      simp only [List.find?_cons,hy] at h
      obtain rfl:=Option.some.inj h
      exact ⟨0,by simp,by simp,by simp,hy,fun m hm=>by omega⟩
    · rw [if_neg hy]
      have hy':p y=false:=by simpa using hy
      simp only [List.find?_cons,hy'] at h
      obtain ⟨j,hj,h1,h2,h3,h4⟩:=fidx_some z (i:=i+1) h
      refine ⟨j+1,by simp;omega,by rw [h1];omega,by simpa using h2,h3,fun m hm=> ?_⟩
      cases m with
      |zero=>simpa using hy'
      |succ m=>simpa using h4 m (by omega)
theorem look_pred (n:ByteArray):(fun x:Item=>x.f0.toList==n.toList)=(fun x:Item=>decide (x.f0=n)):=by
 funext x;exact nm_beq _ _
theorem look_mem {l:List Item} {n:ByteArray} {x:Item} (h:look l n=some x):x∈l∧x.f0=n:=by
 unfold look at h
 exact ⟨List.mem_of_find?_eq_some h,by simpa using List.find?_some h⟩
theorem look_none {l:List Item} {n:ByteArray}:look l n=none↔ ∀x∈l,x.f0≠n:=by
 unfold look
 simp
theorem fnd_none {l:List Item} {n:ByteArray} (h:look l n=none):fnd l n= -1:=by
 unfold fnd
 refine fidx_none fun x hx=> ?_
 rw [nm_beq]
 simpa using look_none.1 h x hx
theorem fnd_some {l:List Item} {n:ByteArray} {x:Item} (h:look l n=some x): ∃j:Nat,j<l.length∧fnd l n=j∧l.getD j zItem=x∧x.f0=n∧ ∀m,m<j→(l.getD m zItem).f0≠n:=by
 have h':l.find? (fun x:Item=>x.f0.toList==n.toList)=some x:=by rw [look_pred];exact h
 obtain ⟨j,h1,h2,h3,h4,h5⟩:=fidx_some zItem (i:=0) h'
 refine ⟨j,h1,by unfold fnd;rw [h2];omega,h3,by simpa [nm_beq] using h4,fun m hm=> ?_⟩
 simpa [nm_beq] using h5 m hm
theorem fnd_lt (l:List Item) (n:ByteArray):fnd l n<l.length:=by
 cases h:look l n with
 |none=>rw [fnd_none h];omega
 |some x=>obtain ⟨j,h1,h2,_⟩:=fnd_some h;omega
theorem fnd_neg {l:List Item} {n:ByteArray}:fnd l n<0↔look l n=none:=by
 cases h:look l n with
 |none=>rw [fnd_none h];simp
 |some x=>obtain ⟨j,h1,h2,_⟩:=fnd_some h;simp;omega
theorem fnd_ge {l:List Item} {n:ByteArray}:0≤fnd l n↔ ∃x,look l n=some x:=by
 cases h:look l n with
 |none=>rw [fnd_none h];simp
 |some x=>obtain ⟨j,h1,h2,_⟩:=fnd_some h;simp;omega
theorem fnd_rd {l:List Item} {n:ByteArray} {x:Item} (h:look l n=some x):rd_T31 l (fnd l n)=x:=by
 obtain ⟨j,h1,h2,h3,_⟩:=fnd_some h
 rw [rd_item,h2,Int.toNat_natCast];exact h3
theorem tree_Find_eq (l:List Item) (n:ByteArray):tree_Find.f l n=some (fnd l n):=rfl
inductive Chain (l:List Item):ByteArray→List ByteArray→Prop where
 |nil {n:ByteArray}:look l n=none→Chain l n []
 |cons {n:ByteArray} {x:Item} {us:List ByteArray}:look l n=some x→Chain l x.f1 us→Chain l n (n::us)
def upGo (l:List Item):Nat→ByteArray→List ByteArray
  |0,_=> []
  | m + 1, n => match look l n with
    |none=> []
    |some x=>n::upGo l m x.f1
def up (l:List Item) (n:ByteArray):List ByteArray:=upGo l (l.length+1) n
theorem upGo_none {l:List Item} {n:ByteArray} (h:look l n=none) (m:Nat):upGo l m n=[]:=by
 cases m with
 |zero=>rfl
 |succ m=>unfold upGo;rw [h]
theorem upGo_some {l:List Item} {n:ByteArray} {x:Item} (h:look l n=some x) (m:Nat):upGo l (m+1) n=n::upGo l m x.f1:=by
 rw [upGo.eq_2,h]
theorem Chain.det {l:List Item} {n:ByteArray} {us:List ByteArray} (h:Chain l n us): ∀{vs:List ByteArray},Chain l n vs→us=vs:=by
  induction h with
  | nil h =>
    intro vs k
    cases k with
    |nil _=>rfl
    |cons k _=>rw [h] at k;cases k
  | cons h _ ih =>
    intro vs k
    cases k with
    |nil k=>rw [h] at k;cases k
    | cons k k2 =>
      rw [h] at k
      cases k
      rw [ih k2]
theorem Chain.upGo {l:List Item} {n:ByteArray} {us:List ByteArray} (h:Chain l n us): ∀m,us.length≤m→upGo l m n=us:=by
  induction h with
  |nil h=>intro m _;exact upGo_none h m
  | cons h _ ih =>
    intro m hm
    cases m with
    |zero=>simp at hm
    | succ m =>
      rw [upGo_some h,ih m (by simpa using hm)]
theorem upGo_chain (l:List Item): ∀(m:Nat) (n:ByteArray),(upGo l m n).length<m→Chain l n (upGo l m n)
  |0,_,h=>by simp [upGo] at h
  | m + 1, n, h => by
    cases hl:look l n with
    |none=>rw [upGo_none hl];exact .nil hl
    | some x =>
      rw [upGo_some hl] at h ⊢
      exact .cons hl (upGo_chain l m x.f1 (by simpa using h))
theorem up_chain {l:List Item} {n:ByteArray} (h:(up l n).length≤l.length):Chain l n (up l n):=upGo_chain l _ n (by unfold up at h;omega)
theorem Chain.suffix {l:List Item} {n:ByteArray} {us:List ByteArray} (h:Chain l n us): ∀{m:ByteArray},m∈us→ ∃vs ws,us=ws++vs∧Chain l m vs∧ ∃vt,vs=m::vt:=by
  induction h with
  |nil _=>intro m hm;cases hm
  | @cons n x us h k ih =>
    intro m hm
    rcases List.mem_cons.1 hm with rfl|hm
    · exact ⟨_,[],rfl, .cons h k,_,rfl⟩
    · obtain ⟨vs, ws, e, hc, he⟩ := ih hm
      exact ⟨vs,n::ws,by rw [e];rfl,hc,he⟩
theorem Chain.mem_look {l:List Item} {n:ByteArray} {us:List ByteArray} (h:Chain l n us) {m:ByteArray} (hm:m∈us): ∃x,look l m=some x:=by
 obtain ⟨vs,ws,_,hc,vt,rfl⟩:=h.suffix hm
 cases hc with
 |cons h _=>exact ⟨_,h⟩
theorem Chain.nodup {l:List Item} {n:ByteArray} {us:List ByteArray} (h:Chain l n us):us.Nodup:=by
  induction h with
  |nil _=>simp
  | @cons n x us h k ih =>
    rw [List.nodup_cons]
    refine ⟨fun hm=> ?_,ih⟩
    obtain ⟨vs,ws,e,hc,_⟩:=k.suffix hm
    have:=hc.det (.cons h k)
    rw [this] at e
    have:=congrArg List.length e
    simp at this
    omega
theorem Chain.len {l:List Item} {n:ByteArray} {us:List ByteArray} (h:Chain l n us):us.length≤l.length:=by
 have:=h.nodup.length_le_of_subset (l₂:=l.map (·.f0)) (fun m hm=>by
  obtain ⟨x,hx⟩:=h.mem_look hm
  obtain ⟨h1,rfl⟩:=look_mem hx
  exact List.mem_map_of_mem h1)
 simpa using this
theorem Chain.up {l:List Item} {n:ByteArray} {us:List ByteArray} (h:Chain l n us):up l n=us:=h.upGo _ (by have:=h.len;omega)
theorem up_len_iff {l:List Item} {n:ByteArray}:(up l n).length≤l.length↔ ∃us,Chain l n us:=
 ⟨fun h=>⟨_,up_chain h⟩,fun ⟨us,h⟩=>by rw [h.up];exact h.len⟩
def lt (a b:ByteArray):Bool:=Op.bytesLess a.toList b.toList
theorem bl_irrefl: ∀a:List UInt8,Op.bytesLess a a=false
 |[]=>rfl
 |x::a=>by unfold Op.bytesLess;simp [bl_irrefl a]
theorem bl_trans: ∀{a b c:List UInt8},Op.bytesLess a b=true→Op.bytesLess b c=true→Op.bytesLess a c=true
  |[],[],_,h,_=>by simp [Op.bytesLess] at h
  |[],_::_,[],_,k=>by simp [Op.bytesLess] at k
  |[],_::_,_::_,_,_=>by simp [Op.bytesLess]
  |_::_,[],_,h,_=>by simp [Op.bytesLess] at h
  |_::_,_::_,[],_,k=>by simp [Op.bytesLess] at k
  | x :: a, y :: b, z :: c, h, k => by
    simp only [Op.bytesLess,Bool.or_eq_true,Bool.and_eq_true,decide_eq_true_eq,beq_iff_eq] at h k ⊢
    rcases h with h|⟨rfl,h⟩
    · rcases k with k | ⟨rfl, k⟩
      · exact .inl (UInt8.lt_trans h k)
      · exact .inl h
    · rcases k with k | ⟨rfl, k⟩
      · exact .inl k
      · exact .inr ⟨rfl,bl_trans h k⟩
theorem bl_total: ∀{a b:List UInt8},Op.bytesLess a b=false→a≠b→Op.bytesLess b a=true
  |[],[],_,h=>absurd rfl h
  |[],_::_,h,_=>by simp [Op.bytesLess] at h
  |_::_,[],_,_=>by simp [Op.bytesLess]
  | x :: a, y :: b, h, k => by
    simp only [Op.bytesLess,Bool.or_eq_true,Bool.or_eq_false_iff,Bool.and_eq_false_iff,Bool.and_eq_true,decide_eq_true_eq,decide_eq_false_iff_not,beq_iff_eq,beq_eq_false_iff_ne] at h ⊢
    obtain ⟨h1,h2⟩:=h
    by_cases e:x=y
    · subst e
      rcases h2 with h2|h2
      · exact absurd rfl h2
      · exact .inr ⟨rfl,bl_total h2 (fun e=>k (by rw [e]))⟩
    · left
      have h3: ¬x.toNat<y.toNat:=by rwa [←UInt8.lt_iff_toNat_lt]
      have h4:x.toNat≠y.toNat:=fun q=>e (UInt8.toNat_inj.1 q)
      rw [UInt8.lt_iff_toNat_lt];omega
theorem lt_irrefl (a:ByteArray):lt a a=false:=bl_irrefl _
theorem lt_trans {a b c:ByteArray} (h:lt a b=true) (k:lt b c=true):lt a c=true:=bl_trans h k
theorem lt_total {a b:ByteArray} (h:lt a b=false) (k:a≠b):lt b a=true:=bl_total h (fun e=>k (nm_inj.1 e))
theorem lt_ne {a b:ByteArray} (h:lt a b=true):a≠b:=by rintro rfl;rw [lt_irrefl] at h;cases h
inductive Comp where|cpu|mem|pods
def Comp.of:Comp→Vec→Int| .cpu,v=>v.f0| .mem,v=>v.f1| .pods,v=>v.f2
theorem vec_ext {a b:Vec} (h: ∀c:Comp,c.of a=c.of b):a=b:=by
 cases a;cases b
 have h0:=h .cpu;have h1:=h .mem;have h2:=h .pods
 simp [Comp.of] at h0 h1 h2
 simp [h0,h1,h2]
def vadd (a b:Vec):Vec:=⟨a.f0+b.f0,a.f1+b.f1,a.f2+b.f2⟩
theorem of_vadd (c:Comp) (a b:Vec):c.of (vadd a b)=c.of a+c.of b:=by cases c<;>rfl
def MayP (v:Vec):Prop:= ∀c:Comp,0≤c.of v∧c.of v≤1099511627776
def LeP (a b:Vec):Prop:= ∀c:Comp,c.of a≤c.of b
theorem comp_all {p:Comp→Prop}:(∀c,p c)↔p .cpu∧p .mem∧p .pods:=
 ⟨fun h=>⟨h _,h _,h _⟩,fun ⟨a,b,d⟩ c=>by cases c<;>assumption⟩
instance (v:Vec):Decidable (MayP v):=decidable_of_iff _ comp_all.symm
instance (a b:Vec):Decidable (LeP a b):=decidable_of_iff _ comp_all.symm
theorem mayP_iff {a b d:Int}:MayP ⟨a,b,d⟩↔(0≤a∧a≤1099511627776)∧(0≤b∧b≤1099511627776)∧(0≤d∧d≤1099511627776):=comp_all
theorem leP_iff {a b d a' b' d':Int}:LeP ⟨a,b,d⟩ ⟨a',b',d'⟩↔a≤a'∧b≤b'∧d≤d':=comp_all
def sumBy (g:Item→Int) (l:List Item):Int:=(l.map g).sum
theorem sumBy_nil (g:Item→Int):sumBy g []=0:=rfl
theorem sumBy_cons (g:Item→Int) (x:Item) (l:List Item):sumBy g (x::l)=g x+sumBy g l:=by simp [sumBy]
theorem sumBy_append (g:Item→Int) (l m:List Item):sumBy g (l++m)=sumBy g l+sumBy g m:=by simp [sumBy]
theorem sumBy_congr {g h:Item→Int}: ∀{l:List Item},(∀x∈l,g x=h x)→sumBy g l=sumBy h l
 |[],_=>rfl
 |x::l,e=>by rw [sumBy_cons,sumBy_cons,e x (by simp),sumBy_congr (fun y hy=>e y (by simp [hy]))]
theorem sumBy_add (g h:Item→Int): ∀l:List Item,sumBy (fun x=>g x+h x) l=sumBy g l+sumBy h l
 |[]=>rfl
 |x::l=>by rw [sumBy_cons,sumBy_cons,sumBy_cons,sumBy_add g h l];omega
theorem sumBy_map (g:Item→Int) (f:Item→Item): ∀l:List Item,sumBy g (l.map f)=sumBy (fun x=>g (f x)) l
 |[]=>rfl
 |x::l=>by rw [List.map_cons,sumBy_cons,sumBy_cons,sumBy_map g f l]
theorem sumBy_zero {g:Item→Int}: ∀{l:List Item},(∀x∈l,g x=0)→sumBy g l=0
 |[],_=>rfl
 |x::l,e=>by rw [sumBy_cons,e x (by simp),sumBy_zero (fun y hy=>e y (by simp [hy]))];rfl
theorem sumBy_nonneg {g:Item→Int}: ∀{l:List Item},(∀x∈l,0≤g x)→0≤sumBy g l
 |[],_=>by simp [sumBy_nil]
 |x::l,e=>by rw [sumBy_cons];have:=e x (by simp);have:=sumBy_nonneg (l:=l) (fun y hy=>e y (by simp [hy]));omega
theorem sumBy_le {g:Item→Int} {B:Int}: ∀{l:List Item},(∀x∈l,g x≤B)→sumBy g l≤B*l.length
  |[],_=>by simp [sumBy_nil]
  | x :: l, e => by
    rw [sumBy_cons];have:=e x (by simp);have:=sumBy_le (l:=l) (fun y hy=>e y (by simp [hy]))
    simp only [List.length_cons,Int.natCast_succ,Int.mul_add,Int.mul_one];omega
theorem sumBy_one {v:Int} {l:List Item} (hn:(l.map (·.f0)).Nodup) {x:Item} (hx:x∈l):sumBy (fun y=>if y.f0=x.f0 then v else 0) l=v:=by
  induction l with
  |nil=>cases hx
  | cons y l ih =>
    rw [List.map_cons,List.nodup_cons] at hn
    rw [sumBy_cons]
    rcases List.mem_cons.1 hx with rfl|hx
    · rw [if_pos rfl,sumBy_zero (fun z hz=>if_neg (fun e=>hn.1 (by rw [←e];exact List.mem_map_of_mem hz)))];omega
    · rw [if_neg (fun e=>hn.1 (by rw [e];exact List.mem_map_of_mem hx)),ih hn.2 hx];omega
def csum (c:Comp) (l:List Item) (n:ByteArray):Int:=sumBy (fun y=>if y.f1=n then c.of y.f4 else 0) l
structure ItemOK (x:Item):Prop where
 name:x.f0≠⟨#[]⟩
 size:x.f0.size≤24
 lim:MayP x.f2
 own:MayP x.f3
 sub:MayP x.f4
 fit:LeP x.f4 x.f2
 ver:1≤x.f5∧x.f5≤9007199254740992
structure RightP (l:List Item):Prop where
 len:l.length≤120
 ok: ∀x∈l,ItemOK x
 sorted:l.Pairwise (fun x y=>lt x.f0 y.f0=true)
 par: ∀x∈l,x.f1=⟨#[]⟩∨ ∃y,look l x.f1=some y
 sum: ∀c:Comp,∀x∈l,c.of x.f4=c.of x.f3+csum c l x.f0
 chain: ∀x∈l,∃us,Chain l x.f0 us
theorem sorted_nodup {l:List Item} (h:l.Pairwise (fun x y=>lt x.f0 y.f0=true)):(l.map (·.f0)).Nodup:=by
 rw [List.Nodup,List.pairwise_map]
 exact h.imp (fun hxy=>lt_ne hxy)
theorem RightP.nodup {l:List Item} (h:RightP l):(l.map (·.f0)).Nodup:=sorted_nodup h.sorted
theorem look_of_mem {l:List Item} (hn:(l.map (·.f0)).Nodup) {x:Item} (hx:x∈l):look l x.f0=some x:=by
  induction l with
  |nil=>cases hx
  | cons y l ih =>
    rw [List.map_cons,List.nodup_cons] at hn
    unfold look
    rw [List.find?_cons]
    rcases List.mem_cons.1 hx with rfl|hx
    · simp
    · have : y.f0 ≠ x.f0 := fun e => hn.1 (by rw [e]; exact List.mem_map_of_mem hx)
      simp only [this,decide_false]
      exact ih hn.2 hx
theorem RightP.look {l:List Item} (h:RightP l) {x:Item} (hx:x∈l):look l x.f0=some x:=look_of_mem h.nodup hx
theorem RightP.chainAll {l:List Item} (h:RightP l) (n:ByteArray):Chain l n (up l n):=by
  cases hl:Print.look l n with
  |none=>have c:=Chain.nil hl;rw [c.up];exact c
  | some x =>
    obtain ⟨hx,rfl⟩:=look_mem hl
    obtain ⟨us,c⟩:=h.chain x hx
    rw [c.up];exact c
theorem right_nil:RightP []:=⟨by simp,by simp,by simp,by simp,by simp,by simp⟩
theorem RightP.eq_of {l:List Item} (h:RightP l) {x y:Item} (hx:x∈l) (hy:y∈l) (e:x.f0=y.f0):x=y:=by
 have h1:=h.look hx
 rw [e,h.look hy] at h1
 exact (Option.some.inj h1).symm
theorem look_map {f:Item→Item} (hf: ∀x,(f x).f0=x.f0) (l:List Item) (n:ByteArray):look (l.map f) n=(look l n).map f:=by
 unfold look
 rw [List.find?_map]
 congr 2
 funext x
 simp [hf]
theorem Chain.map {f:Item→Item} (hf: ∀x,(f x).f0=x.f0) (hp: ∀x,(f x).f1=x.f1) {l:List Item} {n:ByteArray} {us:List ByteArray} (h:Chain l n us):Chain (l.map f) n us:=by
 induction h with
 |nil h=>exact .nil (by rw [look_map hf,h];rfl)
 |@cons n x us h k ih=>exact .cons (x:=f x) (by rw [look_map hf,h];rfl) (by rw [hp];exact ih)
theorem up_self {l:List Item} {n:ByteArray} {x:Item} (h:look l n=some x):n∈up l n:=by
 unfold up
 rw [upGo_some h]
 simp
theorem chain_kids {l:List Item} (hl:RightP l) {n:ByteArray} {us:List ByteArray} (h:Chain l n us) (v:Int) {x:Item} (hx:x∈l):
    sumBy (fun y=>if y.f1=x.f0∧y.f0∈us then v else 0) l=if x.f0∈us∧x.f0≠n then v else 0:=by
  induction h with
  |nil _=>rw [sumBy_zero (fun y _=>by simp)];simp
  | @cons n z us h k ih =>
    obtain ⟨hz,rfl⟩:=look_mem h
    have hnd:=(Chain.cons h k).nodup
    rw [List.nodup_cons] at hnd
    have e:sumBy (fun y=>if y.f1=x.f0∧y.f0∈z.f0::us then v else 0) l=sumBy (fun y=>(if y.f0=z.f0 then (if z.f1=x.f0 then v else 0) else 0)+(if y.f1=x.f0∧y.f0∈us then v else 0)) l:=by
      refine sumBy_congr fun y hy=> ?_
      by_cases e1:y.f0=z.f0
      · have := hl.eq_of hy hz e1
        subst this
        by_cases e2:y.f1=x.f0<;>simp [e2,hnd.1]
      · simp [e1]
    rw [e,sumBy_add,ih,sumBy_one hl.nodup hz]
    by_cases e2:z.f1=x.f0
    · have hm:x.f0∈us:=by
        rw [e2] at k
        cases k with
        |nil k=>rw [hl.look hx] at k;cases k
        |cons _ _=>simp
      have hne:x.f0≠z.f0:=fun q=>hnd.1 (by rw [←q];exact hm)
      simp [e2,hm,hne]
    · by_cases e3 : x.f0 = z.f0
      · simp [e2, e3, hnd.1]
        exact fun q=>absurd (q.trans e3.symm) e2
      · have e4 : x.f0 ≠ z.f1 := fun q => e2 q.symm
        simp [e2,e3,e4]
def admF (us:List ByteArray) (n:ByteArray) (v:Vec) (x:Item):Item:=⟨x.f0,x.f1,x.f2,if x.f0=n then vadd x.f3 v else x.f3,if x.f0∈us then vadd x.f4 v else x.f4,x.f5⟩
def admL (l:List Item) (n:ByteArray) (v:Vec):List Item:=l.map (admF (up l n) n v)
theorem csum_adm {l:List Item} (hl:RightP l) (c:Comp) (n:ByteArray) (v:Vec) {x:Item} (hx:x∈l):
  csum c (admL l n v) x.f0=csum c l x.f0+if x.f0∈up l n∧x.f0≠n then c.of v else 0:=by
 unfold csum admL
 rw [sumBy_map,←chain_kids hl (hl.chainAll n) (c.of v) hx,←sumBy_add]
 refine sumBy_congr fun y hy=> ?_
 simp only [admF]
 by_cases e1:y.f1=x.f0<;>by_cases e2:y.f0∈up l n<;>simp [e1,e2,of_vadd]
theorem adm_right {l:List Item} (hl:RightP l) {n:ByteArray} (v:Vec) (hin: ∃x,look l n=some x)
    (hown: ∀x∈l,x.f0=n→MayP (vadd x.f3 v)) (hsub: ∀x∈l,x.f0∈up l n→MayP (vadd x.f4 v)) (hfit: ∀x∈l,x.f0∈up l n→LeP (vadd x.f4 v) x.f2):RightP (admL l n v) where
  len:=by unfold admL;rw [List.length_map];exact hl.len
  ok:=by
    intro y hy
    obtain ⟨x,hx,rfl⟩:=List.mem_map.1 hy
    have k:=hl.ok x hx
    refine ⟨k.name,k.size,k.lim, ?_, ?_, ?_,k.ver⟩
    · show MayP (if x.f0 = n then vadd x.f3 v else x.f3)
      split
      · exact hown x hx (by assumption)
      · exact k.own
    · show MayP (if x.f0 ∈ up l n then vadd x.f4 v else x.f4)
      split
      · exact hsub x hx (by assumption)
      · exact k.sub
    · show LeP (if x.f0 ∈ up l n then vadd x.f4 v else x.f4) x.f2
      split
      · exact hfit x hx (by assumption)
      · exact k.fit
  sorted:=by
    unfold admL
    rw [List.pairwise_map]
    exact hl.sorted
  par:=by
    intro y hy
    obtain ⟨x,hx,rfl⟩:=List.mem_map.1 hy
    rcases hl.par x hx with h|⟨z,h⟩
    · exact .inl h
    · exact .inr ⟨_,by unfold admL;rw [look_map (f:=admF (up l n) n v) (fun _=>rfl)];show (look l x.f1).map _=_;rw [h];rfl⟩
  sum:=by
    intro c y hy
    obtain ⟨x,hx,rfl⟩:=List.mem_map.1 hy
    show c.of (if x.f0∈up l n then vadd x.f4 v else x.f4)=c.of (if x.f0=n then vadd x.f3 v else x.f3)+csum c (admL l n v) x.f0
    rw [csum_adm hl c n v hx]
    have hs:=hl.sum c x hx
    by_cases e:x.f0=n
    · have hm:x.f0∈up l n:=by
        obtain ⟨z,hz⟩:=hin
        rw [e];exact up_self hz
      simp [e] at hm ⊢
      rw [if_pos hm,of_vadd,of_vadd,hs,e];omega
    · by_cases hm : x.f0 ∈ up l n
      · simp [e,hm,of_vadd];omega
      · simp [e,hm];omega
  chain:=by
    intro y hy
    obtain ⟨x,hx,rfl⟩:=List.mem_map.1 hy
    obtain ⟨us,h⟩:=hl.chain x hx
    exact ⟨us,h.map (f:=admF (up l n) n v) (fun _=>rfl) (fun _=>rfl)⟩
def insL (l:List Item) (it:Item):List Item:=l.takeWhile (fun x=>lt x.f0 it.f0)++it::l.dropWhile (fun x=>lt x.f0 it.f0)
theorem look_ins (a b:List Item) (it:Item) (n:ByteArray) (h:look (a++b) it.f0=none):look (a++it::b) n=if n=it.f0 then some it else look (a++b) n:=by
  unfold look at h ⊢
  rw [List.find?_append] at h ⊢
  rw [List.find?_append,List.find?_cons]
  by_cases e:it.f0=n
  · subst e
    cases ha:a.find? (fun x=>decide (x.f0=it.f0)) with
    |some y=>rw [ha] at h;simp at h
    |none=>simp
  · have e' : n ≠ it.f0 := fun q => e q.symm
    simp [e,e']
theorem insL_eq (l:List Item) (it:Item): ∃a b,l=a++b∧insL l it=a++it::b∧(∀x∈a,lt x.f0 it.f0=true)∧(∀x t,b=x::t→lt x.f0 it.f0=false):=by
  refine ⟨l.takeWhile (fun x=>lt x.f0 it.f0),l.dropWhile (fun x=>lt x.f0 it.f0),(List.takeWhile_append_dropWhile).symm,rfl,fun x hx=> ?_,fun x t e=> ?_⟩
  · exact List.all_eq_true.1 (List.all_takeWhile (p:=fun x:Item=>lt x.f0 it.f0) (l:=l)) x hx
  · have := List.head?_dropWhile_not (fun x : Item => lt x.f0 it.f0) l
    rw [e] at this
    simpa using this
theorem csum_ins (c:Comp) (a b:List Item) (it:Item) (n:ByteArray):csum c (a++it::b) n=csum c (a++b) n+if it.f1=n then c.of it.f4 else 0:=by
 unfold csum
 rw [sumBy_append,sumBy_append,sumBy_cons];omega
theorem ins_right {l:List Item} (hl:RightP l) {it:Item} (hi:ItemOK it) (h0: ∀c:Comp,c.of it.f3=0∧c.of it.f4=0) (hn:look l it.f0=none)
    (hp:it.f1=⟨#[]⟩∨ ∃y,look l it.f1=some y) (hlen:l.length<120):RightP (insL l it):=by
  obtain ⟨a,b,e,e',ha,hb⟩:=insL_eq l it
  rw [e']
  subst e
  have hlk:=fun n=>look_ins a b it n hn
  have hmem: ∀x,x∈a++it::b↔x=it∨x∈a++b:=fun x=>by simp;constructor<;>(intro h;rcases h with h|h|h<;>simp [h])
  have hnew: ∀m y,look (a++b) m=some y→m≠it.f0:=fun m y h q=>by rw [q,hn] at h;cases h
  have hne:it.f0≠⟨#[]⟩:=hi.name
  have hpar: ∀x∈a++b,x.f1≠it.f0:=fun x hx q=>by
    rcases hl.par x hx with h|⟨y,h⟩
    · exact hne (q.symm.trans h)
    · exact hnew _ _ h q
  have hch: ∀{n us},Chain (a++b) n us→n≠it.f0→Chain (a++it::b) n us:=by
    intro n us h
    induction h with
    |nil h=>intro q;exact .nil (by rw [hlk,if_neg q];exact h)
    | @cons n x us h k ih =>
      intro q
      exact .cons (x:=x) (by rw [hlk,if_neg q];exact h) (ih (hpar x (look_mem h).1))
  have hip:it.f1≠it.f0:=by
    rcases hp with h|⟨y,h⟩
    · rw [h];exact fun q=>hne q.symm
    · exact hnew _ _ h
  refine ⟨?_, ?_, ?_, ?_, ?_, ?_⟩
  · simp at hlen ⊢;omega
  · intro x hx
    rcases (hmem x).1 hx with rfl|hx
    · exact hi
    · exact hl.ok x hx
  · have hs := hl.sorted
    rw [List.pairwise_append] at hs ⊢
    obtain ⟨h1,h2,h3⟩:=hs
    have hbx: ∀y∈b,lt it.f0 y.f0=true:=by
      intro y hy
      cases b with
      |nil=>cases hy
      | cons x t =>
        have hx:lt it.f0 x.f0=true:=lt_total (hb x t rfl) (fun q=>look_none.1 hn x (by simp) q)
        rcases List.mem_cons.1 hy with rfl|hy
        · exact hx
        · exact lt_trans hx ((List.pairwise_cons.1 h2).1 y hy)
    refine ⟨h1,List.pairwise_cons.2 ⟨hbx,h2⟩,fun x hx y hy=> ?_⟩
    rcases List.mem_cons.1 hy with rfl|hy
    · exact ha x hx
    · exact h3 x hx y hy
  · intro x hx
    rcases (hmem x).1 hx with rfl|hx
    · rcases hp with h | ⟨y, h⟩
      · exact .inl h
      · exact .inr ⟨y,by rw [hlk,if_neg hip];exact h⟩
    · rcases hl.par x hx with h | ⟨y, h⟩
      · exact .inl h
      · exact .inr ⟨y,by rw [hlk,if_neg (hpar x hx)];exact h⟩
  · intro c x hx
    rw [csum_ins,(h0 c).2,ite_self,Int.add_zero]
    rcases (hmem x).1 hx with rfl|hx
    · rw [(h0 c).1, (h0 c).2]
      unfold csum
      rw [sumBy_zero (fun y hy=>if_neg (hpar y hy))];rfl
    · exact hl.sum c x hx
  · intro x hx
    rcases (hmem x).1 hx with rfl|hx
    · have := hch (hl.chainAll x.f1) hip
      exact ⟨_, .cons (x:=x) (by rw [hlk,if_pos rfl]) this⟩
    · obtain ⟨us, h⟩ := hl.chain x hx
      exact ⟨us,hch h (fun q=>look_none.1 hn x hx q)⟩
theorem ite_iff {α:Type} {p q:Prop} [Decidable p] [Decidable q] (h:p↔q) {a b:α}:(if p then a else b)=if q then a else b:=by
  by_cases hp:p
  · rw [if_pos hp,if_pos (h.1 hp)]
  · rw [if_neg hp,if_neg (fun k=>hp (h.2 k))]
theorem r10_Le_eq (a b d a' b' d':Int):r10_Le.f a b d a' b' d'=some (decide (LeP ⟨a,b,d⟩ ⟨a',b',d'⟩)):=by
 unfold r10_Le.f
 by_cases h0:a≤a'<;>by_cases h1:b≤b'<;>simp [h0,h1,leP_iff]
theorem r10_unit_eq (a:Int):r10_unit.f a=some (decide (0≤a∧a≤1099511627776)):=by
  unfold r10_unit.f
  by_cases h0:0≤a
  · rw [if_pos (by omega)];simp [h0]
  · rw [if_neg (by omega)];simp [h0]
theorem r10_MayVec_eq (a b d:Int):r10_MayVec.f a b d=some (decide (MayP ⟨a,b,d⟩)):=by
 unfold r10_MayVec.f
 simp only [r10_unit_eq,Option.bind_some]
 by_cases h0:0≤a∧a≤1099511627776<;>by_cases h1:0≤b∧b≤1099511627776<;>simp [h0,h1,mayP_iff]
theorem r10_MayName_eq (n:ByteArray):r10_MayName.f n=some (decide (n≠⟨#[]⟩∧n.size≤24)):=by
  unfold r10_MayName.f
  by_cases h:n=⟨#[]⟩
  · rw [if_pos (nm_empty.2 h)];simp [h]
  · rw [if_neg (fun q=>h (nm_empty.1 q))];simp [h];omega
theorem r10_copied_eq (l:List Item) (h:l.length<1000000):r10_copied.f l=some l:=by
 unfold r10_copied.f
 simp only [Option.bind_some,List.length_nil,List.nil_append]
 rw [if_pos (by omega)]
theorem r10_Find_l0 (l:List Item) (n:ByteArray) (hl:l.length<1000000): ∀(d i:Nat),l.length - i=d→i≤l.length→
    Ev (fun k=>r10_Find.l0 k l n i) (fidx (fun x:Item=>x.f0.toList==n.toList) (l.drop i) i)
  | 0, i, hd, hi => by
    obtain rfl:i=l.length:=by omega
    refine Ev.step (f:=fun _=>some (-1)) (fun k=> ?_) (by rw [List.drop_length];exact Ev.now _)
    simp only [r10_Find.l0]
    rw [if_neg (by omega)]
  | d + 1, i, hd, hi => by
    have hlt:i<l.length:=by omega
    rw [fidx_drop _ zItem l i hlt]
    have hrd:rd_T31 l (i:Int)=l.getD i zItem:=by rw [rd_item,Int.toNat_natCast]
    by_cases e:(l.getD i zItem).f0.toList=n.toList
    · rw [if_pos (beq_iff_eq.2 e)]
      refine Ev.step (f:=fun _=>some (i:Int)) (fun k=> ?_) (Ev.now _)
      simp only [r10_Find.l0]
      rw [if_pos (by omega),if_pos (by omega),hrd,if_pos e]
    · rw [if_neg (fun q => e (beq_iff_eq.1 q))]
      refine Ev.step (f:=fun k=>r10_Find.l0 k l n ((i+1:Nat):Int)) (fun k=> ?_) (r10_Find_l0 l n hl d (i+1) (by omega) (by omega))
      simp only [r10_Find.l0]
      rw [if_pos (by omega),if_pos (by omega),hrd,if_neg e,w64 (by omega) (by omega)]
      rfl
theorem r10_Find_ev (l:List Item) (n:ByteArray) (hl:l.length<1000000):Ev (fun k=>r10_Find.f k l n) (fnd l n):=r10_Find_l0 l n hl _ 0 rfl (by omega)
theorem r10_Up_l0 (l:List Item) (hl:l.length<1000000): ∀(m:Nat) (n:ByteArray) (out:List ByteArray),out.length+m=l.length+1→
    Ev (fun k=>r10_Up.l0 k l out (fnd l n)) (out++upGo l m n)
  | 0, n, out, hm => by
    rw [upGo.eq_1,List.append_nil]
    refine Ev.step (f:=fun _=>some out) (fun k=> ?_) (Ev.now _)
    simp only [r10_Up.l0]
    by_cases h:0≤fnd l n
    · rw [if_pos h,if_neg (by omega)]
    · rw [if_neg h]
  | m + 1, n, out, hm => by
    cases h:look l n with
    | none =>
      rw [upGo_none h,List.append_nil]
      refine Ev.step (f:=fun _=>some out) (fun k=> ?_) (Ev.now _)
      simp only [r10_Up.l0]
      rw [fnd_none h,if_neg (by omega)]
    | some x =>
      rw [upGo_some h]
      have h0:=fnd_ge.2 ⟨x,h⟩
      have h1:=fnd_lt l n
      obtain ⟨hx,hn⟩:=look_mem h
      refine Ev.step (f:=fun k=>(r10_Find.f k l x.f1).bind fun t=>r10_Up.l0 k l (out++ [n]) t) (fun k=> ?_) (Ev.bind (r10_Find_ev l x.f1 hl) ?_)
      · simp only [r10_Up.l0]
        rw [if_pos h0,if_pos (by omega),if_pos h0,if_pos h1,if_pos (by omega),fnd_rd h,hn]
      · have := r10_Up_l0 l hl m x.f1 (out ++ [n]) (by simp; omega)
        simpa using this
theorem r10_Up_ev (l:List Item) (n:ByteArray) (hl:l.length<1000000):Ev (fun k=>r10_Up.f k l n) (up l n):=
 Ev.bind (r10_Find_ev l n hl) (by have:=r10_Up_l0 l hl (l.length+1) n [] (by simp);rw [List.nil_append] at this;exact this)
theorem set_at {l:List Item} (hn:(l.map (·.f0)).Nodup) {n:ByteArray} {x:Item} (h:look l n=some x) (y:Item):
    l.set (fnd l n).toNat y=l.map (fun z=>if z.f0=n then y else z):=by
  obtain ⟨j,h1,h2,h3,h4,h5⟩:=fnd_some h
  rw [h2,Int.toNat_natCast]
  have hx:l[j]=x:=by rw [←h3];simp [h1]
  apply List.ext_getElem (by simp)
  intro m hm hm'
  simp only [List.length_set] at hm
  rw [List.getElem_set,List.getElem_map]
  by_cases e:j=m
  · subst e
    rw [if_pos rfl,if_pos (by rw [hx];exact h4)]
  · rw [if_neg e, if_neg]
    intro q
    have h6:(l.map (·.f0))[j]'(by simpa using h1)=(l.map (·.f0))[m]'(by simpa using hm):=by simp [hx,h4,q]
    exact e ((List.getElem_inj hn).1 h6)
theorem fnd_map {f:Item→Item} (hf: ∀x,(f x).f0=x.f0) (l:List Item) (n:ByteArray):fnd (l.map f) n=fnd l n:=by
 have: ∀(l:List Item) (i:Int),fidx (fun x:Item=>x.f0.toList==n.toList) (l.map f) i=fidx (fun x:Item=>x.f0.toList==n.toList) l i:=by
  intro l
  induction l with
  |nil=>intro i;rfl
  |cons x l ih=>intro i;simp only [List.map_cons,fidx,hf,ih]
 exact this l 0
def admS (us:List ByteArray) (v:Vec) (x:Item):Item:=⟨x.f0,x.f1,x.f2,x.f3,if x.f0∈us then vadd x.f4 v else x.f4,x.f5⟩
def admR (l:List Item) (n:ByteArray) (v:Vec):List Item×Int:=
 if¬MayP v then ([],1) else if (look l n).isNone=true then ([],2) else if∀x∈l,x.f0∈up l n→LeP (vadd x.f4 v) x.f2 then (admL l n v,0) else ([],12)
theorem vadd_wrap {a b:Vec} (ha:MayP a) (hb:MayP b):(wrap64 (a.f0+b.f0),wrap64 (a.f1+b.f1),wrap64 (a.f2+b.f2))=((vadd a b).f0,(vadd a b).f1,(vadd a b).f2):=by
 have a0:=ha .cpu;have a1:=ha .mem;have a2:=ha .pods
 have b0:=hb .cpu;have b1:=hb .mem;have b2:=hb .pods
 simp only [Comp.of] at a0 a1 a2 b0 b1 b2
 rw [w64 (by omega) (by omega),w64 (by omega) (by omega),w64 (by omega) (by omega)]
 rfl
theorem r10_Add_eq {a b:Vec} (ha:MayP a) (hb:MayP b):r10_Add.f a.f0 a.f1 a.f2 b.f0 b.f1 b.f2=some ((vadd a b).f0,(vadd a b).f1,(vadd a b).f2):=by
 unfold r10_Add.f;rw [vadd_wrap ha hb]
theorem look_admS (us:List ByteArray) (v:Vec) (l:List Item) (n:ByteArray):look (l.map (admS us v)) n=(look l n).map (admS us v):=look_map (f:=admS us v) (fun _=>rfl) l n
theorem drop_cons {us:List ByteArray} {i:Nat} (h:i<us.length):us.drop i=rdOf ByteArray.empty us i::us.drop (i+1):=by
 rw [List.drop_eq_getElem_cons h];simp [rdOf,h]
theorem take_snoc_ {us:List ByteArray} {i:Nat} (h:i<us.length):us.take (i+1)=us.take i++ [rdOf ByteArray.empty us i]:=by
 rw [List.take_succ_eq_append_getElem h];simp [rdOf,h]
theorem fnd_admS (us:List ByteArray) (v:Vec) (l:List Item) (n:ByteArray):fnd (l.map (admS us v)) n=fnd l n:=fnd_map (f:=admS us v) (fun _=>rfl) l n
theorem nodup_admS {us:List ByteArray} {v:Vec} {l:List Item} (h:(l.map (·.f0)).Nodup):((l.map (admS us v)).map (·.f0)).Nodup:=by
 rw [List.map_map];exact h
theorem r10_Admit_l0 {l:List Item} (hl:RightP l) (n:ByteArray) {v:Vec} (hv:MayP v) (hin: ∃x,look l n=some x): ∀(d i:Nat),(up l n).length - i=d→i≤(up l n).length→
    Ev (fun k=>r10_Admit.l0 k n (up l n) (l.map (admS ((up l n).take i) v)) i v.f0 v.f1 v.f2) (if∀x∈l,x.f0∈(up l n).drop i→LeP (vadd x.f4 v) x.f2 then (admL l n v,0) else ([],12))
  | 0, i, hd, hi => by
    obtain rfl:i=(up l n).length:=by omega
    rw [List.drop_length,List.take_length,if_pos (by simp)]
    obtain ⟨x,hx⟩:=hin
    obtain ⟨hm,hxn⟩:=look_mem hx
    have hlk:look (l.map (admS (up l n) v)) n=some (admS (up l n) v x):=by rw [look_admS,hx];rfl
    have h0:0≤fnd l n:=fnd_ge.2 ⟨x,hx⟩
    have h1:fnd l n<l.length:=fnd_lt l n
    obtain ⟨K,hK⟩:=r10_Find_ev (l.map (admS (up l n) v)) n (by rw [List.length_map];have:=hl.len;omega)
    dsimp only at hK
    refine ⟨K+1,fun k hk=> ?_⟩
    obtain ⟨k,rfl⟩: ∃m,k=m+1:=⟨k - 1,by omega⟩
    have hrd:=fnd_rd hlk
    rw [fnd_admS] at hrd
    simp only [r10_Admit.l0]
    rw [if_neg (by omega),hK k (by omega),fnd_admS]
    simp only [Option.bind_some]
    rw [if_pos h0,if_pos (by rw [List.length_map];omega),hrd,r10_Add_eq (a:=(admS (up l n) v x).f3) (hl.ok x hm).own hv]
    simp only [Option.bind_some]
    have hset:=set_at (nodup_admS (us:=up l n) (v:=v) hl.nodup) hlk
    rw [fnd_admS] at hset
    rw [hset,List.map_map]
    congr 2
    unfold admL
    refine List.map_congr_left fun z hz=> ?_
    simp only [Function.comp,admF]
    by_cases e:z.f0=n
    · obtain rfl : z = x := hl.eq_of hz hm (e.trans hxn.symm)
      rw [if_pos (by exact e),if_pos e]
      rfl
    · rw [if_neg (by exact e), if_neg e]
      rfl
  | d + 1, i, hd, hi => by
    have hlt:i<(up l n).length:=by omega
    have hc:=hl.chainAll n
    have hnd:=hc.nodup
    rw [drop_cons hlt]
    have hu:rdOf ByteArray.empty (up l n) i∈up l n:=by simp [rdOf,hlt]
    obtain ⟨x,hx⟩:=hc.mem_look hu
    obtain ⟨hm,hxn⟩:=look_mem hx
    have hnot:x.f0 ∉ (up l n).take i:=by
      rw [hxn]
      rw [←List.take_append_drop i (up l n),drop_cons hlt,List.nodup_append] at hnd
      exact fun q=>hnd.2.2 _ q _ (by simp) rfl
    generalize hU:rdOf ByteArray.empty (up l n) i=u at*
    have hlk:look (l.map (admS ((up l n).take i) v)) u=some (admS ((up l n).take i) v x):=by rw [look_admS,hx];rfl
    have hsame:admS ((up l n).take i) v x=x:=by unfold admS;rw [if_neg hnot]
    rw [hsame] at hlk
    have h0:0≤fnd l u:=fnd_ge.2 ⟨x,hx⟩
    have h1:fnd l u<l.length:=fnd_lt l u
    have hrd:=fnd_rd hlk
    have hset:=set_at (nodup_admS (us:=(up l n).take i) (v:=v) hl.nodup) hlk
    rw [fnd_admS] at hrd
    rw [fnd_admS] at hset
    obtain ⟨K,hK⟩:=r10_Find_ev (l.map (admS ((up l n).take i) v)) u (by rw [List.length_map];have:=hl.len;omega)
    obtain ⟨K',hK'⟩:=r10_Admit_l0 hl n hv hin d (i+1) (by omega) (by omega)
    dsimp only at hK hK'
    refine ⟨K+K'+1,fun k hk=> ?_⟩
    obtain ⟨k,rfl⟩: ∃m,k=m+1:=⟨k - 1,by omega⟩
    have hup:(up l n).length≤l.length:=hc.len
    have hlen:=hl.len
    simp only [r10_Admit.l0]
    rw [if_pos (by omega),if_pos (by omega),hU,hK k (by omega),fnd_admS]
    simp only [Option.bind_some]
    rw [if_pos h0,if_pos (by rw [List.length_map];omega),hrd,r10_Add_eq (a:=x.f4) (hl.ok x hm).sub hv]
    simp only [Option.bind_some]
    rw [hset,List.map_map]
    have hnew:(l.map ((fun z:Item=>if z.f0=u then (⟨x.f0,x.f1,⟨x.f2.f0,x.f2.f1,x.f2.f2⟩,⟨x.f3.f0,x.f3.f1,x.f3.f2⟩,⟨(vadd x.f4 v).f0,(vadd x.f4 v).f1,(vadd x.f4 v).f2⟩,x.f5⟩:Item) else z) ∘ admS ((up l n).take i) v))=l.map (admS ((up l n).take (i+1)) v):=by
      refine List.map_congr_left fun z hz=> ?_
      simp only [Function.comp]
      rw [take_snoc_ hlt,hU]
      by_cases e:z.f0=u
      · obtain rfl : z = x := hl.eq_of hz hm (e.trans hxn.symm)
        rw [if_pos (by exact e)]
        unfold admS
        rw [if_pos (by simp [e])]
      · rw [if_neg (by exact e)]
        unfold admS
        simp [e]
    rw [hnew]
    have hlk2:look (l.map (admS ((up l n).take (i+1)) v)) u=some (admS ((up l n).take (i+1)) v x):=by rw [look_admS,hx];rfl
    have hrd2:=fnd_rd hlk2
    rw [fnd_admS] at hrd2
    have hx2:admS ((up l n).take (i+1)) v x=⟨x.f0,x.f1,x.f2,x.f3,vadd x.f4 v,x.f5⟩:=by unfold admS;rw [if_pos (by rw [take_snoc_ hlt,hU,hxn];simp)]
    rw [hrd2,hx2,r10_Le_eq]
    simp only [Option.bind_some]
    by_cases hfit:LeP (vadd x.f4 v) x.f2
    · rw [if_pos (by exact decide_eq_true hfit), w64 (by omega) (by omega)]
      have h2:=hK' k (by omega)
      rw [show ((i:Int)+1)=((i+1:Nat):Int) from by omega,h2]
      congr 1
      refine ite_iff ⟨fun q z hz hzm=> ?_,fun q z hz hzm=>q z hz (by simp [hzm])⟩
      rcases List.mem_cons.1 hzm with e|hzm
      · obtain rfl : z = x := hl.eq_of hz hm (e.trans hxn.symm)
        exact hfit
      · exact q z hz hzm
    · rw [if_neg (by simpa using hfit), if_neg (fun q => hfit (q x hm (by rw [hxn]; simp)))]
      rfl
theorem r10_Admit_ev {l:List Item} (hl:RightP l) (n:ByteArray) (v:Vec):Ev (fun k=>r10_Admit.f k l n v.f0 v.f1 v.f2) (admR l n v):=by
  have hlen:=hl.len
  refine Ev.bind (r10_Up_ev l n (by omega)) ?_
  have hmv:r10_MayVec.f v.f0 v.f1 v.f2=some (decide (MayP v)):=r10_MayVec_eq _ _ _
  unfold admR
  by_cases hv:MayP v
  · rw [if_neg (by simpa using hv)]
    cases hx:look l n with
    | none =>
      rw [if_pos (show (none:Option Item).isNone=true from rfl)]
      refine Ev.congr (fun k=> ?_) (Ev.now _)
      rw [hmv]
      simp only [Option.bind_some]
      rw [if_pos (by exact decide_eq_true hv),show up l n=[] from upGo_none hx _]
      rfl
    | some x =>
      rw [if_neg (by simp)]
      have h:=r10_Admit_l0 hl n hv ⟨x,hx⟩ _ 0 rfl (by omega)
      rw [List.take_zero,List.drop_zero,show l.map (admS [] v)=l from by rw [show admS [] v=id from by funext z;simp [admS]];simp] at h
      refine Ev.congr (fun k=> ?_) h
      rw [hmv]
      simp only [Option.bind_some]
      have:(up l n).length≠0:=by have:=up_self hx;intro q;rw [List.length_eq_zero_iff.1 q] at this;cases this
      rw [if_pos (by exact decide_eq_true hv),if_neg (by omega),r10_copied_eq l (by omega)]
      rfl
  · rw [if_pos hv]
    refine Ev.congr (fun k=> ?_) (Ev.now _)
    rw [hmv]
    simp only [Option.bind_some]
    rw [if_neg (by simpa using hv)]
    rfl
def zVec:Vec:=⟨0,0,0⟩
def newItem (n p:ByteArray) (v:Vec):Item:=⟨n,p,v,zVec,zVec,1⟩
def creR (l:List Item) (n p:ByteArray) (v:Vec):List Item×Int:=
 if¬((n≠⟨#[]⟩∧n.size≤24)∧MayP v) then ([],1) else if (look l n).isSome=true then ([],3) else if p≠⟨#[]⟩∧(look l p).isNone=true then ([],2) else if 120≤l.length then ([],4) else (insL l (newItem n p v),0)
theorem insL_cons (x:Item) (l:List Item) (it:Item):insL (x::l) it=if lt x.f0 it.f0=true then x::insL l it else it::x::l:=by
 unfold insL
 rw [List.takeWhile_cons,List.dropWhile_cons]
 cases lt x.f0 it.f0<;>simp
theorem r10_Create_l0 (n p:ByteArray) (v:Vec) (b:List Item): ∀(a l:List Item),l=a++b→l.length<1000000→Ev (fun k=>r10_Create.l0 k l n p a.length v.f0 v.f1 v.f2) (a++insL b (newItem n p v),0):=by
  induction b with
  | nil =>
    rintro a l rfl hl
    simp only [List.append_nil] at hl ⊢
    refine Ev.step (f:=fun _=>some (a++ [newItem n p v],0)) (fun k=> ?_) (Ev.now _)
    simp only [r10_Create.l0]
    rw [if_neg (by omega),if_pos (by omega),if_pos (by omega),Int.toNat_natCast,List.take_length,r10_copied_eq a (by omega)]
    simp only [Option.bind_some,List.drop_length,List.length_append,List.length_cons,List.length_nil]
    rw [if_pos (by omega),if_pos (by omega),List.append_nil]
    rfl
  | cons x b ih =>
    rintro a l rfl hl
    have hlen:(a++x::b).length=a.length+b.length+1:=by simp;omega
    have hrd:rd_T31 (a++x::b) (a.length:Int)=x:=by rw [rd_item,Int.toNat_natCast];simp
    rw [insL_cons]
    by_cases e:lt x.f0 n=true
    · rw [if_pos (by exact e)]
      have h:=ih (a++ [x]) (a++x::b) (by simp) hl
      refine Ev.step (f:=fun k=>r10_Create.l0 k (a++x::b) n p (a++ [x]).length v.f0 v.f1 v.f2) (fun k=> ?_) (by simpa using h)
      simp only [r10_Create.l0]
      rw [if_pos (by omega),if_pos (by omega),hrd,if_pos (by exact e),w64 (by omega) (by omega)]
      simp
    · rw [if_neg (by exact e)]
      refine Ev.step (f:=fun _=>some (a++newItem n p v::x::b,0)) (fun k=> ?_) (Ev.now _)
      simp only [r10_Create.l0]
      rw [if_pos (by omega),if_pos (by omega),hrd,if_neg (by exact e),if_pos (by omega),Int.toNat_natCast,List.take_left,r10_copied_eq a (by omega)]
      simp only [Option.bind_some,List.drop_left,List.length_append,List.length_cons,List.length_nil]
      rw [if_pos (by omega),if_pos (by omega)]
      simp
      rfl
theorem r10_Create_ev {l:List Item} (hl:l.length<1000000) (n p:ByteArray) (v:Vec):Ev (fun k=>r10_Create.f k l n p v.f0 v.f1 v.f2) (creR l n p v):=by
  have hmv:r10_MayVec.f v.f0 v.f1 v.f2=some (decide (MayP v)):=r10_MayVec_eq _ _ _
  have hno: ∀e:Int,((r10_no.f e).bind fun bt=>some (bt.1,bt.2))=some (([]:List Item),e):=fun _=>rfl
  have hj1: ∀b,Ev (fun k=>r10_Create.j1 k l n p b v.f0 v.f1 v.f2) (if b=true then ([],2) else if 120≤l.length then ([],4) else (insL l (newItem n p v),0)):=by
    intro b
    cases b with
    | true =>
      refine Ev.step (f:=fun _=>some ([],2)) (fun k=> ?_) (Ev.now _)
      simp only [r10_Create.j1,if_true]
      exact hno 2
    | false =>
      simp only [Bool.false_eq_true,if_false]
      by_cases h:120≤l.length
      · rw [if_pos h]
        refine Ev.step (f:=fun _=>some ([],4)) (fun k=> ?_) (Ev.now _)
        simp only [r10_Create.j1,Bool.false_eq_true,if_false]
        rw [if_pos (by omega)];exact hno 4
      · rw [if_neg h]
        refine Ev.step (f:=fun k=>r10_Create.l0 k l n p 0 v.f0 v.f1 v.f2) (fun k=> ?_) (by have:=r10_Create_l0 n p v l [] l rfl hl;simpa using this)
        simp only [r10_Create.j1,Bool.false_eq_true,if_false]
        rw [if_neg (by omega)]
  have hj0: ∀b,Ev (fun k=>r10_Create.j0 k l n p b v.f0 v.f1 v.f2) (if b=true then ([],1) else if (look l n).isSome=true then ([],3) else if p≠⟨#[]⟩∧(look l p).isNone=true then ([],2) else if 120≤l.length then ([],4) else (insL l (newItem n p v),0)):=by
    intro b
    cases b with
    | true =>
      refine Ev.step (f:=fun _=>some ([],1)) (fun k=> ?_) (Ev.now _)
      simp only [r10_Create.j0,if_true]
      exact hno 1
    | false =>
      simp only [Bool.false_eq_true,if_false]
      refine Ev.step (f:=fun k=>(r10_Find.f k l n).bind fun t=>if t≥0 then some ([],3) else if p.toList=([]:List UInt8) then r10_Create.j1 k l n p false v.f0 v.f1 v.f2 else (r10_Find.f k l p).bind fun t=>r10_Create.j1 k l n p (decide (t<0)) v.f0 v.f1 v.f2) (fun k=> ?_) (Ev.bind (r10_Find_ev l n hl) ?_)
      · simp only [r10_Create.j0,Bool.false_eq_true,if_false];rfl
      · cases hn : look l n with
        | some x =>
          refine Ev.congr (fun k=> ?_) (Ev.now _)
          rw [if_pos (fnd_ge.2 ⟨x,hn⟩)];rfl
        | none =>
          simp only [Option.isSome_none,Bool.false_eq_true,if_false]
          by_cases hp:p=⟨#[]⟩
          · have h := hj1 false
            simp only [Bool.false_eq_true,if_false] at h
            rw [if_neg (fun q=>q.1 hp)]
            refine Ev.congr (fun k=> ?_) h
            rw [fnd_none hn,if_neg (by omega),if_pos (nm_empty.2 hp)]
          · have h := hj1 (decide (fnd l p < 0))
            refine Ev.congr (g:=fun k=>_) (f:=fun k=>(r10_Find.f k l p).bind fun t=>r10_Create.j1 k l n p (decide (t<0)) v.f0 v.f1 v.f2) (fun k=> ?_) (Ev.bind (r10_Find_ev l p hl) ?_)
            · rw [fnd_none hn,if_neg (by omega),if_neg (fun q=>hp (nm_empty.1 q))]
            · have e:(p≠⟨#[]⟩∧(look l p).isNone=true)↔(decide (fnd l p<0)=true):=by
                rw [decide_eq_true_iff,fnd_neg];simp [hp]
              rw [ite_iff e];exact h
  unfold creR
  by_cases hn:n≠⟨#[]⟩∧n.size≤24
  · have h := hj0 (!decide (MayP v))
    rw [ite_iff (q:=(!decide (MayP v))=true) (by simp [hn])]
    refine Ev.congr (fun k=> ?_) h
    unfold r10_Create.f
    rw [r10_MayName_eq,hmv]
    simp only [Option.bind_some]
    rw [if_pos (by exact decide_eq_true hn)]
  · have h := hj0 true
    rw [if_pos (fun q=>hn q.1)]
    rw [if_pos rfl] at h
    refine Ev.congr (fun k=> ?_) h
    unfold r10_Create.f
    rw [r10_MayName_eq]
    simp only [Option.bind_some]
    rw [if_neg (by simpa using hn)]
theorem creR_right {l:List Item} (hl:RightP l) {n p:ByteArray} {v:Vec} (h:(creR l n p v).2=0):
    (creR l n p v).1=insL l (newItem n p v)∧RightP (insL l (newItem n p v))∧look l n=none∧l.length<120∧n≠⟨#[]⟩∧n.size≤24∧MayP v∧(p=⟨#[]⟩∨ ∃y,look l p=some y):=by
  unfold creR at h ⊢
  split at h
  · simp at h
  rename_i h1
  split at h
  · simp at h
  rename_i h2
  split at h
  · simp at h
  rename_i h3
  split at h
  · simp at h
  rename_i h4
  rw [if_neg h1,if_neg h2,if_neg h3,if_neg h4]
  obtain ⟨⟨h5,h6⟩,h7⟩:=Classical.not_not.1 h1
  have hn:look l n=none:=by cases q:look l n with
    |none=>rfl
    |some x=>rw [q] at h2;simp at h2
  have hp:p=⟨#[]⟩∨ ∃y,look l p=some y:=by
    by_cases e:p=⟨#[]⟩
    · exact .inl e
    · right
      cases q:look l p with
      |none=>rw [q] at h3;exact absurd ⟨e,rfl⟩ h3
      |some y=>exact ⟨y,rfl⟩
  have hz: ∀c:Comp,c.of zVec=0:=fun c=>by cases c<;>rfl
  refine ⟨rfl,ins_right hl ⟨h5,h6,h7,fun c=> ?_,fun c=> ?_,fun c=> ?_, ?_⟩ (fun c=>⟨hz c,hz c⟩) hn hp (by omega),hn,by omega,h5,h6,h7,hp⟩
  · show 0≤c.of zVec∧c.of zVec≤_;rw [hz];omega
  · show 0≤c.of zVec∧c.of zVec≤_;rw [hz];omega
  · show c.of zVec≤c.of v;rw [hz];exact (h7 c).1
  · show (1:Int)≤1∧(1:Int)≤_;omega
theorem mem_insL {l:List Item} {it x:Item}:x∈insL l it↔x=it∨x∈l:=by
 obtain ⟨a,b,e,e',_,_⟩:=insL_eq l it
 rw [e',e];simp;constructor<;>(intro h;rcases h with h|h|h<;>simp [h])
theorem len_insL (l:List Item) (it:Item):(insL l it).length=l.length+1:=by
 obtain ⟨a,b,e,e',_,_⟩:=insL_eq l it
 rw [e',e];simp;omega
theorem admR_right {l:List Item} (hl:RightP l) {n:ByteArray} {v:Vec} (h:(admR l n v).2=0):(admR l n v).1=admL l n v∧RightP (admL l n v)∧MayP v∧(∃x,look l n=some x)∧ ∀x∈l,x.f0∈up l n→LeP (vadd x.f4 v) x.f2:=by
  unfold admR at h ⊢
  split at h
  · simp at h
  rename_i h1
  split at h
  · simp at h
  rename_i h2
  split at h
  · rename_i h3
    rw [if_neg h1,if_neg h2,if_pos h3]
    have hv:MayP v:=Classical.not_not.1 h1
    have hin: ∃x,look l n=some x:=by
      cases q:look l n with
      |none=>rw [q] at h2;simp at h2
      |some x=>exact ⟨x,rfl⟩
    have hsub: ∀x∈l,x.f0∈up l n→MayP (vadd x.f4 v):=fun x hx hm c=>by
      have a:=(hl.ok x hx).sub c;have b:=hv c;have d:=h3 x hx hm c;have e:=(hl.ok x hx).lim c
      rw [of_vadd] at d ⊢;omega
    refine ⟨rfl,adm_right hl v hin (fun x hx e c=> ?_) hsub h3,hv,hin,h3⟩
    have hm:x.f0∈up l n:=by obtain ⟨y,hy⟩:=hin;rw [e];exact up_self hy
    have a:=(hl.ok x hx).own c;have b:=hv c;have d:=hsub x hx hm c;have f:=hl.sum c x hx
    have g:0≤csum c l x.f0:=sumBy_nonneg fun y hy=>by
      split
      · exact ((hl.ok y hy).sub c).1
      · omega
    rw [of_vadd] at d ⊢;omega
  · simp at h
theorem u8_bd {x:Int} (h:(Lit.int .u8 x).wf=true):0≤x∧x≤255:=by
 simp only [Lit.wf,Bool.and_eq_true,decide_eq_true_eq] at h
 exact h
def Bytes (ns:List Int):Prop:= ∀x∈ns,0≤x∧x≤255
theorem Bytes.rd {ns:List Int} (h:Bytes ns) (i:Int):0≤rd ns i∧rd ns i≤255:=by
 unfold Go.Proofs.YtcgefpklljclgaaW.PrintWords.rd
 rw [List.getD_eq_getElem?_getD]
 cases e:ns[i.toNat]? with
 |none=>simp
 |some x=>exact h x (List.mem_of_getElem? e)
def one (c:Int):ByteArray:=strOfNums [c]
structure MadeP (l:List Item):Prop where
 right:RightP l
 len:l.length≤24
 name: ∀x∈l,∃c:Int,97≤c∧c≤120∧x.f0=one c
 ver: ∀x∈l,x.f5=1
 lim: ∀x∈l,∀c:Comp,20≤c.of x.f2∧c.of x.f2≤275
theorem made_nil:MadeP []:=⟨right_nil,by simp,by simp,by simp,by simp⟩
theorem one_name {c:Int} (h:97≤c):one c≠⟨#[]⟩∧(one c).size=1:=by
  constructor
  · intro q
    have:=congrArg ByteArray.size q
    rw [show (one c).size=1 from strOfNums_size _] at this
    exact absurd this (by decide)
  · exact strOfNums_size _
theorem made_ins {l:List Item} (h:MadeP l) {n p:ByteArray} {v:Vec} {c:Int} (hc:97≤c∧c≤120) (hn:n=one c) (hv: ∀c:Comp,20≤c.of v∧c.of v≤275) (hl:l.length<24) (hr:RightP (insL l (newItem n p v))):MadeP (insL l (newItem n p v)) where
  right:=hr
  len:=by rw [len_insL];omega
  name:=fun x hx=>by
    rcases mem_insL.1 hx with rfl|hx
    · exact ⟨c,hc.1,hc.2,hn⟩
    · exact h.name x hx
  ver:=fun x hx=>by
    rcases mem_insL.1 hx with rfl|hx
    · rfl
    · exact h.ver x hx
  lim:=fun x hx=>by
    rcases mem_insL.1 hx with rfl|hx
    · exact hv
    · exact h.lim x hx
theorem made_adm {l:List Item} (h:MadeP l) {n:ByteArray} {v:Vec} (hr:RightP (admL l n v)):MadeP (admL l n v) where
 right:=hr
 len:=by unfold admL;rw [List.length_map];exact h.len
 name:=fun x hx=>by
  obtain ⟨y,hy,rfl⟩:=List.mem_map.1 hx
  exact h.name y hy
 ver:=fun x hx=>by
  obtain ⟨y,hy,rfl⟩:=List.mem_map.1 hx
  exact h.ver y hy
 lim:=fun x hx=>by
  obtain ⟨y,hy,rfl⟩:=List.mem_map.1 hx
  exact h.lim y hy
def MakesFrom (ns:List Int) (i:Int):Prop:= ∀l,MadeP l→ ∃r,Ev (fun k=>law12_Make.l0 k ns l i) r∧MadeP r
theorem tmod_in {a b:Int} (ha:0≤a) (hb:0<b):0≤a.tmod b∧a.tmod b<b:=by
 rw [Int.tmod_eq_emod_of_nonneg ha];exact ⟨Int.emod_nonneg _ (by omega),Int.emod_lt_of_pos _ hb⟩
theorem tdiv_in {a b:Int} (ha:0≤a) (hb:0<b):0≤a.tdiv b∧a.tdiv b≤a:=by
 rw [Int.tdiv_eq_ediv_of_nonneg ha];exact ⟨Int.ediv_nonneg ha (by omega),Int.ediv_le_self _ ha⟩
theorem made_j3 {ns:List Int} (hb:Bytes ns) (hs:ns.length≤1000) {i:Int} (h0:0≤i) (h2:i+2<ns.length) (ih:MakesFrom ns (i+3)) {l:List Item} (h:MadeP l) (hl:l.length<24) (p:ByteArray):
    ∃r,Ev (fun k=>law12_Make.j3 k ns l i p) r∧MadeP r:=by
  have b1:=hb.rd (i+1)
  have b2:=hb.rd (i+2)
  have hlen:=h.right.len
  have hnm:(wrap64 (97+(Int.tmod (wrap64 ((l.length:Int)*5)) 24))) % 256=97+((l.length:Int)*5) % 24:=by
    rw [w64 (n:=(l.length:Int)*5) (by omega) (by omega),Int.tmod_eq_emod_of_nonneg (by omega),w64 (by omega) (by omega)];omega
  generalize hc:97+((l.length:Int)*5) % 24=c at hnm
  have hcb:97≤c∧c≤120:=by omega
  have hlim:wrap64 (20+wrap64 (rd ns (i+1)))=20+rd ns (i+1):=by rw [w64 (n:=rd ns (i+1)) (by omega) (by omega),w64 (by omega) (by omega)]
  obtain ⟨K,hK⟩:=r10_Create_ev (l:=l) (by omega) (one c) p ⟨20+rd ns (i+1),20+rd ns (i+1),20+rd ns (i+1)⟩
  dsimp only at hK
  have hw1:wrap64 (i+1)=i+1:=w64 (by omega) (by omega)
  have hw2:wrap64 (i+2)=i+2:=w64 (by omega) (by omega)
  have hw3:wrap64 (i+3)=i+3:=w64 (by omega) (by omega)
  have hr2:wrap64 (rd ns (i+2))=rd ns (i+2):=w64 (by omega) (by omega)
  by_cases hE:(creR l (one c) p ⟨20+rd ns (i+1),20+rd ns (i+1),20+rd ns (i+1)⟩).2=0
  · obtain ⟨e1, hR, hno, -, -, -, hv, -⟩ := creR_right h.right hE
    have hm:=made_ins h (p:=p) hcb rfl (v:=⟨20+rd ns (i+1),20+rd ns (i+1),20+rd ns (i+1)⟩) (fun c=>by cases c<;>(simp only [Comp.of];omega)) hl hR
    generalize hL:insL l (newItem (one c) p ⟨20+rd ns (i+1),20+rd ns (i+1),20+rd ns (i+1)⟩)=l1 at*
    have hl1:0<l1.length:=by rw [←hL,len_insL];omega
    have hd:=tdiv_in (a:=rd ns (i+2)) (b:=16) (by omega) (by omega)
    have hw4:wrap64 (Int.tdiv (rd ns (i+2)) 16)=Int.tdiv (rd ns (i+2)) 16:=w64 (by omega) (by omega)
    have hq:=tmod_in (a:=Int.tdiv (rd ns (i+2)) 16) (b:=(l1.length:Int)) hd.1 (by omega)
    generalize hJ:Int.tmod (Int.tdiv (rd ns (i+2)) 16) (l1.length:Int)=j at*
    obtain ⟨v,hv'⟩: ∃v:Vec,v=⟨Int.tmod (rd ns (i+2)) 16,wrap64 (Int.tdiv (Int.tmod (rd ns (i+2)) 16) 2),Int.tmod (Int.tmod (rd ns (i+2)) 16) 3⟩:=⟨_,rfl⟩
    obtain ⟨K2,hK2⟩:=r10_Admit_ev hm.right (rd_T31 l1 j).f0 v
    dsimp only at hK2
    have main: ∀r,Ev (fun k=>law12_Make.l0 k ns (if (admR l1 (rd_T31 l1 j).f0 v).2=0 then (admR l1 (rd_T31 l1 j).f0 v).1 else l1) (i+3)) r→Ev (fun k=>law12_Make.j3 k ns l i p) r:=by
      rintro r ⟨K3,hK3⟩
      refine ⟨K+K2+K3+1,fun k hk=> ?_⟩
      dsimp only at hK3
      obtain ⟨k,rfl⟩: ∃m,k=m+1:=⟨k - 1,by omega⟩
      simp only [law12_Make.j3]
      rw [hw1,hw2,hw3,hnm,hlim,hr2,if_pos (by omega),if_pos (by omega)]
      rw [show strOfNums [c]=one c from rfl,hK k (by omega)]
      simp only [Option.bind_some]
      rw [if_pos hE,if_pos (by omega),if_pos (by omega),e1,if_neg (by omega),hw4,hJ,if_pos hq.1,if_pos hq.2]
      have:=hK2 k (by omega)
      rw [hv'] at this
      rw [this]
      simp only [Option.bind_some]
      rw [←hv']
      have:=hK3 k (by omega)
      by_cases q:(admR l1 (rd_T31 l1 j).f0 v).2=0
      · rw [if_pos q] at this ⊢;exact this
      · rw [if_neg q] at this ⊢;exact this
    by_cases q:(admR l1 (rd_T31 l1 j).f0 v).2=0
    · rw [if_pos q] at main
      obtain ⟨e2,hR2, -⟩:=admR_right hm.right q
      rw [e2] at main
      obtain ⟨r,hr,hM⟩:=ih _ (made_adm hm hR2)
      exact ⟨r,main r hr,hM⟩
    · rw [if_neg q] at main
      obtain ⟨r,hr,hM⟩:=ih _ hm
      exact ⟨r,main r hr,hM⟩
  · obtain ⟨r, ⟨K3, hK3⟩, hM⟩ := ih l h
    dsimp only at hK3
    refine ⟨r,⟨K+K3+1,fun k hk=> ?_⟩,hM⟩
    obtain ⟨k,rfl⟩: ∃m,k=m+1:=⟨k - 1,by omega⟩
    simp only [law12_Make.j3]
    rw [hw1,hw2,hw3,hnm,hlim,if_pos (by omega),if_pos (by omega)]
    rw [show strOfNums [c]=one c from rfl,hK k (by omega)]
    simp only [Option.bind_some]
    rw [if_neg hE]
    exact hK3 k (by omega)
theorem made_step {ns:List Int} (hb:Bytes ns) (hs:ns.length≤1000) {i:Int} (h0:0≤i) (h2:i+2<ns.length) (ih:MakesFrom ns (i+3)):MakesFrom ns i:=by
  intro l h
  have hw2:wrap64 (i+2)=i+2:=w64 (by omega) (by omega)
  have b0:=hb.rd i
  have hr0:wrap64 (rd ns i)=rd ns i:=w64 (by omega) (by omega)
  by_cases hl:l.length<24
  · have h3 := made_j3 hb hs h0 h2 ih h hl
    have hj2: ∀b,(b=true→0<l.length)→ ∃r,Ev (fun k=>law12_Make.j2 k ns l i (rd ns i) ⟨#[]⟩ b) r∧MadeP r:=by
      intro b hbl
      cases b with
      | false =>
        obtain ⟨r,hr,hM⟩:=h3 ⟨#[]⟩
        refine ⟨r,Ev.step (fun k=> ?_) hr,hM⟩
        simp only [law12_Make.j2,Bool.false_eq_true,if_false]
      | true =>
        have hpos:=hbl rfl
        have hd:=tdiv_in (a:=rd ns i) (b:=3) (by omega) (by omega)
        have hw:wrap64 (Int.tdiv (rd ns i) 3)=Int.tdiv (rd ns i) 3:=w64 (by omega) (by omega)
        have hq:=tmod_in (a:=Int.tdiv (rd ns i) 3) (b:=(l.length:Int)) hd.1 (by omega)
        obtain ⟨r,hr,hM⟩:=h3 (rd_T31 l (Int.tmod (Int.tdiv (rd ns i) 3) (l.length:Int))).f0
        refine ⟨r,Ev.step (fun k=> ?_) hr,hM⟩
        simp only [law12_Make.j2,if_true]
        rw [hw,if_neg (by omega),if_pos hq.1,if_pos hq.2]
    have hj1: ∃r,Ev (fun k=>law12_Make.j1 k ns l i true) r∧MadeP r:=by
      by_cases hpos:0<l.length
      · obtain ⟨r, hr, hM⟩ := hj2 (decide ((Int.tmod (rd ns i) 3) > 0)) (fun _ => hpos)
        refine ⟨r,Ev.step (fun k=> ?_) hr,hM⟩
        simp only [law12_Make.j1,if_true]
        rw [if_pos (by omega),if_pos (by omega),if_pos (by omega),hr0]
      · obtain ⟨r, hr, hM⟩ := hj2 false (fun q => by cases q)
        refine ⟨r,Ev.step (fun k=> ?_) hr,hM⟩
        simp only [law12_Make.j1,if_true]
        rw [if_pos (by omega),if_pos (by omega),if_neg (by omega),hr0]
    obtain ⟨r,hr,hM⟩:=hj1
    refine ⟨r,Ev.step (fun k=> ?_) hr,hM⟩
    simp only [law12_Make.l0]
    rw [hw2,if_pos (by omega),show decide ((l.length:Int)<24)=true from decide_eq_true (by omega)]
  · refine ⟨l, Ev.step (f := fun k => law12_Make.j1 k ns l i false) (fun k => ?_) (Ev.step (f := fun _ => some l) (fun k => ?_) (Ev.now _)), h⟩
    · simp only [law12_Make.l0]
      rw [hw2,if_pos (by omega),show decide ((l.length:Int)<24)=false from decide_eq_false (by omega)]
    · simp only [law12_Make.j1,Bool.false_eq_true,if_false]
theorem made_from {ns:List Int} (hb:Bytes ns) (hs:ns.length≤1000): ∀(d:Nat) (i:Int),0≤i→i≤1003→(ns.length:Int) - i≤d→MakesFrom ns i
  | d, i, h0, h1, hd => by
    by_cases h2:i+2<ns.length
    · cases d with
      |zero=>omega
      |succ d=>exact made_step hb hs h0 h2 (made_from hb hs d (i+3) (by omega) (by omega) (by omega))
    · intro l h
      have hw2:wrap64 (i+2)=i+2:=w64 (by omega) (by omega)
      refine ⟨l,Ev.step (f:=fun k=>law12_Make.j1 k ns l i false) (fun k=> ?_) (Ev.step (f:=fun _=>some l) (fun k=> ?_) (Ev.now _)),h⟩
      · simp only [law12_Make.l0]
        rw [hw2,if_neg (by omega)]
      · simp only [law12_Make.j1,Bool.false_eq_true,if_false]
theorem made_all {ns:List Int} (hb:Bytes ns) (hs:ns.length≤1000): ∃l,Ev (fun k=>law12_Make.f k ns) l∧MadeP l:=made_from hb hs ns.length 0 (by omega) (by omega) (by omega) [] made_nil
end Go.Proofs.Ytcgefpklljclgaa.Print

namespace Go.Proofs.Ytcgefpklljclgaa.Print
open Go.RowKit Go.Proofs.YtcgefpklljclgaaW.PrintWords Go.Proofs.YtcgefpklljclgaaW.PrintLast Go.Proofs.YtcgefpklljclgaaW.PrintMore
set_option linter.unusedVariables false
set_option linter.unusedSimpArgs false
theorem shape_made_eq (l:List Item) (n:ByteArray) (hl:l.length<1000000):shape_made.f l n=some (l,fnd l n):=by
 unfold shape_made.f slices_Clone_Item.f
 rw [if_pos (by omega)]
 rfl
theorem sh_Le_eq (a b d a' b' d':Int):vec_Le.f a b d a' b' d'=some (decide (LeP ⟨a,b,d⟩ ⟨a',b',d'⟩)):=by
 unfold vec_Le.f
 rw [show decide (LeP ⟨a,b,d⟩ ⟨a',b',d'⟩)=decide (a≤a'∧b≤b'∧d≤d') from decide_eq_decide.2 leP_iff]
 by_cases h1:a≤a'<;>by_cases h2:b≤b'<;>simp [h1,h2]
theorem sh_May_eq (a b d:Int):vec_May.f a b d=some (decide (MayP ⟨a,b,d⟩)):=by
  unfold vec_May.f
  rw [sh_Le_eq,Option.bind_some]
  have hm:(vec_Most.f)=some (1099511627776,1099511627776,1099511627776):=rfl
  by_cases h:LeP ⟨0,0,0⟩ ⟨a,b,d⟩
  · rw [if_pos (decide_eq_true h), hm]
    simp only [Option.bind_some,sh_Le_eq]
    congr 1
    apply decide_eq_decide.2
    rw [leP_iff] at h ⊢
    rw [mayP_iff]
    omega
  · rw [if_neg (by simpa using h)]
    congr 1
    rw [eq_comm,decide_eq_false_iff_not,mayP_iff]
    rw [leP_iff] at h
    omega
theorem insL_place (l:List Item) (n p:ByteArray) (v:Vec):l.take (placeL l n)++newItem n p v::l.drop (placeL l n)=insL l (newItem n p v):=by
 unfold insL placeL
 have e:=List.takeWhile_append_dropWhile (p:=fun x:Item=>lt x.f0 n) (l:=l)
 have h1:l.take (l.takeWhile fun y:Item=>lt y.f0 n).length=l.takeWhile fun y=>lt y.f0 n:=by
  conv=>lhs;rhs;rw [←e]
  exact List.take_left
 have h2:l.drop (l.takeWhile fun y:Item=>lt y.f0 n).length=l.dropWhile fun y=>lt y.f0 n:=by
  conv=>lhs;rhs;rw [←e]
  exact List.drop_left
 exact congr (congrArg _ h1) (congrArg _ h2)
theorem shape_parent_eq (l:List Item) (j:Int) (p:ByteArray):shape_change_parent.f l j p=some (decide (¬(p≠⟨#[]⟩∧(look l p).isNone=true))):=by
  unfold shape_change_parent.f
  by_cases hp:p=⟨#[]⟩
  · rw [if_pos (nm_empty.2 hp)]
    simp [hp]
  · rw [if_neg (fun e => hp (nm_empty.1 e)), tree_Find_eq]
    simp only [Option.bind_some]
    congr 1
    apply decide_eq_decide.2
    rw [show (fnd l p≥0)↔ ∃x,look l p=some x from fnd_ge]
    cases look l p<;>simp [hp]
theorem shape_Create_eq {l:List Item} (hl:l.length<1000000) (n p:ByteArray) (v:Vec):shape_Create.f l n p v.f0 v.f1 v.f2=some (creR l n p v):=by
  unfold shape_Create.f creR
  rw [shape_made_eq l n hl]
  simp only [Option.bind_some,sh_May_eq,shape_parent_eq]
  by_cases h0:n=⟨#[]⟩
  · rw [if_pos (nm_empty.2 h0),if_pos (by simp [h0])]
  · rw [if_neg (fun e => h0 (nm_empty.1 e))]
    by_cases h1:(n.size:Int)>24
    · rw [if_pos h1,if_pos (by intro h;omega)]
    · rw [if_neg h1]
      by_cases h2:MayP v
      · rw [if_neg (show ¬ decide (MayP v) = false by simpa using h2), if_neg (show ¬ ¬ ((n ≠ ⟨#[]⟩ ∧ n.size ≤ 24) ∧ MayP v) from fun h => h ⟨⟨h0, by omega⟩, h2⟩)]
        by_cases h3:fnd l n≥0
        · rw [if_pos h3,if_pos (show (look l n).isSome=true by obtain ⟨x,hx⟩:=fnd_ge.1 h3;rw [hx];rfl)]
        · rw [if_neg h3, if_neg (show ¬ (look l n).isSome = true by rw [fnd_neg.1 (by omega)]; simp)]
          by_cases h4:p≠⟨#[]⟩∧(look l p).isNone=true
          · rw [if_pos (by simpa using h4),if_pos h4]
          · rw [if_neg (show ¬ decide (¬ (p ≠ ⟨#[]⟩ ∧ (look l p).isNone = true)) = false by simpa using h4), if_neg h4]
            by_cases h5:120≤l.length
            · rw [if_pos (by omega),if_pos h5]
            · rw [if_neg (by omega), if_neg h5]
              exact congrArg (fun q=>some (q,(0:Int))) (insL_place l n p v)
      · rw [if_pos (by simpa using h2),if_pos (by intro h;exact h2 h.2)]
end Go.Proofs.Ytcgefpklljclgaa.Print

namespace Go.Proofs.Ytcgefpklljclgaa.Print
open Go.RowKit Go.Proofs.YtcgefpklljclgaaW.PrintWords Go.Proofs.YtcgefpklljclgaaW.PrintLast Go.Proofs.YtcgefpklljclgaaW.PrintMore
attribute [local go_sem] max2_int min2_int max_two min_two max_three min_three max_four min_four
set_option linter.unusedVariables false
set_option linter.unusedSimpArgs false

end Go.Proofs.Ytcgefpklljclgaa.Print

namespace Go.Proofs.Ytcgefpklljclgaa.Print
open Go.RowKit Go.Proofs.YtcgefpklljclgaaW.PrintWords Go.Proofs.YtcgefpklljclgaaW.PrintLast Go.Proofs.YtcgefpklljclgaaW.PrintMore
set_option linter.unusedVariables false
set_option linter.unusedSimpArgs false
end Go.Proofs.Ytcgefpklljclgaa.Print

namespace Go.Proofs.Ytcgefpklljclgaa.Print
open Go.RowKit Go.Proofs.YtcgefpklljclgaaW.PrintWords Go.Proofs.YtcgefpklljclgaaW.PrintLast Go.Proofs.YtcgefpklljclgaaW.PrintMore
attribute [local go_sem] max2_int min2_int max_two min_two max_three min_three max_four min_four
set_option linter.unusedVariables false
set_option linter.unusedSimpArgs false

-- uses fidx
end Go.Proofs.Ytcgefpklljclgaa.Print

namespace Go.Proofs.Ytcgefpklljclgaa.Print
open Go.RowKit Go.Proofs.YtcgefpklljclgaaW.PrintWords Go.Proofs.YtcgefpklljclgaaW.PrintLast Go.Proofs.YtcgefpklljclgaaW.PrintMore
set_option linter.unusedVariables false
set_option linter.unusedSimpArgs false
def addV (a:Vec) (ws:List Item):Vec:=⟨a.f0+sumBy (fun x=>x.f4.f0) ws,a.f1+sumBy (fun x=>x.f4.f1) ws,a.f2+sumBy (fun x=>x.f4.f2) ws⟩
theorem addV_nil (a:Vec):addV a []=a:=by unfold addV;simp [sumBy_nil]
def SmallV (a:Vec) (n:Nat):Prop:= ∀c:Comp,0≤c.of a∧c.of a≤1099511627776*n
theorem small_wrap {a b:Vec} {n:Nat} (ha:SmallV a n) (hb:MayP b) (hn:n≤1000):wrap64 (a.f0+b.f0)=(vadd a b).f0∧wrap64 (a.f1+b.f1)=(vadd a b).f1∧wrap64 (a.f2+b.f2)=(vadd a b).f2:=by
 have a0:=ha .cpu;have a1:=ha .mem;have a2:=ha .pods
 have b0:=hb .cpu;have b1:=hb .mem;have b2:=hb .pods
 simp only [Comp.of] at a0 a1 a2 b0 b1 b2
 exact ⟨w64 (by omega) (by omega),w64 (by omega) (by omega),w64 (by omega) (by omega)⟩
end Go.Proofs.Ytcgefpklljclgaa.Print

namespace Go.Proofs.Ytcgefpklljclgaa.Print
open Go.RowKit Go.Proofs.YtcgefpklljclgaaW.PrintWords Go.Proofs.YtcgefpklljclgaaW.PrintLast Go.Proofs.YtcgefpklljclgaaW.PrintMore
attribute [local go_sem] max2_int min2_int max_two min_two max_three min_three max_four min_four
set_option linter.unusedVariables false
set_option linter.unusedSimpArgs false

end Go.Proofs.Ytcgefpklljclgaa.Print

namespace Go.Proofs.Ytcgefpklljclgaa.Print
open Go.RowKit Go.Proofs.YtcgefpklljclgaaW.PrintWords Go.Proofs.YtcgefpklljclgaaW.PrintLast Go.Proofs.YtcgefpklljclgaaW.PrintMore
set_option linter.unusedVariables false
set_option linter.unusedSimpArgs false
theorem sumBy_filter (g:Item→Int) (p:Item→Bool): ∀l:List Item,sumBy g (l.filter p)=sumBy (fun x=>if p x=true then g x else 0) l
  |[]=>rfl
  | x :: l => by
    rw [sumBy_cons]
    by_cases h:p x=true
    · rw [List.filter_cons_of_pos h,sumBy_cons,sumBy_filter g p l,if_pos h]
    · rw [List.filter_cons_of_neg h,sumBy_filter g p l,if_neg h];omega
def kids (l:List Item) (n:ByteArray):List ByteArray:=(l.filter (fun x=>decide (x.f1=n))).map (·.f0)
end Go.Proofs.Ytcgefpklljclgaa.Print

namespace Go.Proofs.Ytcgefpklljclgaa.Print
open Go.RowKit Go.Proofs.YtcgefpklljclgaaW.PrintWords Go.Proofs.YtcgefpklljclgaaW.PrintLast Go.Proofs.YtcgefpklljclgaaW.PrintMore
attribute [local go_sem] max2_int min2_int max_two min_two max_three min_three max_four min_four
set_option linter.unusedVariables false
set_option linter.unusedSimpArgs false

attribute [local go_sem high] eqA27
end Go.Proofs.Ytcgefpklljclgaa.Print

namespace Go.Proofs.Ytcgefpklljclgaa.Print
open Go.RowKit Go.Proofs.YtcgefpklljclgaaW.PrintWords Go.Proofs.YtcgefpklljclgaaW.PrintLast Go.Proofs.YtcgefpklljclgaaW.PrintMore
set_option linter.unusedVariables false
set_option linter.unusedSimpArgs false
theorem shbelow_l0 (l:List Item) (n:ByteArray) (hl:l.length<1000000): ∀(d i:Nat) (acc:List ByteArray),l.length - i=d→i≤l.length→acc.length≤i→Ev (fun k=>tree_Below.l0 k n acc l (l.length:Int) i) (acc++((l.drop i).filter (fun x=>decide (x.f1=n))).map (·.f0))
  | 0, i, acc, hd, hi, ha => by
    obtain rfl:i=l.length:=by omega
    rw [List.drop_length]
    refine Ev.step (f:=fun _=>some acc) (fun k=> ?_) (by rw [show acc++(([]:List Item).filter (fun x=>decide (x.f1=n))).map (·.f0)=acc from List.append_nil _];exact Ev.now _)
    rw [tree_Below.l0,if_neg (by omega)]
  | d + 1, i, acc, hd, hi, ha => by
    have hlt:i<l.length:=by omega
    have hrd:rd_T31 l (i:Int)=l[i]:=by rw [rd_item,Int.toNat_natCast];simp [hlt]
    rw [List.drop_eq_getElem_cons hlt]
    generalize l[i]=x at*
    by_cases h:x.f1=n
    · rw [List.filter_cons_of_pos (by exact decide_eq_true h)]
      refine Ev.step (f:=fun k=>tree_Below.l0 k n (acc++ [x.f0]) l (l.length:Int) ((i+1:Nat):Int)) (fun k=> ?_) ?_
      · rw [tree_Below.l0, if_pos (by omega), if_pos (by omega), if_pos (by omega), hrd, if_pos (nm_inj.2 h), if_pos (by omega), w64 (by omega) (by omega)]
        rfl
      · have := shbelow_l0 l n hl d (i + 1) (acc ++ [x.f0]) (by omega) (by omega) (by simp; omega)
        rw [List.append_assoc] at this
        exact this
    · rw [List.filter_cons_of_neg (by simpa using h)]
      refine Ev.step (f:=fun k=>tree_Below.l0 k n acc l (l.length:Int) ((i+1:Nat):Int)) (fun k=> ?_) (shbelow_l0 l n hl d (i+1) acc (by omega) (by omega) (by omega))
      rw [tree_Below.l0,if_pos (by omega),if_pos (by omega),if_pos (by omega),hrd,if_neg (fun q=>h (nm_inj.1 q)),w64 (by omega) (by omega)]
      rfl
theorem shbelow_ev (l:List Item) (n:ByteArray) (hl:l.length<1000000):Ev (fun k=>tree_Below.f k l n) (kids l n):=by
 have h:=shbelow_l0 l n hl _ 0 [] rfl (by omega) (by simp)
 rw [List.drop_zero,List.nil_append] at h
 exact h
def oldR (l:List Item) (n:ByteArray) (ver:Int):Int:=match look l n with
 |none=>2
 |some x=>if 0≤ver∧x.f5≠ver then 14 else 0
theorem oldR_none {l:List Item} {n:ByteArray} {ver:Int} (h:look l n=none):oldR l n ver=2:=by unfold oldR;rw [h]
theorem oldR_some {l:List Item} {n:ByteArray} {ver:Int} {x:Item} (h:look l n=some x):oldR l n ver=if 0≤ver∧x.f5≠ver then 14 else 0:=by unfold oldR;rw [h]
theorem oldR_zero {l:List Item} {n:ByteArray} {ver:Int} (h:oldR l n ver=0): ∃x,look l n=some x∧(0≤ver→x.f5=ver):=by
  cases q:look l n with
  |none=>rw [oldR_none q] at h;cases h
  | some x =>
    rw [oldR_some q] at h
    refine ⟨x,rfl,fun hv=> ?_⟩
    by_cases e:x.f5=ver
    · exact e
    · rw [if_pos ⟨hv,e⟩] at h;cases h
theorem guardF_eq (l:List Item) (n:ByteArray) (ver:Int):guardF l (fnd l n) ver=some (oldR l n ver):=by
  unfold guardF
  cases q:look l n with
  |none=>rw [fnd_none q,oldR_none q,if_pos (by omega)]
  | some x =>
    have h0:=fnd_ge.2 ⟨x,q⟩
    have h1:=fnd_lt l n
    rw [if_neg (by omega),if_pos h1,fnd_rd q,oldR_some q]
    by_cases e:0≤ver∧x.f5≠ver
    · rw [if_pos e,if_pos e]
    · rw [if_neg e,if_neg e]
def delL (l:List Item) (n:ByteArray):List Item:=l.filter (fun z=>decide (z.f0≠n))
def delR (l:List Item) (n:ByteArray) (ver:Int):List Item×Int:=
 if oldR l n ver≠0 then ([],oldR l n ver) else if 0<(kids l n).length then ([],13) else match look l n with
  |none=>([],2)
  |some x=>if x.f3.f0=0∧x.f3.f1=0∧x.f3.f2=0 then (delL l n,0) else ([],13)
theorem cut_delL {l:List Item} (hl:RightP l) {n:ByteArray} {x:Item} (h:look l n=some x):l.take (fnd l n).toNat++l.drop ((fnd l n).toNat+1)=delL l n:=by
  obtain ⟨j,h1,h2,h3,h4,h5⟩:=fnd_some h
  rw [h2,Int.toNat_natCast]
  have hx:l[j]=x:=by rw [←h3];simp [h1]
  have hsp:l=l.take j++l[j]::l.drop (j+1):=by rw [←List.drop_eq_getElem_cons h1,List.take_append_drop]
  have hnd:=hl.nodup
  unfold delL
  conv=>rhs;rw [hsp]
  rw [hsp,List.map_append,List.map_cons,List.nodup_append] at hnd
  obtain ⟨_,hn2,hn3⟩:=hnd
  rw [List.nodup_cons] at hn2
  rw [List.filter_append,List.filter_cons_of_neg (by rw [hx,h4];simp)]
  congr 1
  · rw [List.filter_eq_self.2]
    intro z hz
    have:=hn3 z.f0 (List.mem_map_of_mem hz) l[j].f0 (List.mem_cons_self ..)
    rw [hx,h4] at this
    simpa using this
  · rw [List.filter_eq_self.2]
    intro z hz
    have:z.f0≠l[j].f0:=fun e=>hn2.1 (by rw [←e];exact List.mem_map_of_mem hz)
    rw [hx,h4] at this
    simpa using this
theorem shape_Delete_ev {l:List Item} (hl:RightP l) (n:ByteArray) (ver:Int):Ev (fun k=>shape_Delete.f k l n ver) (delR l n ver):=by
  have hlen:=hl.len
  unfold shape_Delete.f delR
  rw [shape_made_eq l n (by omega)]
  simp only [Option.bind_some,guardF_eq]
  by_cases h2:oldR l n ver=0
  · obtain ⟨x, hx, _⟩ := oldR_zero h2
    simp only [h2,ne_eq,not_true_eq_false,if_false]
    refine Ev.bind (shbelow_ev l n (by omega)) ?_
    by_cases h3:0<(kids l n).length
    · simp only [show (((kids l n).length : Int) > 0) = True from eq_true (by omega), h3, if_true]
      exact Ev.now _
    · simp only [show (((kids l n).length : Int) > 0) = False from eq_false (by omega), h3, if_false, hx, fnd_rd hx]
      by_cases h4:x.f3.f0=0∧x.f3.f1=0∧x.f3.f2=0
      · simp only [h4, and_self, if_true]
        rw [cut_delL hl hx]
        exact Ev.now _
      · simp only [h4, if_false]
        exact Ev.now _
  · simp only [h2, ne_eq, not_false_eq_true, if_true]
    exact Ev.now _
end Go.Proofs.Ytcgefpklljclgaa.Print

namespace Go.Proofs.Ytcgefpklljclgaa.Print
open Go.RowKit Go.Proofs.YtcgefpklljclgaaW.PrintWords Go.Proofs.YtcgefpklljclgaaW.PrintLast Go.Proofs.YtcgefpklljclgaaW.PrintMore
attribute [local go_sem] max2_int min2_int max_two min_two max_three min_three max_four min_four
set_option linter.unusedVariables false
set_option linter.unusedSimpArgs false

end Go.Proofs.Ytcgefpklljclgaa.Print

namespace Go.Proofs.Ytcgefpklljclgaa.Print
open Go.RowKit Go.Proofs.YtcgefpklljclgaaW.PrintWords Go.Proofs.YtcgefpklljclgaaW.PrintLast Go.Proofs.YtcgefpklljclgaaW.PrintMore
set_option linter.unusedVariables false
set_option linter.unusedSimpArgs false
end Go.Proofs.Ytcgefpklljclgaa.Print

namespace Go.Proofs.Ytcgefpklljclgaa.Print
open Go.RowKit Go.Proofs.YtcgefpklljclgaaW.PrintWords Go.Proofs.YtcgefpklljclgaaW.PrintLast Go.Proofs.YtcgefpklljclgaaW.PrintMore
attribute [local go_sem] max2_int min2_int max_two min_two max_three min_three max_four min_four
set_option linter.unusedVariables false
set_option linter.unusedSimpArgs false

end Go.Proofs.Ytcgefpklljclgaa.Print

namespace Go.Proofs.Ytcgefpklljclgaa.Print
open Go.RowKit Go.Proofs.YtcgefpklljclgaaW.PrintWords Go.Proofs.YtcgefpklljclgaaW.PrintLast Go.Proofs.YtcgefpklljclgaaW.PrintMore
set_option linter.unusedVariables false
set_option linter.unusedSimpArgs false
end Go.Proofs.Ytcgefpklljclgaa.Print

namespace Go.Proofs.Ytcgefpklljclgaa.Print
open Go.RowKit Go.Proofs.YtcgefpklljclgaaW.PrintWords Go.Proofs.YtcgefpklljclgaaW.PrintLast Go.Proofs.YtcgefpklljclgaaW.PrintMore
attribute [local go_sem] max2_int min2_int max_two min_two max_three min_three max_four min_four
set_option linter.unusedVariables false
set_option linter.unusedSimpArgs false

end Go.Proofs.Ytcgefpklljclgaa.Print

namespace Go.Proofs.Ytcgefpklljclgaa.Print
open Go.RowKit Go.Proofs.YtcgefpklljclgaaW.PrintWords Go.Proofs.YtcgefpklljclgaaW.PrintLast Go.Proofs.YtcgefpklljclgaaW.PrintMore
set_option linter.unusedVariables false
set_option linter.unusedSimpArgs false
theorem shSame_l0 (l:List Item) (hl:l.length<1000000): ∀(d i:Nat),l.length - i=d→i≤l.length→Ev (fun k=>r10_SameItems.l0 k l l i) true
  | 0, i, hd, hi => by
    refine Ev.step (f:=fun _=>some true) (fun k=> ?_) (Ev.now _)
    simp only [r10_SameItems.l0]
    rw [if_neg (by omega)]
  | d + 1, i, hd, hi => by
    refine Ev.step (f:=fun k=>r10_SameItems.l0 k l l ((i+1:Nat):Int)) (fun k=> ?_) (shSame_l0 l hl d (i+1) (by omega) (by omega))
    simp only [r10_SameItems.l0]
    rw [if_pos (by omega),if_pos (by omega),if_pos (by omega),if_neg (by simp),w64 (by omega) (by omega)]
    rfl
theorem shSame_refl (l:List Item) (hl:l.length<1000000):Ev (fun k=>r10_SameItems.f k l l) true:=
 Ev.congr (fun k=>if_pos rfl) (shSame_l0 l hl _ 0 rfl (by omega))

theorem ss_num (e:Int):law1_Num.f e=some e:=rfl
theorem ss_awake:law15_awake.f=some true:=by kernel_rfl
theorem ss_awake_ev:Ev (fun _=>law15_awake.f.bind fun t=>some t) true:=Ev.const (by rw [ss_awake];rfl)
def Ok1 (l:List Item) (i:Nat):Prop:=ItemOK (rd_T31 l i)∧(0<i→lt (rd_T31 l ((i:Int) - 1)).f0 (rd_T31 l i).f0=true)∧((rd_T31 l i).f1=⟨#[]⟩∨ ∃y,look l (rd_T31 l i).f1=some y)
def Ok2 (l:List Item) (i:Nat):Prop:=(∀c:Comp,c.of (rd_T31 l i).f4=c.of (rd_T31 l i).f3+csum c l (rd_T31 l i).f0)
def Ok3 (l:List Item) (i:Nat):Prop:=(up l (rd_T31 l i).f0).length≤l.length
theorem rd_get {l:List Item} {i:Nat} (h:i<l.length):rd_T31 l (i:Int)=l[i]:=by rw [rd_item,Int.toNat_natCast];simp [h]
theorem rd_mem {l:List Item} {i:Nat} (h:i<l.length):rd_T31 l (i:Int)∈l:=by rw [rd_get h];exact List.getElem_mem h
theorem rightP_iff (l:List Item):RightP l↔l.length≤120∧(∀i,i<l.length→Ok1 l i)∧(∀i,i<l.length→Ok2 l i)∧(∀i,i<l.length→Ok3 l i):=by
  constructor
  · intro h
    refine ⟨h.len,fun i hi=>⟨h.ok _ (rd_mem hi),fun h0=> ?_,h.par _ (rd_mem hi)⟩,fun i hi c=>h.sum c _ (rd_mem hi),fun i hi=>up_len_iff.2 (h.chain _ (rd_mem hi))⟩
    have:=List.pairwise_iff_getElem.1 h.sorted (i - 1) i (by omega) hi (by omega)
    rw [show ((i:Int) - 1)=((i - 1:Nat):Int) from by omega,rd_get (show i - 1<l.length by omega),rd_get hi]
    exact this
  · rintro ⟨h1, h2, h3, h4⟩
    have hx: ∀x∈l,∃i,i<l.length∧rd_T31 l (i:Int)=x:=fun x hx=>by
      obtain ⟨i,hi,e⟩:=List.getElem_of_mem hx
      exact ⟨i,hi,by rw [rd_get hi];exact e⟩
    refine ⟨h1,fun x hx'=> ?_, ?_,fun x hx'=> ?_,fun c x hx'=> ?_,fun x hx'=> ?_⟩
    · obtain ⟨i, hi, rfl⟩ := hx x hx'
      exact (h2 i hi).1
    · rw [List.pairwise_iff_getElem]
      intro i j hi hj hij
      have step: ∀d:Nat,∀hd:i+1+d<l.length,lt l[i].f0 (l[i+1+d]).f0=true:=by
        intro d
        induction d with
        | zero =>
          intro hd
          have:=(h2 (i+1) (by omega)).2.1 (by omega)
          rw [show (((i+1:Nat):Int) - 1)=(i:Int) from by omega,rd_get hi,rd_get (show i+1<l.length by omega)] at this
          exact this
        | succ d ih =>
          intro hd
          have:=(h2 (i+1+(d+1)) hd).2.1 (by omega)
          rw [show (((i+1+(d+1):Nat):Int) - 1)=((i+1+d:Nat):Int) from by omega,rd_get (show i+1+d<l.length by omega),rd_get hd] at this
          exact lt_trans (ih (by omega)) this
      have:=step (j - (i+1)) (by omega)
      simpa [show i+1+(j - (i+1))=j by omega] using this
    · obtain ⟨i, hi, rfl⟩ := hx x hx'
      exact (h2 i hi).2.2
    · obtain ⟨i, hi, rfl⟩ := hx x hx'
      exact h3 i hi c
    · obtain ⟨i, hi, rfl⟩ := hx x hx'
      exact up_len_iff.1 (h4 i hi)
theorem of_addV_ (c:Comp) (a:Vec) (ws:List Item):c.of (addV a ws)=c.of a+sumBy (fun x=>c.of x.f4) ws:=by cases c<;>rfl
theorem addV_snoc_ (a:Vec) (ws:List Item) (y:Item):addV a (ws++ [y])=vadd (addV a ws) y.f4:=vec_ext fun c=>by
 rw [of_vadd,of_addV_,of_addV_,sumBy_append,sumBy_cons,sumBy_nil];omega
theorem small_addV_ {a:Vec} {n:Nat} (ha:SmallV a n) {ws:List Item} (hw: ∀y∈ws,MayP y.f4):SmallV (addV a ws) (n+ws.length):=fun c=>by
 have h1:=ha c
 have h2:=sumBy_nonneg (g:=fun x=>c.of x.f4) (l:=ws) (fun y hy=>(hw y hy c).1)
 have h3:=sumBy_le (g:=fun x=>c.of x.f4) (B:=1099511627776) (l:=ws) (fun y hy=>(hw y hy c).2)
 rw [of_addV_]
 omega
theorem r10_add_small_ {a b:Vec} {n:Nat} (ha:SmallV a n) (hb:MayP b) (hn:n≤1000):r10_Add.f a.f0 a.f1 a.f2 b.f0 b.f1 b.f2=some ((vadd a b).f0,(vadd a b).f1,(vadd a b).f2):=by
 obtain ⟨e0,e1,e2⟩:=small_wrap ha hb hn
 unfold r10_Add.f
 rw [e0,e1,e2]
theorem ok2_iff {l:List Item} {i:Nat} {x:Item} (hx:rd_T31 l i=x):Ok2 l i↔addV x.f3 (l.filter (fun y=>decide (y.f1=x.f0)))=x.f4:=by
  have key: ∀c:Comp,c.of (addV x.f3 (l.filter (fun y=>decide (y.f1=x.f0))))=c.of x.f3+csum c l x.f0:=fun c=>by
    rw [of_addV_,sumBy_filter]
    simp only [decide_eq_true_eq]
    rfl
  unfold Ok2
  rw [hx]
  constructor
  · intro h
    exact vec_ext fun c=>by rw [key c,h c]
  · intro h c
    rw [←key c,h]
theorem r10_full_l2 {l:List Item} (hlen:l.length≤120) (h1: ∀i,i<l.length→Ok1 l i) {i:Nat} (hi:i<l.length) {x:Item} (hx:rd_T31 l i=x) {b:Bool} (hno: ¬(Ok2 l i∧Ok3 l i)→b=false)
    (rest:Ok2 l i∧Ok3 l i→Ev (fun k=>r10_Right.l1 k l ((i+1:Nat):Int)) b): ∀(d j:Nat),l.length - j=d→j≤l.length→
    Ev (fun k=>r10_Right.l2 k l i j (addV x.f3 ((l.take j).filter (fun y=>decide (y.f1=x.f0)))).f0 (addV x.f3 ((l.take j).filter (fun y=>decide (y.f1=x.f0)))).f1 (addV x.f3 ((l.take j).filter (fun y=>decide (y.f1=x.f0)))).f2) b
  | 0, j, hd, hj => by
    obtain rfl:j=l.length:=by omega
    rw [List.take_length]
    have hok:=ok2_iff (l:=l) (i:=i) hx
    generalize addV x.f3 (l.filter (fun y=>decide (y.f1=x.f0)))=s at hok
    refine Ev.step (fun k=>r10_Right.l2.eq_2 (k:=k) ..) ?_
    have e1:((i:Int)<(l.length:Int))=True:=eq_true (by omega)
    have e2:((0:Int)≤(i:Int))=True:=eq_true (by omega)
    have e3:wrap64 ((i:Int)+1)=((i+1:Nat):Int):=by rw [w64 (by omega) (by omega)];rfl
    simp only [Int.lt_irrefl,if_false,e1,e2,if_true,hx,e3]
    by_cases hs:s=x.f4
    · subst hs
      refine Ev.congr (fun k=>if_neg (by simp)) ?_
      refine Ev.bind (r10_Up_ev l x.f0 (by omega)) ?_
      by_cases hu:(up l x.f0).length≤l.length
      · exact Ev.congr (fun k=>if_neg (by omega)) (rest ⟨hok.2 rfl,by unfold Ok3;rw [hx];exact hu⟩)
      · refine Ev.congr (fun k => if_pos (by omega)) ?_
        rw [hno (fun q=>hu (by have:=q.2;unfold Ok3 at this;rw [hx] at this;exact this))]
        exact Ev.now _
    · refine Ev.congr (fun k => if_pos ?_) ?_
      · have : ¬ (s.f0 = x.f4.f0 ∧ s.f1 = x.f4.f1 ∧ s.f2 = x.f4.f2) := fun ⟨a, b, c⟩ => hs (vec_ext fun d => by cases d <;> assumption)
        by_cases a:s.f0=x.f4.f0<;>by_cases b:s.f1=x.f4.f1<;>by_cases c:s.f2=x.f4.f2<;>simp_all
      · rw [hno (fun q => hs (hok.1 q.1))]
        exact Ev.now _
  | d + 1, j, hd, hj => by
    have hlt:j<l.length:=by omega
    have ih:=r10_full_l2 hlen h1 hi hx hno rest d (j+1) (by omega) (by omega)
    have hrd:=rd_get hlt
    have hall: ∀y∈l,ItemOK y:=fun y hy=>by
      obtain ⟨m,hm,e⟩:=List.getElem_of_mem hy
      have:=(h1 m hm).1
      rw [rd_get hm,e] at this
      exact this
    have hym:MayP (l[j]).f4:=(hall _ (List.getElem_mem hlt)).sub
    rw [List.take_succ_eq_append_getElem hlt,List.filter_append] at ih
    have hxm:ItemOK x:=by rw [←hx];exact (h1 i hi).1
    have hsm:=small_addV_ (a:=x.f3) (n:=1) (fun c=>by have:=hxm.own c;omega) (ws:=(l.take j).filter (fun y=>decide (y.f1=x.f0))) (fun y hy=>(hall y (List.mem_of_mem_take (List.mem_filter.1 hy).1)).sub)
    have hfl:=List.length_filter_le (fun y:Item=>decide (y.f1=x.f0)) (l.take j)
    rw [List.length_take] at hfl
    generalize l[j]=y at hrd ih hym
    refine Ev.step (fun k=>r10_Right.l2.eq_2 (k:=k) ..) ?_
    have e1:((i:Int)<(l.length:Int))=True:=eq_true (by omega)
    have e2:((0:Int)≤(i:Int))=True:=eq_true (by omega)
    have e4:((j:Int)<(l.length:Int))=True:=eq_true (by omega)
    have e5:((0:Int)≤(j:Int))=True:=eq_true (by omega)
    have e3:wrap64 ((j:Int)+1)=((j+1:Nat):Int):=by rw [w64 (by omega) (by omega)];rfl
    simp only [e1,e2,e4,e5,if_true,hx,hrd,e3]
    by_cases hy:y.f1=x.f0
    · have e6 : (y.f1.toList = x.f0.toList) = True := eq_true (nm_inj.2 hy)
      rw [List.filter_cons_of_pos (by simpa using hy),List.filter_nil,addV_snoc_] at ih
      simp only [e6,if_true,r10_add_small_ hsm hym (by omega),Option.bind_some]
      exact ih
    · have e6 : (y.f1.toList = x.f0.toList) = False := eq_false (fun q => hy (nm_inj.1 q))
      rw [List.filter_cons_of_neg (by simpa using hy),List.filter_nil,List.append_nil] at ih
      simp only [e6,if_false]
      exact ih
theorem r10_full_l1 {l:List Item} (hlen:l.length≤120) (h1: ∀i,i<l.length→Ok1 l i) {b:Bool} (hb:b=true↔RightP l): ∀(d i:Nat),l.length - i=d→i≤l.length→(∀j,j<i→Ok2 l j∧Ok3 l j)→Ev (fun k=>r10_Right.l1 k l i) b
  | 0, i, hd, hi, hp => by
    obtain rfl:i=l.length:=by omega
    refine Ev.step (fun k=>r10_Right.l1.eq_2 (k:=k) ..) ?_
    simp only [Int.lt_irrefl,if_false]
    rw [hb.2 ((rightP_iff l).2 ⟨hlen,h1,fun j hj=>(hp j hj).1,fun j hj=>(hp j hj).2⟩)]
    exact Ev.now _
  | d + 1, i, hd, hi, hp => by
    have hlt:i<l.length:=by omega
    refine Ev.step (fun k=>r10_Right.l1.eq_2 (k:=k) ..) ?_
    have e1:((i:Int)<(l.length:Int))=True:=eq_true (by omega)
    have e2:((0:Int)≤(i:Int))=True:=eq_true (by omega)
    simp only [e1,e2,if_true]
    have:=r10_full_l2 hlen h1 hlt (x:=rd_T31 l i) rfl (b:=b) (fun q=>by
      cases b with
      |false=>rfl
      | true =>
        obtain ⟨_,_,a,c⟩:=(rightP_iff l).1 (hb.1 rfl)
        exact absurd ⟨a i hlt,c i hlt⟩ q) (fun q=>r10_full_l1 hlen h1 hb d (i+1) (by omega) (by omega) (fun j hj=>by
        by_cases e:j=i
        · rw [e];exact q
        · exact hp j (by omega))) _ 0 rfl (by omega)
    rw [List.take_zero,List.filter_nil,addV_nil] at this
    exact this
theorem r10_full_l0 {l:List Item} (hlen:l.length≤120) {b:Bool} (hb:b=true↔RightP l): ∀(d i:Nat),l.length - i=d→i≤l.length→(∀j,j<i→Ok1 l j)→Ev (fun k=>r10_Right.l0 k l i) b
  | 0, i, hd, hi, hp => by
    obtain rfl:i=l.length:=by omega
    refine Ev.step (fun k=>r10_Right.l0.eq_2 (k:=k) ..) ?_
    simp only [Int.lt_irrefl,if_false]
    exact r10_full_l1 hlen hp hb _ 0 rfl (by omega) (fun j hj=>absurd hj (by omega))
  | d + 1, i, hd, hi, hp => by
    have hlt:i<l.length:=by omega
    have hbad: ¬Ok1 l i→Ev (fun _=>some false) b:=fun q=>by
      cases b with
      |false=>exact Ev.now _
      |true=>exact absurd (((rightP_iff l).1 (hb.1 rfl)).2.1 i hlt) q
    have hnext:Ok1 l i→Ev (fun k=>r10_Right.l0 k l ((i+1:Nat):Int)) b:=fun q=>r10_full_l0 hlen hb d (i+1) (by omega) (by omega) (fun j hj=>by
      by_cases e:j=i
      · rw [e];exact q
      · exact hp j (by omega))
    obtain ⟨x,hx⟩: ∃x,rd_T31 l (i:Int)=x:=⟨_,rfl⟩
    have hOk:Ok1 l i↔ItemOK x∧(0<i→lt (rd_T31 l ((i:Int) - 1)).f0 x.f0=true)∧(x.f1=⟨#[]⟩∨ ∃y,look l x.f1=some y):=by unfold Ok1;rw [hx]
    have e1:((i:Int)<(l.length:Int))=True:=eq_true (by omega)
    have e2:((0:Int)≤(i:Int))=True:=eq_true (by omega)
    have e3:wrap64 ((i:Int)+1)=((i+1:Nat):Int):=by rw [w64 (by omega) (by omega)];rfl
    have n0:r10_MayName.f x.f0=some (decide (x.f0≠⟨#[]⟩∧x.f0.size≤24)):=r10_MayName_eq _
    have n1:r10_MayVec.f x.f2.f0 x.f2.f1 x.f2.f2=some (decide (MayP x.f2)):=r10_MayVec_eq _ _ _
    have n2:r10_MayVec.f x.f3.f0 x.f3.f1 x.f3.f2=some (decide (MayP x.f3)):=r10_MayVec_eq _ _ _
    have n3:r10_Le.f x.f4.f0 x.f4.f1 x.f4.f2 x.f2.f0 x.f2.f1 x.f2.f2=some (decide (LeP x.f4 x.f2)):=r10_Le_eq _ _ _ _ _ _
    have n4:r10_MayVec.f x.f4.f0 x.f4.f1 x.f4.f2=some (decide (MayP x.f4)):=r10_MayVec_eq _ _ _
    refine Ev.step (fun k=>r10_Right.l0.eq_2 (k:=k) ..) ?_
    simp only [e1,e2,if_true,hx,n0,n1,n2,n3,n4,Option.bind_some,e3,decide_eq_true_eq]
    by_cases m0:x.f0≠⟨#[]⟩∧x.f0.size≤24
    case neg=>exact Ev.congr (fun k=>if_neg m0) (hbad fun q=>m0 ⟨(hOk.1 q).1.name,(hOk.1 q).1.size⟩)
    refine Ev.congr (fun k=>if_pos m0) ?_
    have hver:(0<i→lt (rd_T31 l ((i:Int) - 1)).f0 x.f0=true)→MayP x.f2→MayP x.f3→(x.f1=⟨#[]⟩∨ ∃y,look l x.f1=some y)→
        Ev (fun k=>if x.f5<1 then some false else if x.f5>9007199254740992 then some false else if LeP x.f4 x.f2 then (if MayP x.f4 then r10_Right.l0 k l ((i+1:Nat):Int) else some false) else some false) b:=fun ho ml mo hpar=>by
      by_cases v1:x.f5<1
      · exact Ev.congr (fun k=>if_pos v1) (hbad fun q=>by have:=(hOk.1 q).1.ver;omega)
      refine Ev.congr (fun k=>if_neg v1) ?_
      by_cases v2:x.f5>9007199254740992
      · exact Ev.congr (fun k=>if_pos v2) (hbad fun q=>by have:=(hOk.1 q).1.ver;omega)
      refine Ev.congr (fun k=>if_neg v2) ?_
      by_cases v3:LeP x.f4 x.f2
      case neg=>exact Ev.congr (fun k=>if_neg v3) (hbad fun q=>v3 (hOk.1 q).1.fit)
      refine Ev.congr (fun k=>if_pos v3) ?_
      by_cases v4:MayP x.f4
      case neg=>exact Ev.congr (fun k=>if_neg v4) (hbad fun q=>v4 (hOk.1 q).1.sub)
      exact Ev.congr (fun k=>if_pos v4) (hnext (hOk.2 ⟨⟨m0.1,m0.2,ml,mo,v4,v3,by omega⟩,ho,hpar⟩))
    have hpar:(0<i→lt (rd_T31 l ((i:Int) - 1)).f0 x.f0=true)→Ev (fun k=>if MayP x.f2 then (if MayP x.f3 then (if x.f1.toList=([]:List UInt8) then (if x.f5<1 then some false else if x.f5>9007199254740992 then some false else if LeP x.f4 x.f2 then (if MayP x.f4 then r10_Right.l0 k l ((i+1:Nat):Int) else some false) else some false) else ((r10_Find.f k l x.f1).bind fun t9=>(if t9<0 then some false else (if x.f5<1 then some false else if x.f5>9007199254740992 then some false else if LeP x.f4 x.f2 then (if MayP x.f4 then r10_Right.l0 k l ((i+1:Nat):Int) else some false) else some false)))) else some false) else some false) b:=fun ho=>by
      by_cases ml:MayP x.f2
      case neg=>exact Ev.congr (fun k=>if_neg ml) (hbad fun q=>ml (hOk.1 q).1.lim)
      refine Ev.congr (fun k=>if_pos ml) ?_
      by_cases mo:MayP x.f3
      case neg=>exact Ev.congr (fun k=>if_neg mo) (hbad fun q=>mo (hOk.1 q).1.own)
      refine Ev.congr (fun k=>if_pos mo) ?_
      by_cases hp:x.f1=⟨#[]⟩
      · exact Ev.congr (fun k=>if_pos (nm_empty.2 hp)) (hver ho ml mo (.inl hp))
      · refine Ev.congr (fun k => if_neg (fun z => hp (nm_empty.1 z))) (Ev.bind (r10_Find_ev l x.f1 (by omega)) ?_)
        by_cases hf:fnd l x.f1<0
        · refine Ev.congr (fun k => if_pos hf) (hbad fun q => ?_)
          rcases (hOk.1 q).2.2 with z|⟨y,hy⟩
          · exact hp z
          · rw [fnd_neg.1 hf] at hy;cases hy
        · exact Ev.congr (fun k=>if_neg hf) (hver ho ml mo (.inr (fnd_ge.1 (by omega))))
    by_cases hi0:(i:Int)>0
    · have e4 : wrap64 ((i : Int) - 1) = (i : Int) - 1 := w64 (by omega) (by omega)
      have e5:((i:Int)>0)=True:=eq_true hi0
      have e6:(0≤(i:Int) - 1)=True:=eq_true (by omega)
      have e7:((i:Int) - 1<(l.length:Int))=True:=eq_true (by omega)
      simp only [e4,e5,e6,e7,if_true]
      by_cases m2:lt (rd_T31 l ((i:Int) - 1)).f0 x.f0=true
      · exact Ev.congr (fun k=>if_pos m2) (hpar (fun _=>m2))
      · exact Ev.congr (fun k=>if_neg m2) (hbad fun q=>m2 ((hOk.1 q).2.1 (by omega)))
    · have e5 : ((i : Int) > 0) = False := eq_false hi0
      simp only [e5,if_false]
      exact hpar (fun q=>absurd q (by omega))
theorem r10_Right_ev (l:List Item) {b:Bool} (hb:b=true↔RightP l):Ev (fun k=>r10_Right.f k l) b:=by
  unfold r10_Right.f
  by_cases h:(l.length:Int)>120
  · refine Ev.congr (fun k => if_pos h) ?_
    cases b with
    |false=>exact Ev.now _
    |true=>exact absurd (hb.1 rfl).len (by omega)
  · exact Ev.congr (fun k=>if_neg h) (r10_full_l0 (by omega) hb _ 0 rfl (by omega) (fun j hj=>absurd hj (by omega)))
theorem u16_bd {x:Int} (h:(Lit.int .u16 x).wf=true):0≤x∧x≤65535:=by
 simp only [Lit.wf,Bool.and_eq_true,decide_eq_true_eq] at h
 exact h
theorem look_insL {l:List Item} {it:Item} (h:look l it.f0=none) (n:ByteArray):look (insL l it) n=if n=it.f0 then some it else look l n:=by
 obtain ⟨a,b,e,ei,_⟩:=insL_eq l it
 rw [ei,look_ins a b it n (by rw [←e];exact h),←e]
theorem delL_insL {l:List Item} {it:Item} (h:look l it.f0=none):delL (insL l it) it.f0=l:=by
 obtain ⟨a,b,e,ei,_⟩:=insL_eq l it
 have hn:=look_none.1 h
 have ha:a.filter (fun z=>decide (z.f0≠it.f0))=a:=List.filter_eq_self.2 fun x hx=>by simpa using hn x (by rw [e];simp [hx])
 have hb:b.filter (fun z=>decide (z.f0≠it.f0))=b:=List.filter_eq_self.2 fun x hx=>by simpa using hn x (by rw [e];simp [hx])
 unfold delL
 rw [ei,List.filter_append,List.filter_cons,ha,hb,if_neg (by simp),←e]
theorem made_none {l:List Item} (hM:MadeP l):look l ⟨#[110,111,110,101]⟩=none:=look_none.2 fun x hx e=>by
 obtain ⟨c,h1,_,h2⟩:=hM.name x hx
 have:=congrArg ByteArray.size e
 rw [h2,(one_name h1).2] at this
 exact absurd this (by decide)
theorem sc_j3 {l:List Item} (hM:MadeP l) {n p:ByteArray} {v:Vec} (hn:n≠⟨#[]⟩) (hs:n.size≤24) (hv:MayP v) (hnew:look l n=none) (hp:p=⟨#[]⟩∨ ∃y,look l p=some y) (hr:RightP (insL l (newItem n p v))):
    Ev (fun k=>law15_ShapeComes.j3 k n l (insL l (newItem n p v)) false v.f0 v.f1 v.f2) true:=by
  have hlen:=hM.len
  have hpn:p≠n:=by
    rcases hp with rfl|⟨y,hy⟩
    · exact fun q=>hn q.symm
    · intro q;rw [q,hnew] at hy;cases hy
  have hlk:look (insL l (newItem n p v)) n=some (newItem n p v):=by
    rw [look_insL (it:=newItem n p v) hnew]
    exact if_pos rfl
  have hk: ¬0<(kids (insL l (newItem n p v)) n).length:=by
    have:(insL l (newItem n p v)).filter (fun x=>decide (x.f1=n))=[]:=List.filter_eq_nil_iff.2 fun y hy=>by
      rcases mem_insL.1 hy with rfl|hy
      · simp [newItem,hpn]
      · intro q
        have q':y.f1=n:=by simpa using q
        rcases hM.right.par y hy with e|⟨z,hz⟩
        · exact hn (q'.symm.trans e)
        · rw [q',hnew] at hz;cases hz
    unfold kids
    rw [this]
    decide
  have d1:delR (insL l (newItem n p v)) n 1=(l,0):=by
    unfold delR
    rw [oldR_some hlk,if_neg (by simp [newItem]),if_neg hk]
    simp only [hlk]
    rw [if_pos ⟨rfl,rfl,rfl⟩]
    have:=delL_insL (l:=l) (it:=newItem n p v) hnew
    rw [show (newItem n p v).f0=n from rfl] at this
    rw [this]
  have d2:(delR (insL l (newItem n p v)) n 2).2=14:=by
    unfold delR
    have:oldR (insL l (newItem n p v)) n 2=14:=by rw [oldR_some hlk,if_pos ⟨by decide,by simp [newItem]⟩]
    rw [this,if_pos (by decide)]
  have c2:creR l n ⟨#[110,111,110,101]⟩ v=([],2):=by
    unfold creR
    rw [if_neg (fun q=>q ⟨⟨hn,hs⟩,hv⟩),hnew,if_neg (by simp),made_none hM,if_pos ⟨by decide,rfl⟩]
  have a1:=shape_Delete_ev hr n 1
  have a2:=shape_Delete_ev hr n 2
  rw [d1] at a1
  generalize delR (insL l (newItem n p v)) n 2=r2 at a2 d2
  refine Ev.step (fun k=>law15_ShapeComes.j3.eq_2 (k:=k) ..) ?_
  simp only [Bool.false_eq_true,if_false]
  refine Ev.bind a1 ?_
  rw [shape_Create_eq (v:=v) (by omega),c2]
  simp only [Option.bind_some]
  refine Ev.bind a2 ?_
  simp only [ss_num,Option.bind_some,if_true]
  refine Ev.bind (shSame_refl l (by omega)) (Ev.congr (fun k=>if_pos rfl) ?_)
  rw [if_pos d2]
  exact ss_awake_ev
theorem sc_j2 {l:List Item} (hM:MadeP l) {n p:ByteArray} {v:Vec} (hv:MayP v) (hp:p=⟨#[]⟩∨ ∃y,look l p=some y) {b:Bool} (hb:b=true↔n=⟨#[]⟩∨24<n.size):
    Ev (fun k=>law15_ShapeComes.j2 k n l p (creR l n p v).1 (creR l n p v).2 b v.f0 v.f1 v.f2) true:=by
  have hlen:=hM.len
  refine Ev.step (fun k=>law15_ShapeComes.j2.eq_2 (k:=k) ..) ?_
  cases b with
  | true =>
    have:(creR l n p v).2=1:=by
      unfold creR
      rw [if_pos (fun q=>by rcases hb.1 rfl with e|e;exact q.1.1 e;have:=q.1.2;omega)]
    simp only [if_true,ss_num,Option.bind_some]
    rw [if_pos this]
    exact ss_awake_ev
  | false =>
    have hno: ¬(n=⟨#[]⟩∨24<n.size):=fun q=>by have:=hb.2 q;cases this
    have hn:n≠⟨#[]⟩:=fun q=>hno (.inl q)
    have hs:n.size≤24:=by have: ¬24<n.size:=fun q=>hno (.inr q);omega
    simp only [Bool.false_eq_true,if_false]
    refine Ev.bind (r10_Find_ev l n (by omega)) ?_
    cases hl:look l n with
    | some x =>
      have h3:(creR l n p v).2=3:=by
        unfold creR
        rw [if_neg (fun q=>q ⟨⟨hn,hs⟩,hv⟩),hl,if_pos (show (some x).isSome=true from rfl)]
      refine Ev.congr (fun k=>if_pos (fnd_ge.2 ⟨x,hl⟩)) ?_
      simp only [ss_num,Option.bind_some]
      rw [if_pos h3]
      exact ss_awake_ev
    | none =>
      have hc:creR l n p v=(insL l (newItem n p v),0):=by
        unfold creR
        rw [if_neg (fun q=>q ⟨⟨hn,hs⟩,hv⟩),hl,if_neg (by simp),if_neg (fun q=>by rcases hp with e|⟨y,hy⟩;exact q.1 e;rw [hy] at q;simp at q),if_neg (by omega)]
      have hr:RightP (insL l (newItem n p v)):=(creR_right hM.right (n:=n) (p:=p) (v:=v) (by rw [hc])).2.1
      have hlk:look (insL l (newItem n p v)) n=some (newItem n p v):=by
        rw [look_insL (it:=newItem n p v) hl]
        exact if_pos rfl
      have hge:=fnd_ge.2 ⟨_,hlk⟩
      have hlt:=fnd_lt (insL l (newItem n p v)) n
      have hrd:=fnd_rd hlk
      refine Ev.congr (fun k=>if_neg (by have:=fnd_neg.2 hl;omega)) ?_
      rw [hc]
      refine Ev.bind (r10_Find_ev _ n (by rw [len_insL];omega)) ?_
      simp only [ss_num,Option.bind_some,if_true]
      refine Ev.bind (r10_Right_ev _ (b:=true) (by simp [hr])) (Ev.congr (fun k=>if_pos rfl) ?_)
      refine Ev.congr (fun k=>if_neg (by omega)) (Ev.congr (fun k=>if_pos hge) (Ev.congr (fun k=>if_pos hlt) ?_))
      rw [hrd]
      have e:(!(((newItem n p v).f0).toList==n.toList)||(!(((newItem n p v).f1).toList==p.toList)||((!((newItem n p v).f2.f0==v.f0)||(!((newItem n p v).f2.f1==v.f1)||(!((newItem n p v).f2.f2==v.f2))))||((!((newItem n p v).f3.f0==0)||(!((newItem n p v).f3.f1==0)||(!((newItem n p v).f3.f2==0))))||((!((newItem n p v).f4.f0==0)||(!((newItem n p v).f4.f1==0)||(!((newItem n p v).f4.f2==0))))||(!((newItem n p v).f5==1)))))))=false:=by
        simp [newItem,zVec]
      rw [e]
      exact sc_j3 hM hn hs hv hl hp hr
theorem sc_j1 {l:List Item} (hM:MadeP l) {n p:ByteArray} {c:Int} (hc:0≤c∧c≤65535) (hp:p=⟨#[]⟩∨ ∃y,look l p=some y):Ev (fun k=>law15_ShapeComes.j1 k n c l p) true:=by
  have hlen:=hM.len
  have hv:MayP ⟨wrap64 c,0,0⟩:=comp_all.2 ⟨by show 0≤wrap64 c∧wrap64 c≤1099511627776;rw [w64 (by omega) (by omega)];omega,by show (0:Int)≤0∧(0:Int)≤1099511627776;omega,by show (0:Int)≤0∧(0:Int)≤1099511627776;omega⟩
  refine Ev.step (fun k=>law15_ShapeComes.j1.eq_2 (k:=k) ..) ?_
  have hcr:=shape_Create_eq (l:=l) (by omega) n p ⟨wrap64 c,0,0⟩
  dsimp only at hcr
  rw [hcr]
  simp only [Option.bind_some]
  by_cases h:n.toList=([]:List UInt8)
  · refine Ev.congr (fun k => if_pos h) ?_
    have hn:n=⟨#[]⟩:=nm_empty.1 h
    exact sc_j2 hM hv hp (by simp [hn])
  · refine Ev.congr (fun k => if_neg h) ?_
    refine sc_j2 hM hv hp ?_
    have hn:n≠⟨#[]⟩:=fun q=>h (nm_empty.2 q)
    simp only [decide_eq_true_eq,hn,false_or]
    omega
end Go.Proofs.Ytcgefpklljclgaa.Print
namespace Go.Proofs.Ytcgefpklljclgaa.Pure
open Go.RowKit Go.Proofs.Ytcgefpklljclgaa.Print Go.Proofs.YtcgefpklljclgaaW.PrintWords Go.Proofs.YtcgefpklljclgaaW.PrintLast
theorem ShapeComes:law15_ShapeComes.Pure:=by
  intro l0 a1 a2 a3 _ _ hw _ h2 h3
  have b2:=u8_bd h2
  have b3:=u16_bd h3
  have hj: ∀b,(b=false→(l0.length:Int)≤90)→Ev (fun k=>law15_ShapeComes.j0 k l0 a1 a2 a3 b) true:=by
    intro b hb
    refine Ev.step (fun k=>law15_ShapeComes.j0.eq_2 (k:=k) ..) ?_
    cases b with
    | true =>
      simp only [if_true]
      exact ss_awake_ev
    | false =>
      have hh:=hb rfl
      obtain ⟨l,hlev,hM⟩:=made_all (ns:=l0) (fun x hx=>u8_bd (hw x hx)) (by omega)
      have hlen:=hM.len
      simp only [Bool.false_eq_true,if_false]
      refine Ev.bind hlev ?_
      rw [w64 (n:=(l.length:Int)+1) (by omega) (by omega),w64 (n:=a2) (by omega) (by omega)]
      refine Ev.congr (fun k=>if_neg (by omega)) ?_
      have ht0:0≤Int.tmod a2 ((l.length:Int)+1):=Int.tmod_nonneg _ (by omega)
      by_cases hlt:Int.tmod a2 ((l.length:Int)+1)<(l.length:Int)
      · refine Ev.congr (fun k => if_pos hlt) (Ev.congr (fun k => if_pos ht0) ?_)
        generalize Int.tmod a2 ((l.length:Int)+1)=j at hlt ht0
        obtain ⟨i,rfl⟩:=Int.eq_ofNat_of_zero_le ht0
        exact sc_j1 hM b3 (.inr ⟨_,hM.right.look (rd_mem (by omega))⟩)
      · refine Ev.congr (fun k => if_neg hlt) ?_
        exact sc_j1 hM b3 (.inl rfl)
  unfold law15_ShapeComes.f
  by_cases h:(l0.length:Int)>90
  · exact Ev.rounds (Ev.congr (fun k=>if_pos h) (hj true (by simp)))
  · exact Ev.rounds (Ev.congr (fun k=>if_neg h) (hj _ (fun e=>by omega)))
end Go.Proofs.Ytcgefpklljclgaa.Pure

namespace Go.Proofs.Ytcgefpklljclgaa.Head
def signs:List Char:=(List.map Char.ofNat [104,97,114,110,101,115,115,32,101,57,98,52,101,102,52,49,56,50,56,101,102,50,55,102,51,55,102,48,53,54,50,55,56,50,54,101,101,100,101,57,53,99,56,98,55,57,99,100,98,99,52,99,49,100,54,49,98,101,98,55,57,55,52,102,49,51,53,99,97,49,48,51,32,99,117,116,32,97,116,32,100,111,111,114,107,101,101,112,101,114,47,100,111,111,114,107,101,101,112,101,114,108,97,119,49,51,46,82,111,111,109,85,112,32,100,111,111,114,107,101,101,112,101,114,47,100,111,111,114,107,101,101,112,101,114,108,97,119,49,55,46,68,114,105,102,116,65,108,108,32,100,111,111,114,107,101,101,112,101,114,47,100,111,111,114,107,101,101,112,101,114,108,97,119,49,55,46,68,114,105,102,116,84,101,108,108,115,32,100,111,111,114,107,101,101,112,101,114,47,100,111,111,114,107,101,101,112,101,114,108,97,119,50,48,46,69,102,102,101,99,116,65,108,108,32,100,111,111,114,107,101,101,112,101,114,47,100,111,111,114,107,101,101,112,101,114,108,97,119,50,48,46,69,102,102,101,99,116,77,97,100,101,32,100,111,111,114,107,101,101,112,101,114,47,100,111,111,114,107,101,101,112,101,114,108,97,119,50,48,46,69,102,102,101,99,116,68,111,110,101,32,100,111,111,114,107,101,101,112,101,114,47,100,111,111,114,107,101,101,112,101,114,108,97,119,49,52,46,65,100,109,105,116,84,119,105,99,101,32,100,111,111,114,107,101,101,112,101,114,47,100,111,111,114,107,101,101,112,101,114,108,97,119,49,51,46,82,111,111,109,70,105,116,115,32,100,111,111,114,107,101,101,112,101,114,47,100,111,111,114,107,101,101,112,101,114,108,97,119,49,50,46,84,114,101,101,65,108,108,32,100,111,111,114,107,101,101,112,101,114,47,100,111,111,114,107,101,101,112,101,114,108,97,119,49,50,46,84,114,101,101,77,97,100,101,32,100,111,111,114,107,101,101,112,101,114,47,100,111,111,114,107,101,101,112,101,114,108,97,119,49,50,46,84,114,101,101,83,117,109,115,32,100,111,111,114,107,101,101,112,101,114,47,100,111,111,114,107,101,101,112,101,114,108,97,119,49,50,46,84,114,101,101,66,101,108,111,119,32,100,111,111,114,107,101,101,112,101,114,47,100,111,111,114,107,101,101,112,101,114,108,97,119,49,51,46,82,111,111,109,83,104,97,114,101,115,32,100,111,111,114,107,101,101,112,101,114,47,100,111,111,114,107,101,101,112,101,114,108,97,119,49,52,46,65,100,109,105,116,65,108,108,32,100,111,111,114,107,101,101,112,101,114,47,100,111,111,114,107,101,101,112,101,114,108,97,119,49,52,46,65,100,109,105,116,77,97,100,101,32,100,111,111,114,107,101,101,112,101,114,47,100,111,111,114,107,101,101,112,101,114,108,97,119,49,52,46,65,100,109,105,116,82,111,111,109,32,100,111,111,114,107,101,101,112,101,114,47,100,111,111,114,107,101,101,112,101,114,108,97,119,49,51,46,82,111,111,109,65,108,108,32,100,111,111,114,107,101,101,112,101,114,47,100,111,111,114,107,101,101,112,101,114,108,97,119,49,51,46,82,111,111,109,77,97,100,101,32,100,111,111,114,107,101,101,112,101,114,47,100,111,111,114,107,101,101,112,101,114,108,97,119,49,53,46,83,104,97,112,101,77,97,110,121,32,100,111,111,114,107,101,101,112,101,114,47,100,111,111,114,107,101,101,112,101,114,108,97,119,49,53,46,83,104,97,112,101,67,111,109,101,115,32,100,111,111,114,107,101,101,112,101,114,47,100,111,111,114,107,101,101,112,101,114,108,97,119,49,53,46,83,104,97,112,101,76,105,109,105,116,115,32,100,111,111,114,107,101,101,112,101,114,47,100,111,111,114,107,101,101,112,101,114,108,97,119,49,53,46,83,104,97,112,101,77,111,118,101,115,32,100,111,111,114,107,101,101,112,101,114,47,100,111,111,114,107,101,101,112,101,114,108,97,119,49,53,46,83,104,97,112,101,65,108,108,32,100,111,111,114,107,101,101,112,101,114,47,100,111,111,114,107,101,101,112,101,114,108,97,119,49,53,46,83,104,97,112,101,77,97,100,101,32,100,111,111,114,107,101,101,112,101,114,47,100,111,111,114,107,101,101,112,101,114,108,97,119,49,53,46,83,104,97,112,101,82,101,115,116,32,100,111,111,114,107,101,101,112,101,114,47,100,111,111,114,107,101,101,112,101,114,108,97,119,49,57,46,84,114,105,97,108,67,117,116,115,32,100,111,111,114,107,101,101,112,101,114,47,100,111,111,114,107,101,101,112,101,114,108,97,119,49,57,46,84,114,105,97,108,65,108,108,32,100,111,111,114,107,101,101,112,101,114,47,100,111,111,114,107,101,101,112,101,114,108,97,119,49,57,46,84,114,105,97,108,77,97,100,101])
set_option maxRecDepth 100000 in
theorem word:Try.prog.initOrder=String.ofList signs:=by kernel_rfl
theorem list:Try.prog.initOrder.toList=signs:=by rw [word,String.toList_ofList]
theorem words_app: ∀(w r:List Char),(∀c∈w,c≠Char.ofNat 32)→wordsSigns (w++Char.ofNat 32::r)=w::wordsSigns r
  |[],r,_=>rfl
  | c :: w, r, h => by
    have hc:c≠Char.ofNat 32:=h c (by simp)
    have ih:=words_app w r (fun d hd=>h d (by simp [hd]))
    show wordsSigns (c::(w++Char.ofNat 32::r))=_
    rw [wordsSigns.eq_3 _ _ (fun q=>hc q),ih]
def w1:List Char:=[Char.ofNat 104,Char.ofNat 97,Char.ofNat 114,Char.ofNat 110,Char.ofNat 101,Char.ofNat 115,Char.ofNat 115]
def w2:List Char:=(List.map Char.ofNat [101,57,98,52,101,102,52,49,56,50,56,101,102,50,55,102,51,55,102,48,53,54,50,55,56,50,54,101,101,100,101,57,53,99,56,98,55,57,99,100,98,99,52,99,49,100,54,49,98,101,98,55,57,55,52,102,49,51,53,99,97,49,48,51])
def w3:List Char:=[Char.ofNat 99,Char.ofNat 117,Char.ofNat 116]
def rest:List Char:=(List.map Char.ofNat [97,116,32,100,111,111,114,107,101,101,112,101,114,47,100,111,111,114,107,101,101,112,101,114,108,97,119,49,51,46,82,111,111,109,85,112,32,100,111,111,114,107,101,101,112,101,114,47,100,111,111,114,107,101,101,112,101,114,108,97,119,49,55,46,68,114,105,102,116,65,108,108,32,100,111,111,114,107,101,101,112,101,114,47,100,111,111,114,107,101,101,112,101,114,108,97,119,49,55,46,68,114,105,102,116,84,101,108,108,115,32,100,111,111,114,107,101,101,112,101,114,47,100,111,111,114,107,101,101,112,101,114,108,97,119,50,48,46,69,102,102,101,99,116,65,108,108,32,100,111,111,114,107,101,101,112,101,114,47,100,111,111,114,107,101,101,112,101,114,108,97,119,50,48,46,69,102,102,101,99,116,77,97,100,101,32,100,111,111,114,107,101,101,112,101,114,47,100,111,111,114,107,101,101,112,101,114,108,97,119,50,48,46,69,102,102,101,99,116,68,111,110,101,32,100,111,111,114,107,101,101,112,101,114,47,100,111,111,114,107,101,101,112,101,114,108,97,119,49,52,46,65,100,109,105,116,84,119,105,99,101,32,100,111,111,114,107,101,101,112,101,114,47,100,111,111,114,107,101,101,112,101,114,108,97,119,49,51,46,82,111,111,109,70,105,116,115,32,100,111,111,114,107,101,101,112,101,114,47,100,111,111,114,107,101,101,112,101,114,108,97,119,49,50,46,84,114,101,101,65,108,108,32,100,111,111,114,107,101,101,112,101,114,47,100,111,111,114,107,101,101,112,101,114,108,97,119,49,50,46,84,114,101,101,77,97,100,101,32,100,111,111,114,107,101,101,112,101,114,47,100,111,111,114,107,101,101,112,101,114,108,97,119,49,50,46,84,114,101,101,83,117,109,115,32,100,111,111,114,107,101,101,112,101,114,47,100,111,111,114,107,101,101,112,101,114,108,97,119,49,50,46,84,114,101,101,66,101,108,111,119,32,100,111,111,114,107,101,101,112,101,114,47,100,111,111,114,107,101,101,112,101,114,108,97,119,49,51,46,82,111,111,109,83,104,97,114,101,115,32,100,111,111,114,107,101,101,112,101,114,47,100,111,111,114,107,101,101,112,101,114,108,97,119,49,52,46,65,100,109,105,116,65,108,108,32,100,111,111,114,107,101,101,112,101,114,47,100,111,111,114,107,101,101,112,101,114,108,97,119,49,52,46,65,100,109,105,116,77,97,100,101,32,100,111,111,114,107,101,101,112,101,114,47,100,111,111,114,107,101,101,112,101,114,108,97,119,49,52,46,65,100,109,105,116,82,111,111,109,32,100,111,111,114,107,101,101,112,101,114,47,100,111,111,114,107,101,101,112,101,114,108,97,119,49,51,46,82,111,111,109,65,108,108,32,100,111,111,114,107,101,101,112,101,114,47,100,111,111,114,107,101,101,112,101,114,108,97,119,49,51,46,82,111,111,109,77,97,100,101,32,100,111,111,114,107,101,101,112,101,114,47,100,111,111,114,107,101,101,112,101,114,108,97,119,49,53,46,83,104,97,112,101,77,97,110,121,32,100,111,111,114,107,101,101,112,101,114,47,100,111,111,114,107,101,101,112,101,114,108,97,119,49,53,46,83,104,97,112,101,67,111,109,101,115,32,100,111,111,114,107,101,101,112,101,114,47,100,111,111,114,107,101,101,112,101,114,108,97,119,49,53,46,83,104,97,112,101,76,105,109,105,116,115,32,100,111,111,114,107,101,101,112,101,114,47,100,111,111,114,107,101,101,112,101,114,108,97,119,49,53,46,83,104,97,112,101,77,111,118,101,115,32,100,111,111,114,107,101,101,112,101,114,47,100,111,111,114,107,101,101,112,101,114,108,97,119,49,53,46,83,104,97,112,101,65,108,108,32,100,111,111,114,107,101,101,112,101,114,47,100,111,111,114,107,101,101,112,101,114,108,97,119,49,53,46,83,104,97,112,101,77,97,100,101,32,100,111,111,114,107,101,101,112,101,114,47,100,111,111,114,107,101,101,112,101,114,108,97,119,49,53,46,83,104,97,112,101,82,101,115,116,32,100,111,111,114,107,101,101,112,101,114,47,100,111,111,114,107,101,101,112,101,114,108,97,119,49,57,46,84,114,105,97,108,67,117,116,115,32,100,111,111,114,107,101,101,112,101,114,47,100,111,111,114,107,101,101,112,101,114,108,97,119,49,57,46,84,114,105,97,108,65,108,108,32,100,111,111,114,107,101,101,112,101,114,47,100,111,111,114,107,101,101,112,101,114,108,97,119,49,57,46,84,114,105,97,108,77,97,100,101])
theorem parts:signs=w1++Char.ofNat 32::(w2++Char.ofNat 32::(w3++Char.ofNat 32::rest)):=by kernel_rfl
theorem behind: ∃r,behindMainWord (wordsSigns Try.prog.initOrder.toList)=w3::r:=by
 refine ⟨wordsSigns rest, ?_⟩
 rw [list,parts,words_app w1 _ (by decide),words_app w2 _ (by decide),words_app w3 _ (by decide)]
 generalize wordsSigns rest=r
 rfl
theorem strip (r:List (List Char)):stripLifts liftWords (w3::r)=([],w3::r):=by kernel_rfl
theorem not_carried (r:List (List Char)):((w3::r).head?==some "carried".toList)=false:=by kernel_rfl
theorem is_cut (r:List (List Char)):((w3::r).head?==some "cut".toList)=true:=by kernel_rfl
theorem not_gc:(w3== "gc".toList||w3== "spec".toList)=false:=by kernel_rfl
theorem cut_:(w3== "cut".toList)=true:=by kernel_rfl
theorem lifts_of {P:Program} {r:List (List Char)} (h:behindMainWord (wordsSigns P.initOrder.toList)=w3::r):P.liftsFinal=false:=by
 unfold Program.liftsFinal Program.headLifts
 simp only [h,strip,not_carried,is_cut,if_true,Bool.false_and,Bool.false_or,List.contains_nil]
theorem make_of {P:Program} {r:List (List Char)} (h:behindMainWord (wordsSigns P.initOrder.toList)=w3::r):P.make=some .cut:=by
 unfold Program.make
 simp only [h,not_gc,cut_,Bool.true_or,if_true,Bool.false_eq_true,if_false]
theorem lifts:Try.prog.liftsFinal=false:=by obtain ⟨r,h⟩:=behind;exact lifts_of h
theorem make:Try.prog.make=some .cut:=by obtain ⟨r,h⟩:=behind;exact make_of h
theorem later:Try.prog.laysLater=false:=by kernel_rfl
theorem reflects:Try.prog.bearsReflect=false:=by kernel_rfl
theorem door:Try.prog.doorFits []=true:=by kernel_rfl
theorem may_of {P:Program} {r:List (List Char)} (h:behindMainWord (wordsSigns P.initOrder.toList)=w3::r) (h1:P.laysLater=false) (h2:P.bearsReflect=false) (h3:P.doorFits []=true):P.mayEnter=true:=by
 unfold Program.mayEnter
 simp only [h,strip,is_cut,h1,h2,h3,List.contains_nil,Bool.not_false,Bool.or_true,Bool.and_true,Bool.and_self]
theorem mayEnter:Try.prog.mayEnter=true:=by obtain ⟨r,h⟩:=behind;exact may_of h later reflects door
theorem stopsHeard:Try.prog.stopsHeard=true:=by kernel_rfl
theorem laidOut:laidOutB Try.prog=true:=by kernel_rfl
theorem mapsRowed:mapsRowed Try.prog=true:=by kernel_rfl
theorem stops:(Try.prog.stops==[])=true:=by kernel_rfl
theorem stopKnobs:(Try.prog.stopKnobs==[])=true:=by kernel_rfl
end Go.Proofs.Ytcgefpklljclgaa.Head

-- PRINTED WORDS (module Derived/Print/Sized.lean): go-gate-2's, for the rows of laws over slices: an AI agent of Go's test side, Tue Nov 17 2026; no person has read it. Lean checks it.
namespace Go.Proofs.YtcgefpklljclgaaW.PrintWords
open Go.ChangeShapes Go.WideShapes
theorem sized_ints {H:Type} {enc:TypeId×Value→H} {P:Program} {W:World} {base:Nat} {spare:Nat→Bool} {held:Bool} {t e:TypeId} {k:IntKind} {a:Option Addr} {len cap:Nat} {d:DataW H} {ps:List MemPlace} {ts:List TypeId} {ds:List (DataW H)} {j:Nat}
    (hsz:(DataW.weightsEach P ts ds).all (· ≤reachBytes)=true) (ht:ts[j]?=some t) (hd:ds[j]?=some d) (hu:P.underlying t=some (.slice e)) (he:P.underlying e=some (.int k)) (hc:P.cellsOf e=1) {B:Nat} (hB:P.bytesOf e=B)
    (h:DataW.Trod enc P W base spare held t (.slice a len cap) d ps):len*B≤140737488351232:=by
  obtain ⟨fuel,hf⟩:=h
  rcases open_ints hu he hc hf with ⟨hcs,_⟩|⟨x,l,c,zs,hcs,_,hl,_,hz,hx,_,_⟩
  · simp [Value.cells] at hcs
    obtain ⟨rfl,rfl,rfl⟩:=hcs
    simp
  · simp [Value.cells] at hcs
    obtain ⟨rfl,rfl,rfl⟩:=hcs
    obtain ⟨hx,_⟩:=Prod.mk.inj hx
    subst hx
    have z:=sized_slice hsz ht hd hu
    rw [hB] at z
    have hl2:len≤zs.length:=by
      rw [hz]
      split
      · exact hl
      · exact Nat.le_refl _
    have h1:(lits (H:=H) k (zs.take len)).length+(lits (H:=H) k (zs.drop len)).length=zs.length:=by
      simp [lits]
      omega
    rw [h1] at z
    exact Nat.le_trans (Nat.mul_le_mul_right _ hl2) z
end Go.Proofs.YtcgefpklljclgaaW.PrintWords
