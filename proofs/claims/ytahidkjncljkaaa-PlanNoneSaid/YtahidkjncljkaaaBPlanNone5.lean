/- PlanNone: a part -/
import Derived.WalkSpells
import Derived.Laws.Cover1
import Derived.Shelf.Abstract
import Derived.Lib.SliceRun
import Derived.Lib.JoinLaws
import Derived.Lib.AppendZerosOnto
import Derived.Lib.Overlaps
import Derived.Laws.Externs
import Derived.Laws.IdiomCopy
import Derived.Laws.NewBlocks
import Derived.Deep.RegionLaw
import Derived.Shelf.RegionOpenPlain
import Derived.Test.YtahidkjncljkaaaRows
import Derived.WalkKit
import Derived.ProofKit
import Derived.OpenShut
import Derived.JoinedOf
import Derived.SizedLaws
import Derived.ChangeSlices
import Derived.Test.YtahidkjncljkaaaBPlanNone0
import Derived.Test.YtahidkjncljkaaaBPlanNone1
import Derived.Test.YtahidkjncljkaaaBPlanNone3
import Derived.Test.YtahidkjncljkaaaBPlanNone4
set_option linter.unusedVariables false
set_option linter.unusedSimpArgs false
namespace Go.Proofs.Ytahidkjncljkaaa.Print
open Go.RowKit Go.Proofs.YtahidkjncljkaaaW.PrintWords Go.Proofs.YtahidkjncljkaaaW.PrintLast Go.Proofs.YtahidkjncljkaaaW.PrintMore
attribute [local go_sem] max2_int min2_int max_two min_two max_three min_three max_four min_four

attribute [local go_sem high] eqA76
mutual
noncomputable def law18_PlanNone.j0:Nat→List (S84)→List (S79)→List (S76)→Bool→Option (Bool)
 |0,_,_,_,_=>none
 |k+1,x5,x6,x7,x37=>if x37=true then (none) else (law18_PlanNone.l0 k x5 x6 x7 0)
noncomputable def law18_PlanNone.l0:Nat→List (S84)→List (S79)→List (S76)→Int→Option (Bool)
 |0,_,_,_,_=>none
 |k+1,x5,x6,x7,x9=>if x9<(x7.length:Int) then (law18_PlanNone.l1 k x5 x6 x7 x9 0 0) else ((law18_awake.f).bind fun t13=>(some t13))
noncomputable def law18_PlanNone.l1:Nat→List (S84)→List (S79)→List (S76)→Int→Int→Int→Option (Bool)
 |0,_,_,_,_,_,_=>none
 |k+1,x5,x6,x7,x9,x10,x11=>if x11<(x5.length:Int) then (if 0≤x11 then (if 0≤x9 then (if x9<(x7.length:Int) then (if ((rd_T84 x5 x11).f0).toList=((rd_T76 x7 x9).f1).toList then (law18_PlanNone.l1 k x5 x6 x7 x9 (wrap64 (x10+1)) (wrap64 (x11+1))) else (law18_PlanNone.l1 k x5 x6 x7 x9 x10 (wrap64 (x11+1)))) else (none)) else (none)) else (none)) else (if 0≤x9 then (if x9<(x7.length:Int) then (if (!(((rd_T76 x7 x9).f0)==4)||(!((((rd_T76 x7 x9).f2).toList)==([]:List UInt8))||((!(((rd_T76 x7 x9).f3.f0)==0)||(!(((rd_T76 x7 x9).f3.f1)==0)||(!(((rd_T76 x7 x9).f3.f2)==0)))))))=true then (none) else (if x10=1 then (if x9>0 then (if 0≤(wrap64 (x9 - 1)) then (if (wrap64 (x9 - 1))<(x7.length:Int) then ((r10_Up.f k x6 ((rd_T76 x7 (wrap64 (x9 - 1))).f1)).bind fun t19=>((r10_Up.f k x6 ((rd_T76 x7 x9).f1)).bind fun t23=>(if (t19.length:Int)<(t23.length:Int) then (none) else (law18_PlanNone.l0 k x5 x6 x7 (wrap64 (x9+1)))))) else (none)) else (none)) else (law18_PlanNone.l0 k x5 x6 x7 (wrap64 (x9+1)))) else (none))) else (none)) else (none))
end
noncomputable def law18_PlanNone.f (k:Nat) (l0:List Int) (a1:Int):Option (Bool):=if (l0.length:Int)>60 then ((law18_awake.f).bind fun t1=>(some t1)) else ((law18_Live.f k l0 a1).bind fun bt2=>((plan_Steps.f ([]:List (S39)) bt2.1 bt2.2).bind fun bt8=>((law1_Num.f bt8.2).bind fun t12=>(if t12=0 then (law18_PlanNone.j0 k bt2.1 bt2.2 bt8.1 ((bt8.1.length:Int) !=(bt2.1.length:Int))) else (none)))))
theorem law18_PlanNone.mono_l: ∀k,(∀y0 y1 y2 y3,LeO (law18_PlanNone.j0 k y0 y1 y2 y3) (law18_PlanNone.j0 (k+1) y0 y1 y2 y3))∧(∀y0 y1 y2 y3,LeO (law18_PlanNone.l0 k y0 y1 y2 y3) (law18_PlanNone.l0 (k+1) y0 y1 y2 y3))∧(∀y0 y1 y2 y3 y4 y5,LeO (law18_PlanNone.l1 k y0 y1 y2 y3 y4 y5) (law18_PlanNone.l1 (k+1) y0 y1 y2 y3 y4 y5))
 |0=>⟨fun _ _ _ _ r h=>by simp [law18_PlanNone.j0] at h,fun _ _ _ _ r h=>by simp [law18_PlanNone.l0] at h,fun _ _ _ _ _ _ r h=>by simp [law18_PlanNone.l1] at h⟩
 |k+1=>by
  obtain ⟨ih0,ih1,ih2⟩:=law18_PlanNone.mono_l k;refine ⟨?_, ?_, ?_⟩<;>(intros;first|unfold law18_PlanNone.j0|unfold law18_PlanNone.l0|unfold law18_PlanNone.l1)<;>repeat' with_reducible first|apply ih0|apply ih1|apply ih2|apply law18_Live.mono|apply r10_Up.mono|apply LeO.refl|apply LeO.none|apply LeO.ite|refine LeO.bind ?_ fun _=> ?_
theorem law18_PlanNone.mono: ∀a0 a1 k,LeO (law18_PlanNone.f k a0 a1) (law18_PlanNone.f (k+1) a0 a1):=by
 intro a0 a1 k;obtain ⟨ih0,ih1,ih2⟩:=law18_PlanNone.mono_l k;unfold law18_PlanNone.f
 repeat' with_reducible first|apply ih0|apply ih1|apply ih2|apply law18_Live.mono|apply r10_Up.mono|apply LeO.refl|apply LeO.none|apply LeO.ite|refine LeO.bind ?_ fun _=> ?_
noncomputable def law18_PlanNone.T14:Bool×List (List Nat×List Nat):=(true,[([],[]),([],[]),([0,1],[0,1]),([2],[2]),([3],[3]),([],[]),([],[]),([5,6],[5,6]),([7],[7]),([8],[8]),([4,9],[4,9])])
noncomputable def law18_PlanNone.B14:List Nat:=[0,0,3,7,15,0,0,96,224,480,1023]
theorem law18_PlanNone.tab14:rtab .any (opsOf Try.f15 14)=law18_PlanNone.T14:=by kernel_rfl
theorem law18_PlanNone.bits14:waitsOk law18_PlanNone.T14.2 law18_PlanNone.B14=true:=by kernel_rfl
noncomputable def law18_PlanNone.T16:Bool×List (List Nat×List Nat):=(true,[([],[]),([],[]),([0,1],[0,1]),([2],[2]),([],[]),([],[]),([4,5],[4,5]),([6],[6]),([7],[7]),([8],[8]),([3,9],[3,9]),([10],[10]),([11],[11]),([12,11],[11,12]),([11,13],[11,13]),([14,11],[14]),([15],[15]),([16,15],[15,16]),([17,15,15],[15,17]),([18],[18]),([18],[18]),([18],[18]),([21,18],[18,21]),([20,22,18],[18,20,22]),([23,18],[18,23]),([24,18],[18,24]),([19,25,18,18],[18,19,25]),([26,18],[18,26]),([18],[18]),([18],[18]),([18],[18]),([29,30,18],[18,29,30]),([31,18],[18,31]),([32,18],[18,32]),([28,33,26,18],[18,28,33]),([34,18],[18,34]),([27,35,18],[18,27,35]),([18,36,15],[15,18,36]),([15,37],[15,37])])
noncomputable def law18_PlanNone.B16:List Nat:=[0,0,3,7,0,0,48,112,240,496,1023,2047,4095,8191,16383,32767,65535,131071,262143,524287,524287,524287,2621439,7864319,16252927,33030143,67108863,134217727,524287,524287,524287,1611137023,3758620671,8053587967,17045651455,34225520639,68719476735,137438953471,274877906943]
theorem law18_PlanNone.tab16:rtab .any (opsOf Try.f15 16)=law18_PlanNone.T16:=by kernel_rfl
theorem law18_PlanNone.bits16:waitsOk law18_PlanNone.T16.2 law18_PlanNone.B16=true:=by kernel_rfl
set_option maxHeartbeats 8000000 in
set_option maxRecDepth 100000 in
theorem law18_PlanNone.calls (k:Nat) (A0:Option Addr) (c0:Nat) (l0:List Int) (a1:Int) (r:Bool) (w:World) (hr0:Kd.C (Kd.int .u8) w A0 l0.length l0) (hc0:l0.length≤c0) (h:law18_PlanNone.f k l0 a1=some r):
  Calls Try.prog 15 #[.slice A0 l0.length c0, .int .u8 a1] w fun e w'=>e= .returned (.bool r)∧Below w.heap.size w w':=by
 have hu76:=Try.underlying76;have HR0:=Aside0.mk hr0;have HC0:=Aside0.mk hc0;clear hr0 hc0;have HB:=am_ (Below.refl w.heap.size w);have H:(if (l0.length:Int)>60 then ((law18_awake.f).bind fun t1=>(some t1)) else ((law18_Live.f k l0 a1).bind fun bt2=>((plan_Steps.f ([]:List (S39)) bt2.1 bt2.2).bind fun bt8=>((law1_Num.f bt8.2).bind fun t12=>(if t12=0 then (law18_PlanNone.j0 k bt2.1 bt2.2 bt8.1 ((bt8.1.length:Int) !=(bt2.1.length:Int))) else (none))))))=some r:=h;clear h;by_cases c3:(l0.length:Int)>60
 ·rw [if_pos c3] at H;have c3b0:decide (60<(l0.length:Int))=true:=decide_eq_true c3;have c3b1:decide (60<l0.length)=true:=decide_eq_true (by omega);clear c3;replace H:=zbd_ H;obtain ⟨t1,A4,H⟩:=H;try dsimp only at H
  obtain rfl:=Option.some.inj H;go_enter Try.func15,Try.ntmps15;go_wp2_with (first|((with_reducible refine gate_callee (f:=47) rfl ?_);refine gl_ (some 15) Try.func47 #[] ?_;(with_reducible refine (law18_awake.calls t1 _ A4.out).mono ?_);rintro e w5 ⟨rfl,hb⟩;refine ⟨_,rfl, ?_⟩;replace HB:=am_ (below_step (zl0_ HB) hb);(try clear hb)))
  go_ret
  exact ⟨by first|rfl|(simp [errW_none,errW_some]<;>rfl)|(simp [*,errW_none,errW_some]<;>rfl),zl0_ HB⟩
 rw [if_neg c3] at H;have c3b0:decide (60<(l0.length:Int))=false:=decide_eq_false c3;have c3b1:decide (60<l0.length)=false:=decide_eq_false (by omega);clear c3;replace H:=zbd_ H;obtain ⟨⟨t2,t3⟩,A6,H⟩:=H;try dsimp only at H
 replace H:=zbd_ H;obtain ⟨⟨t8,t9⟩,A7,H⟩:=H;try dsimp only at H
 have HC8:=Aside0.mk H;clear H;go_enter Try.func15,Try.ntmps15
 go_upto_region 5 with (first|((with_reducible refine gate_callee (f:=50) rfl ?_);refine gl_ (some 19) Try.func50 #[.slice A0 l0.length c0, .int .u8 a1] ?_;(with_reducible refine (law18_Live.calls k _ _ l0 a1 t2 t3 _ ?side1 ?side2 A6.out).mono ?_);(case side1=>repeat (first|exact HR0.out|(with_reducible refine Kd.C_alloc ?_ _)|(with_reducible refine Kd.C_drewN ?_ _)|(with_reducible refine Kd.C_drew ?_)));(case side2=>exact HC0.out);rintro e w9 ⟨v4,v6,rfl,ho0,ho1,hb⟩;refine ⟨_,rfl, ?_⟩;have HO5:=am_ (Kd.R_lower ho0 (below_size (zl0_ HB)));have HO7:=am_ (Kd.R_lower ho1 (below_size (zl0_ HB)));replace HB:=am_ (below_step (zl0_ HB) hb);(try clear hb ho0 ho1);obtain ⟨Ao10,co10,eo10⟩:=Kd.R_slice HO5.out;subst eo10;obtain ⟨Ao11,co11,eo11⟩:=Kd.R_slice HO7.out;subst eo11)|((with_reducible refine gate_callee (f:=48) rfl ?_);refine gl_ (some 25) Try.func48 #[.slice none 0 0, .slice Ao10 t2.length co10, .slice Ao11 t3.length co11] ?_;(refine (plan_Steps.calls _ _ ([]:List (S39)) _ _ t2 _ _ t3 t8 t9 _ ?side1 ?side2 ?side3 ?side4 ?side5 ?side6 A7.out).mono ?_);(case side1=>exact Kd.C_nil _ _);(case side2=>exact Nat.le_refl _);(case side3=>exact zc_ (Kd.R_reads' HO5.out).2.2);(case side4=>exact (Kd.R_reads' HO5.out).2.1);(case side5=>exact zc_ (Kd.R_reads' HO7.out).2.2);(case side6=>exact (Kd.R_reads' HO7.out).2.1);rintro e w12 ⟨v10,rfl,ho0,hb⟩;refine ⟨_,rfl, ?_⟩;replace HO5:=am_ (Kd.R_below (zr_ HO5) hb);replace HO7:=am_ (Kd.R_below (zr_ HO7) hb);have HO11:=am_ (Kd.R_lower ho0 (below_size (zl0_ HB)));replace HB:=am_ (below_step (zl0_ HB) hb);(try clear hb ho0)))
 (try simp only [Act.put,List.setIfInBounds_toArray,List.set_cons_zero,List.set_cons_succ]);go_cut [37] (fun v37 wc=> ∃(kq:Nat) (x37_7:Bool),v37= .bool x37_7∧Aside0 (law18_PlanNone.j0 kq t2 t3 t8 x37_7=some r)∧Aside0 (kq≤k)∧Aside0 (Kd.R k84 84 wc w.heap.size (fun _=>True) (.slice Ao10 t2.length co10) t2)∧Aside0 (Kd.R k79 79 wc w.heap.size (fun _=>True) (.slice Ao11 t3.length co11) t3)∧Aside0 (Kd.R k76 76 wc w.heap.size (fun _=>True) v10 t8)∧Aside0 (Below w.heap.size w wc))
 case first=>
  have H:=HC8.out;clear HC8;replace H:=zbd_ H;obtain ⟨t12,A13,H⟩:=H;try dsimp only at H
  by_cases c14:t12=0;rotate_left
  ·rw [if_neg c14] at H;cases H
  rw [if_pos c14] at H;have c14b0:=beq_iff_eq.mpr c14;have c14b1:=bne_eq_false_iff_eq.mpr c14;clear c14;(first|rw [c14b0]|(simp only [i64_w,i32_w];rw [c14b0])|skip);have H':=Aside0.mk H;clear H;go_wp2_with (first|((with_reducible refine gate_callee (f:=25) rfl ?_);refine gl_ (some 29) Try.func25 #[.int .i64 t9] ?_;(with_reducible refine (law1_Num.calls t9 t12 _ A13.out).mono ?_);rintro e w' ⟨rfl,⟨nd,rfl⟩⟩;refine ⟨_,rfl, ?_⟩;obtain ⟨Ao15,co15,eo15⟩:=Kd.R_slice HO11.out;subst eo15))
  go_meet
  case rel=>exact ⟨_,(((t8.length:Int) !=(t2.length:Int))),rf_,H',⟨by first|omega|exact Nat.le_refl _⟩,am_ (zr_ HO5),am_ (zr_ HO7),am_ (zr_ HO11),⟨zl0_ HB⟩⟩
 case rest=>
  clear HC8;obtain ⟨kq,x37_7,rfl,HA,HJ7,HO_5,HO_6,HO_7,HB⟩:=hcut
  cases kq with
  |zero=>exact absurd HA.out (by simp [law18_PlanNone.j0])
  |succ kj7=>
   have H:=HA.out;clear HA;simp only [law18_PlanNone.j0] at H;by_cases c16:x37_7=true
   ·subst c16;have H1:(none)=some r:=by rw [if_pos rfl] at H;exact H
    cases H1
   replace c16:=Bool.eq_false_iff.mpr c16;subst c16;rw [if_neg (show¬(false=true) by decide)] at H;have H':=Aside0.mk H;clear H;go_wp2
   go_loopg [9] kj7 (fun kq v9 w'=> ∃(x9_2:Int),v9= .int .i64 x9_2∧Aside0 (law18_PlanNone.l0 kq t2 t3 t8 x9_2=some r)∧Aside0 (kq≤kj7)∧Aside0 (Kd.R k84 84 w' w.heap.size (fun _=>True) (.slice Ao10 t2.length co10) t2)∧Aside0 (Kd.R k79 79 w' w.heap.size (fun _=>True) (.slice Ao11 t3.length co11) t3)∧Aside0 (Kd.R k76 76 w' w.heap.size (fun _=>True) v10 t8)∧Aside0 (Below w.heap.size w w'))
   case atStart=>exact ⟨(0),rf_,H',⟨Nat.le_refl _⟩,am_ (zr_ HO_5),am_ (zr_ HO_6),am_ (zr_ HO_7),⟨zl0_ HB⟩⟩
   case round=>
    clear H';obtain ⟨x9_2,rfl,HA,HK2,HO_5,HO_6,HO_7,HB⟩:=hrel
    cases gk with
    |zero=>exact absurd HA.out (by simp [law18_PlanNone.l0])
    |succ k2=>
     have H:=HA.out;clear HA;simp only [law18_PlanNone.l0] at H;by_cases c17:x9_2<(t8.length:Int);rotate_left
     ·rw [if_neg c17] at H;have c17b0:=decide_eq_false c17;clear c17;replace H:=zbd_ H;obtain ⟨t13,A50,H⟩:=H;try dsimp only at H
      obtain rfl:=Option.some.inj H;obtain ⟨Ao51,co51,eo51⟩:=Kd.R_slice HO_7.out;subst eo51;go_wp2_with (first|((with_reducible refine gate_callee (f:=47) rfl ?_);refine gl_ (some 102) Try.func47 #[] ?_;(with_reducible refine (law18_awake.calls t13 _ A50.out).mono ?_);rintro e w52 ⟨rfl,hb⟩;refine ⟨_,rfl, ?_⟩;replace HO_5:=am_ (Kd.R_below (zr_ HO_5) hb);replace HO_6:=am_ (Kd.R_below (zr_ HO_6) hb);replace HO_7:=am_ (Kd.R_below (zr_ HO_7) hb);replace HB:=am_ (below_step (zl0_ HB) hb);(try clear hb)))
      go_ret
      exact ⟨by first|rfl|(simp [errW_none,errW_some]<;>rfl)|(simp [*,errW_none,errW_some]<;>rfl),zl0_ HB⟩

     rw [if_pos c17] at H;have c17b0:=decide_eq_true c17;clear c17;have H':=Aside0.mk H;clear H;obtain ⟨Ao18,co18,eo18⟩:=Kd.R_slice HO_7.out;subst eo18;go_wp2
     go_loopg [10,11] k2 (fun kq v10 v11 w'=> ∃(x10_3:Int) (x11_3:Int),v10= .int .i64 x10_3∧v11= .int .i64 x11_3∧Aside0 (law18_PlanNone.l1 kq t2 t3 t8 x9_2 x10_3 x11_3=some r)∧Aside0 (kq≤k2)∧Aside0 (Kd.R k84 84 w' w.heap.size (fun _=>True) (.slice Ao10 t2.length co10) t2)∧Aside0 (Kd.R k79 79 w' w.heap.size (fun _=>True) (.slice Ao11 t3.length co11) t3)∧Aside0 (Kd.R k76 76 w' w.heap.size (fun _=>True) (.slice Ao18 t8.length co18) t8)∧Aside0 (Below w.heap.size w w'))
     case atStart=>exact ⟨(0),(0),rf_,rf_,H',⟨Nat.le_refl _⟩,am_ (zr_ HO_5),am_ (zr_ HO_6),am_ (zr_ HO_7),⟨zl0_ HB⟩⟩
     case round=>
      clear H';obtain ⟨x10_3,x11_3,rfl,rfl,HA,HK3,HO_5,HO_6,HO_7,HB⟩:=hrel
      cases gk with
      |zero=>exact absurd HA.out (by simp [law18_PlanNone.l1])
      |succ k3=>
       have H:=HA.out;clear HA;simp only [law18_PlanNone.l1] at H;by_cases c19:x11_3<(t2.length:Int)
       ·rw [if_pos c19] at H;have c19b0:=decide_eq_true c19;clear c19;replace H:=zif_ H;obtain ⟨c20,H⟩:=H;have c20b0:=decide_eq_true c20;clear c20;replace H:=zif_ H;obtain ⟨c21,H⟩:=H;have c21b0:=decide_eq_true c21;clear c21;replace H:=zif_ H;obtain ⟨c22,H⟩:=H;have c22b0:=decide_eq_true c22;clear c22;by_cases c23:((rd_T84 t2 x11_3).f0).toList=((rd_T76 t8 x9_2).f1).toList
        ·rw [if_pos c23] at H;have c23b0:=beq_iff_eq.mpr c23;have c23b1:=bne_eq_false_iff_eq.mpr c23;clear c23;have H':=Aside0.mk H;clear H;try go_wp2
         replace HO_5:=am_ (Kd.R_drew HO_5.out);replace HO_6:=am_ (Kd.R_drew HO_6.out);replace HO_7:=am_ (Kd.R_drew HO_7.out);replace HB:=am_ (below_drew1 HB.out);obtain ⟨p14,q14,ad14,e14,hx14_0,hx14_1,hx14_2,hx14_3,hx14_4,hx14_5⟩:=zat_ (at_T84 (Kd.R_reads' HO_5.out).2.2 x11_3);cases e14;obtain ⟨p15,q15,ad15,e15,hx15_0,hx15_1,hx15_2,hx15_3,hx15_4,hx15_5⟩:=zat_ (at_T76 (Kd.R_reads' HO_7.out).2.2 x9_2);cases e15
         refine start_ (n:=11) (S:=fun w'=>w'.cell? (ad14.add ((x11_3).toNat*6))=some (.string ((rd_T84 t2 x11_3).f0))∧w'.cell? ⟨(ad14.add ((x11_3).toNat*6)).block,(ad14.add ((x11_3).toNat*6)).off+1,none⟩=some (.string ((rd_T84 t2 x11_3).f1))∧w'.cell? ⟨(ad14.add ((x11_3).toNat*6)).block,(ad14.add ((x11_3).toNat*6)).off+2,none⟩=some (.int .i64 ((rd_T84 t2 x11_3).f2.f0))∧w'.cell? ⟨(ad14.add ((x11_3).toNat*6)).block,(ad14.add ((x11_3).toNat*6)).off+3,none⟩=some (.int .i64 ((rd_T84 t2 x11_3).f2.f1))∧w'.cell? ⟨(ad14.add ((x11_3).toNat*6)).block,(ad14.add ((x11_3).toNat*6)).off+4,none⟩=some (.int .i64 ((rd_T84 t2 x11_3).f2.f2))∧w'.cell? ⟨(ad14.add ((x11_3).toNat*6)).block,(ad14.add ((x11_3).toNat*6)).off+5,none⟩=some (.int .i64 ((rd_T84 t2 x11_3).f3))∧w'.cell? (ad15.add ((x9_2).toNat*6))=some (.int .i64 ((rd_T76 t8 x9_2).f0))∧w'.cell? ⟨(ad15.add ((x9_2).toNat*6)).block,(ad15.add ((x9_2).toNat*6)).off+1,none⟩=some (.string ((rd_T76 t8 x9_2).f1))∧w'.cell? ⟨(ad15.add ((x9_2).toNat*6)).block,(ad15.add ((x9_2).toNat*6)).off+2,none⟩=some (.string ((rd_T76 t8 x9_2).f2))∧w'.cell? ⟨(ad15.add ((x9_2).toNat*6)).block,(ad15.add ((x9_2).toNat*6)).off+3,none⟩=some (.int .i64 ((rd_T76 t8 x9_2).f3.f0))∧w'.cell? ⟨(ad15.add ((x9_2).toNat*6)).block,(ad15.add ((x9_2).toNat*6)).off+4,none⟩=some (.int .i64 ((rd_T76 t8 x9_2).f3.f1))∧w'.cell? ⟨(ad15.add ((x9_2).toNat*6)).block,(ad15.add ((x9_2).toNat*6)).off+5,none⟩=some (.int .i64 ((rd_T76 t8 x9_2).f3.f2))) (ds:=[]) (bt_ 11 0) (by kernel_rfl) rfl rfl ⟨hx14_0,hx14_1,hx14_2,hx14_3,hx14_4,hx14_5,hx15_0,hx15_1,hx15_2,hx15_3,hx15_4,hx15_5⟩ (fun hHeld=> ?_);refine with_tabW law18_PlanNone.tab14 law18_PlanNone.bits14 (fun HT_ HW_=> ?_)
         generalize wr.drew=w24 at HO_5 HO_6 HO_7 HB hx14_0 hx14_1 hx14_2 hx14_3 hx14_4 hx14_5 hx15_0 hx15_1 hx15_2 hx15_3 hx15_4 hx15_5 hHeld ⊢;refine pu_ (i:=0) (N:=some 50) (bt_ 11 1) HT_ ?_;refine pu_ (i:=1) (N:=some 51) (bt_ 11 3) HT_ ?_;refine pu_ (i:=2) (N:=some 52) (bt_ 11 7) HT_ ?_;refine pu_ (i:=3) (N:=some 53) (bt_ 11 15) HT_ ?_;refine pu_ (i:=5) (N:=some 55) (bt_ 11 47) HT_ ?_;refine pu_ (i:=6) (N:=some 56) (bt_ 11 111) HT_ ?_;refine pu_ (i:=7) (N:=some 57) (bt_ 11 239) HT_ ?_;refine pu_ (i:=8) (N:=some 58) (bt_ 11 495) HT_ ?_;refine tk_ (i:=4) (N:=some 54) (bt_ 11 511) HT_ HW_ hHeld ?_;refine tk_ (i:=9) (N:=some 59) (bt_ 11 1023) HT_ HW_ hHeld ?_;refine pu_ (i:=10) (N:=some 60) (bt_ 11 2047) HT_ ?_;refine done_ (done_of HT_.out (by kernel_rfl)) ?_;try go_wp2
         go_roundg k3
         case measure=>have:=HJ7.out;have:=HK2.out;have:=HK3.out;omega
         case rel=>exact ⟨(wrap64 (x10_3+1)),(wrap64 (x11_3+1)),rf_,rf_,H',⟨by have:=HJ7.out;have:=HK2.out;have:=HK3.out;omega⟩,am_ (zr_ HO_5),am_ (zr_ HO_6),am_ (zr_ HO_7),⟨zl0_ HB⟩⟩
        rw [if_neg c23] at H;have c23b0:=beq_eq_false_iff_ne.mpr c23;have c23b1:=bne_iff_ne.mpr c23;have H':=Aside0.mk H;clear H;try go_wp2
        replace HO_5:=am_ (Kd.R_drew HO_5.out);replace HO_6:=am_ (Kd.R_drew HO_6.out);replace HO_7:=am_ (Kd.R_drew HO_7.out);replace HB:=am_ (below_drew1 HB.out);obtain ⟨p14,q14,ad14,e14,hx14_0,hx14_1,hx14_2,hx14_3,hx14_4,hx14_5⟩:=zat_ (at_T84 (Kd.R_reads' HO_5.out).2.2 x11_3);cases e14;obtain ⟨p15,q15,ad15,e15,hx15_0,hx15_1,hx15_2,hx15_3,hx15_4,hx15_5⟩:=zat_ (at_T76 (Kd.R_reads' HO_7.out).2.2 x9_2);cases e15
        refine start_ (n:=11) (S:=fun w'=>w'.cell? (ad14.add ((x11_3).toNat*6))=some (.string ((rd_T84 t2 x11_3).f0))∧w'.cell? ⟨(ad14.add ((x11_3).toNat*6)).block,(ad14.add ((x11_3).toNat*6)).off+1,none⟩=some (.string ((rd_T84 t2 x11_3).f1))∧w'.cell? ⟨(ad14.add ((x11_3).toNat*6)).block,(ad14.add ((x11_3).toNat*6)).off+2,none⟩=some (.int .i64 ((rd_T84 t2 x11_3).f2.f0))∧w'.cell? ⟨(ad14.add ((x11_3).toNat*6)).block,(ad14.add ((x11_3).toNat*6)).off+3,none⟩=some (.int .i64 ((rd_T84 t2 x11_3).f2.f1))∧w'.cell? ⟨(ad14.add ((x11_3).toNat*6)).block,(ad14.add ((x11_3).toNat*6)).off+4,none⟩=some (.int .i64 ((rd_T84 t2 x11_3).f2.f2))∧w'.cell? ⟨(ad14.add ((x11_3).toNat*6)).block,(ad14.add ((x11_3).toNat*6)).off+5,none⟩=some (.int .i64 ((rd_T84 t2 x11_3).f3))∧w'.cell? (ad15.add ((x9_2).toNat*6))=some (.int .i64 ((rd_T76 t8 x9_2).f0))∧w'.cell? ⟨(ad15.add ((x9_2).toNat*6)).block,(ad15.add ((x9_2).toNat*6)).off+1,none⟩=some (.string ((rd_T76 t8 x9_2).f1))∧w'.cell? ⟨(ad15.add ((x9_2).toNat*6)).block,(ad15.add ((x9_2).toNat*6)).off+2,none⟩=some (.string ((rd_T76 t8 x9_2).f2))∧w'.cell? ⟨(ad15.add ((x9_2).toNat*6)).block,(ad15.add ((x9_2).toNat*6)).off+3,none⟩=some (.int .i64 ((rd_T76 t8 x9_2).f3.f0))∧w'.cell? ⟨(ad15.add ((x9_2).toNat*6)).block,(ad15.add ((x9_2).toNat*6)).off+4,none⟩=some (.int .i64 ((rd_T76 t8 x9_2).f3.f1))∧w'.cell? ⟨(ad15.add ((x9_2).toNat*6)).block,(ad15.add ((x9_2).toNat*6)).off+5,none⟩=some (.int .i64 ((rd_T76 t8 x9_2).f3.f2))) (ds:=[]) (bt_ 11 0) (by kernel_rfl) rfl rfl ⟨hx14_0,hx14_1,hx14_2,hx14_3,hx14_4,hx14_5,hx15_0,hx15_1,hx15_2,hx15_3,hx15_4,hx15_5⟩ (fun hHeld=> ?_);refine with_tabW law18_PlanNone.tab14 law18_PlanNone.bits14 (fun HT_ HW_=> ?_)
        generalize wr.drew=w25 at HO_5 HO_6 HO_7 HB hx14_0 hx14_1 hx14_2 hx14_3 hx14_4 hx14_5 hx15_0 hx15_1 hx15_2 hx15_3 hx15_4 hx15_5 hHeld ⊢;refine pu_ (i:=0) (N:=some 50) (bt_ 11 1) HT_ ?_;refine pu_ (i:=1) (N:=some 51) (bt_ 11 3) HT_ ?_;refine pu_ (i:=2) (N:=some 52) (bt_ 11 7) HT_ ?_;refine pu_ (i:=3) (N:=some 53) (bt_ 11 15) HT_ ?_;refine pu_ (i:=5) (N:=some 55) (bt_ 11 47) HT_ ?_;refine pu_ (i:=6) (N:=some 56) (bt_ 11 111) HT_ ?_;refine pu_ (i:=7) (N:=some 57) (bt_ 11 239) HT_ ?_;refine pu_ (i:=8) (N:=some 58) (bt_ 11 495) HT_ ?_;refine tk_ (i:=4) (N:=some 54) (bt_ 11 511) HT_ HW_ hHeld ?_;refine tk_ (i:=9) (N:=some 59) (bt_ 11 1023) HT_ HW_ hHeld ?_;refine pu_ (i:=10) (N:=some 60) (bt_ 11 2047) HT_ ?_;refine done_ (done_of HT_.out (by kernel_rfl)) ?_;try go_wp2
        go_roundg k3
        case measure=>have:=HJ7.out;have:=HK2.out;have:=HK3.out;omega
        case rel=>exact ⟨(x10_3),(wrap64 (x11_3+1)),rf_,rf_,H',⟨by have:=HJ7.out;have:=HK2.out;have:=HK3.out;omega⟩,am_ (zr_ HO_5),am_ (zr_ HO_6),am_ (zr_ HO_7),⟨zl0_ HB⟩⟩
       rw [if_neg c19] at H;have c19b0:=decide_eq_false c19;clear c19;replace H:=zif_ H;obtain ⟨c26,H⟩:=H;have c26b0:=decide_eq_true c26;clear c26;replace H:=zif_ H;obtain ⟨c27,H⟩:=H;have c27b0:=decide_eq_true c27;clear c27;by_cases c28:(!(((rd_T76 t8 x9_2).f0)==4)||(!((((rd_T76 t8 x9_2).f2).toList)==([]:List UInt8))||((!(((rd_T76 t8 x9_2).f3.f0)==0)||(!(((rd_T76 t8 x9_2).f3.f1)==0)||(!(((rd_T76 t8 x9_2).f3.f2)==0)))))))=true
       ·rw [if_pos c28] at H;exact absurd H (by simp)
       rw [if_neg c28] at H;have c28b0:(!(((rd_T76 t8 x9_2).f0)==4)||(!((((rd_T76 t8 x9_2).f2).toList)==([]:List UInt8))||((!(((rd_T76 t8 x9_2).f3.f0)==0)||(!(((rd_T76 t8 x9_2).f3.f1)==0)||(!(((rd_T76 t8 x9_2).f3.f2)==0)))))))=false:=by simpa using c28
       have c28b9:(!(((rd_T76 t8 x9_2).f0)==4)||(!((((rd_T76 t8 x9_2).f2).toList).isEmpty)||((!(((rd_T76 t8 x9_2).f3.f0)==0)||(!(((rd_T76 t8 x9_2).f3.f1)==0)||(!(((rd_T76 t8 x9_2).f3.f2)==0)))))))=false:=by
         have e_: ∀l:List UInt8,l.isEmpty=(l==([]:List UInt8)):=fun l=>by cases l<;>rfl
         rw [e_];exact c28b0
       clear c28;replace H:=zif_ H;obtain ⟨c30,H⟩:=H;have c30b0:=beq_iff_eq.mpr c30;have c30b1:=bne_eq_false_iff_eq.mpr c30;clear c30;by_cases c31:x9_2>0;rotate_left
       ·rw [if_neg c31] at H;have c31b0:decide (0<x9_2)=false:=decide_eq_false c31;clear c31;have H':=Aside0.mk H;clear H;try go_wp2
        replace HO_5:=am_ (Kd.R_drew HO_5.out);replace HO_6:=am_ (Kd.R_drew HO_6.out);replace HO_7:=am_ (Kd.R_drew HO_7.out);replace HB:=am_ (below_drew1 HB.out);obtain ⟨p16,q16,ad16,e16,hx16_0,hx16_1,hx16_2,hx16_3,hx16_4,hx16_5⟩:=zat_ (at_T76 (Kd.R_reads' HO_7.out).2.2 x9_2);cases e16;obtain ⟨p17,q17,ad17,e17,hx17_0,hx17_1,hx17_2,hx17_3,hx17_4,hx17_5⟩:=zat_ (at_T76 (Kd.R_reads' HO_7.out).2.2 x9_2);obtain rfl:ad16=ad17:=(by injection e17)
        refine start_ (n:=39) (S:=fun w'=>w'.cell? (ad16.add ((x9_2).toNat*6))=some (.int .i64 ((rd_T76 t8 x9_2).f0))∧w'.cell? ⟨(ad16.add ((x9_2).toNat*6)).block,(ad16.add ((x9_2).toNat*6)).off+1,none⟩=some (.string ((rd_T76 t8 x9_2).f1))∧w'.cell? ⟨(ad16.add ((x9_2).toNat*6)).block,(ad16.add ((x9_2).toNat*6)).off+2,none⟩=some (.string ((rd_T76 t8 x9_2).f2))∧w'.cell? ⟨(ad16.add ((x9_2).toNat*6)).block,(ad16.add ((x9_2).toNat*6)).off+3,none⟩=some (.int .i64 ((rd_T76 t8 x9_2).f3.f0))∧w'.cell? ⟨(ad16.add ((x9_2).toNat*6)).block,(ad16.add ((x9_2).toNat*6)).off+4,none⟩=some (.int .i64 ((rd_T76 t8 x9_2).f3.f1))∧w'.cell? ⟨(ad16.add ((x9_2).toNat*6)).block,(ad16.add ((x9_2).toNat*6)).off+5,none⟩=some (.int .i64 ((rd_T76 t8 x9_2).f3.f2))∧w'.cell? (ad16.add ((x9_2).toNat*6))=some (.int .i64 ((rd_T76 t8 x9_2).f0))∧w'.cell? ⟨(ad16.add ((x9_2).toNat*6)).block,(ad16.add ((x9_2).toNat*6)).off+1,none⟩=some (.string ((rd_T76 t8 x9_2).f1))∧w'.cell? ⟨(ad16.add ((x9_2).toNat*6)).block,(ad16.add ((x9_2).toNat*6)).off+2,none⟩=some (.string ((rd_T76 t8 x9_2).f2))∧w'.cell? ⟨(ad16.add ((x9_2).toNat*6)).block,(ad16.add ((x9_2).toNat*6)).off+3,none⟩=some (.int .i64 ((rd_T76 t8 x9_2).f3.f0))∧w'.cell? ⟨(ad16.add ((x9_2).toNat*6)).block,(ad16.add ((x9_2).toNat*6)).off+4,none⟩=some (.int .i64 ((rd_T76 t8 x9_2).f3.f1))∧w'.cell? ⟨(ad16.add ((x9_2).toNat*6)).block,(ad16.add ((x9_2).toNat*6)).off+5,none⟩=some (.int .i64 ((rd_T76 t8 x9_2).f3.f2))) (ds:=[]) (bt_ 39 0) (by kernel_rfl) rfl rfl ⟨hx16_0,hx16_1,hx16_2,hx16_3,hx16_4,hx16_5,hx17_0,hx17_1,hx17_2,hx17_3,hx17_4,hx17_5⟩ (fun hHeld=> ?_);refine with_tabW law18_PlanNone.tab16 law18_PlanNone.bits16 (fun HT_ HW_=> ?_)
        generalize wr.drew=w48 at HO_5 HO_6 HO_7 HB hx16_0 hx16_1 hx16_2 hx16_3 hx16_4 hx16_5 hx17_0 hx17_1 hx17_2 hx17_3 hx17_4 hx17_5 hHeld ⊢;refine pu_ (i:=0) (N:=some 63) (bt_ 39 1) HT_ ?_;refine pu_ (i:=1) (N:=some 64) (bt_ 39 3) HT_ ?_;refine pu_ (i:=2) (N:=some 65) (bt_ 39 7) HT_ ?_;refine pu_ (i:=4) (N:=some 67) (bt_ 39 23) HT_ ?_;refine pu_ (i:=5) (N:=some 68) (bt_ 39 55) HT_ ?_;refine pu_ (i:=6) (N:=some 69) (bt_ 39 119) HT_ ?_;refine pu_ (i:=7) (N:=some 70) (bt_ 39 247) HT_ ?_;refine tk_ (i:=3) (N:=some 66) (bt_ 39 255) HT_ HW_ hHeld ?_;refine tk_ (i:=8) (N:=some 71) (bt_ 39 511) HT_ HW_ hHeld ?_;refine pu_ (i:=9) (N:=some 72) (bt_ 39 1023) HT_ ?_;refine pu_ (i:=10) (N:=some 73) (bt_ 39 2047) HT_ ?_;refine pu_ (i:=11) (N:=some 74) (bt_ 39 4095) HT_ ?_;refine pu_ (i:=12) (N:=some 75) (bt_ 39 8191) HT_ ?_;refine pu_ (i:=13) (N:=some 76) (bt_ 39 16383) HT_ ?_;refine pu_ (i:=14) (N:=some 77) (bt_ 39 32767) HT_ ?_;refine pu_ (i:=15) (N:=some 78) (bt_ 39 65535) HT_ ?_;refine pu_ (i:=16) (N:=some 79) (bt_ 39 131071) HT_ ?_;refine pu_ (i:=17) (N:=some 80) (bt_ 39 262143) HT_ ?_;refine pu_ (i:=18) (N:=some 81) (bt_ 39 524287) HT_ ?_;refine pn_ (i:=19) (N:=some 82) (bt_ 39 1048575) HT_ ?_;refine pn_ (i:=20) (N:=some 83) (bt_ 39 2097151) HT_ ?_;refine pn_ (i:=21) (N:=some 84) (bt_ 39 4194303) HT_ ?_;refine pn_ (i:=22) (N:=some 85) (bt_ 39 8388607) HT_ ?_;refine pn_ (i:=23) (N:=some 86) (bt_ 39 16777215) HT_ ?_;refine pn_ (i:=24) (N:=some 87) (bt_ 39 33554431) HT_ ?_
        refine pn_ (i:=25) (N:=some 88) (bt_ 39 67108863) HT_ ?_;refine pn_ (i:=26) (N:=some 89) (bt_ 39 134217727) HT_ ?_;refine pn_ (i:=27) (N:=some 90) (bt_ 39 268435455) HT_ ?_;refine pn_ (i:=28) (N:=some 91) (bt_ 39 536870911) HT_ ?_;refine pn_ (i:=29) (N:=some 92) (bt_ 39 1073741823) HT_ ?_;refine pn_ (i:=30) (N:=some 93) (bt_ 39 2147483647) HT_ ?_;refine pn_ (i:=31) (N:=some 94) (bt_ 39 4294967295) HT_ ?_;refine pn_ (i:=32) (N:=some 95) (bt_ 39 8589934591) HT_ ?_;refine pn_ (i:=33) (N:=some 96) (bt_ 39 17179869183) HT_ ?_;refine pn_ (i:=34) (N:=some 97) (bt_ 39 34359738367) HT_ ?_;refine pn_ (i:=35) (N:=some 98) (bt_ 39 68719476735) HT_ ?_;refine pn_ (i:=36) (N:=some 99) (bt_ 39 137438953471) HT_ ?_;refine pu_ (i:=37) (N:=some 100) (bt_ 39 274877906943) HT_ ?_;refine pu_ (i:=38) (N:=some 101) (bt_ 39 549755813887) HT_ ?_;refine done_ (done_of HT_.out (by kernel_rfl)) ?_;try go_wp2
        go_roundg k3
        case measure=>have:=HJ7.out;have:=HK2.out;have:=HK3.out;omega
        case rel=>exact ⟨(wrap64 (x9_2+1)),rf_,H',⟨by have:=HJ7.out;have:=HK2.out;have:=HK3.out;omega⟩,am_ (zr_ HO_5),am_ (zr_ HO_6),am_ (zr_ HO_7),⟨zl0_ HB⟩⟩
       rw [if_pos c31] at H;have c31b0:decide (0<x9_2)=true:=decide_eq_true c31;clear c31;obtain ⟨ji32,hji32⟩: ∃j_:Int,(wrap64 (x9_2 - 1))=j_:=⟨_,rfl⟩;replace H:(if 0≤(ji32) then (if (ji32)<(t8.length:Int) then ((r10_Up.f k3 t3 ((rd_T76 t8 (ji32)).f1)).bind fun t19=>((r10_Up.f k3 t3 ((rd_T76 t8 x9_2).f1)).bind fun t23=>(if (t19.length:Int)<(t23.length:Int) then (none) else (law18_PlanNone.l0 k3 t2 t3 t8 (wrap64 (x9_2+1)))))) else (none)) else (none))=some r:=by first|(rw [hji32] at H;exact H)|(simp only [hji32] at H ⊢;exact H)
       have hji32w:(IntKind.i64.wrap (x9_2 - 1))=ji32:=(i64_w _).trans hji32;by_cases c33:0≤(ji32);rotate_left
       ·rw [if_neg c33] at H;cases H
       rw [if_pos c33] at H;have c33b0:=decide_eq_true c33;clear c33;by_cases c34:(ji32)<(t8.length:Int);rotate_left
       ·rw [if_neg c34] at H;cases H
       rw [if_pos c34] at H;have c34b0:=decide_eq_true c34;clear c34;replace H:=zbd_ H;obtain ⟨t19,A35,H⟩:=H;try dsimp only at H
       replace H:=zbd_ H;obtain ⟨t23,A36,H⟩:=H;try dsimp only at H
       by_cases c37:(t19.length:Int)<(t23.length:Int)
       ·rw [if_pos c37] at H;cases H
       rw [if_neg c37] at H;have c37b0:=decide_eq_false c37;have c37b1:decide (t19.length<t23.length)=false:=decide_eq_false (fun h=>c37 (Int.ofNat_lt.mpr h));clear c37;have H':=Aside0.mk H;clear H;try go_wp2
       replace HO_5:=am_ (Kd.R_drew HO_5.out);replace HO_6:=am_ (Kd.R_drew HO_6.out);replace HO_7:=am_ (Kd.R_drew HO_7.out);replace HB:=am_ (below_drew1 HB.out);obtain ⟨p16,q16,ad16,e16,hx16_0,hx16_1,hx16_2,hx16_3,hx16_4,hx16_5⟩:=zat_ (at_T76 (Kd.R_reads' HO_7.out).2.2 x9_2);cases e16;obtain ⟨p17,q17,ad17,e17,hx17_0,hx17_1,hx17_2,hx17_3,hx17_4,hx17_5⟩:=zat_ (at_T76 (Kd.R_reads' HO_7.out).2.2 x9_2);obtain rfl:ad16=ad17:=(by injection e17);obtain ⟨p18,q18,ad18,e18,hx18_0,hx18_1,hx18_2,hx18_3,hx18_4,hx18_5⟩:=zat_ (at_T76 (Kd.R_reads' HO_7.out).2.2 (ji32));obtain rfl:ad16=ad18:=(by injection e18);obtain ⟨p22,q22,ad22,e22,hx22_0,hx22_1,hx22_2,hx22_3,hx22_4,hx22_5⟩:=zat_ (at_T76 (Kd.R_reads' HO_7.out).2.2 x9_2);obtain rfl:ad16=ad22:=(by injection e22)
       refine start_ (n:=39) (S:=fun w'=>w'.cell? (ad16.add ((x9_2).toNat*6))=some (.int .i64 ((rd_T76 t8 x9_2).f0))∧w'.cell? ⟨(ad16.add ((x9_2).toNat*6)).block,(ad16.add ((x9_2).toNat*6)).off+1,none⟩=some (.string ((rd_T76 t8 x9_2).f1))∧w'.cell? ⟨(ad16.add ((x9_2).toNat*6)).block,(ad16.add ((x9_2).toNat*6)).off+2,none⟩=some (.string ((rd_T76 t8 x9_2).f2))∧w'.cell? ⟨(ad16.add ((x9_2).toNat*6)).block,(ad16.add ((x9_2).toNat*6)).off+3,none⟩=some (.int .i64 ((rd_T76 t8 x9_2).f3.f0))∧w'.cell? ⟨(ad16.add ((x9_2).toNat*6)).block,(ad16.add ((x9_2).toNat*6)).off+4,none⟩=some (.int .i64 ((rd_T76 t8 x9_2).f3.f1))∧w'.cell? ⟨(ad16.add ((x9_2).toNat*6)).block,(ad16.add ((x9_2).toNat*6)).off+5,none⟩=some (.int .i64 ((rd_T76 t8 x9_2).f3.f2))∧w'.cell? (ad16.add ((x9_2).toNat*6))=some (.int .i64 ((rd_T76 t8 x9_2).f0))∧w'.cell? ⟨(ad16.add ((x9_2).toNat*6)).block,(ad16.add ((x9_2).toNat*6)).off+1,none⟩=some (.string ((rd_T76 t8 x9_2).f1))∧w'.cell? ⟨(ad16.add ((x9_2).toNat*6)).block,(ad16.add ((x9_2).toNat*6)).off+2,none⟩=some (.string ((rd_T76 t8 x9_2).f2))∧w'.cell? ⟨(ad16.add ((x9_2).toNat*6)).block,(ad16.add ((x9_2).toNat*6)).off+3,none⟩=some (.int .i64 ((rd_T76 t8 x9_2).f3.f0))∧w'.cell? ⟨(ad16.add ((x9_2).toNat*6)).block,(ad16.add ((x9_2).toNat*6)).off+4,none⟩=some (.int .i64 ((rd_T76 t8 x9_2).f3.f1))∧w'.cell? ⟨(ad16.add ((x9_2).toNat*6)).block,(ad16.add ((x9_2).toNat*6)).off+5,none⟩=some (.int .i64 ((rd_T76 t8 x9_2).f3.f2))∧w'.cell? (ad16.add (((ji32)).toNat*6))=some (.int .i64 ((rd_T76 t8 (ji32)).f0))∧w'.cell? ⟨(ad16.add (((ji32)).toNat*6)).block,(ad16.add (((ji32)).toNat*6)).off+1,none⟩=some (.string ((rd_T76 t8 (ji32)).f1))∧w'.cell? ⟨(ad16.add (((ji32)).toNat*6)).block,(ad16.add (((ji32)).toNat*6)).off+2,none⟩=some (.string ((rd_T76 t8 (ji32)).f2))∧w'.cell? ⟨(ad16.add (((ji32)).toNat*6)).block,(ad16.add (((ji32)).toNat*6)).off+3,none⟩=some (.int .i64 ((rd_T76 t8 (ji32)).f3.f0))∧w'.cell? ⟨(ad16.add (((ji32)).toNat*6)).block,(ad16.add (((ji32)).toNat*6)).off+4,none⟩=some (.int .i64 ((rd_T76 t8 (ji32)).f3.f1))∧w'.cell? ⟨(ad16.add (((ji32)).toNat*6)).block,(ad16.add (((ji32)).toNat*6)).off+5,none⟩=some (.int .i64 ((rd_T76 t8 (ji32)).f3.f2))∧w'.cell? (ad16.add ((x9_2).toNat*6))=some (.int .i64 ((rd_T76 t8 x9_2).f0))∧w'.cell? ⟨(ad16.add ((x9_2).toNat*6)).block,(ad16.add ((x9_2).toNat*6)).off+1,none⟩=some (.string ((rd_T76 t8 x9_2).f1))∧w'.cell? ⟨(ad16.add ((x9_2).toNat*6)).block,(ad16.add ((x9_2).toNat*6)).off+2,none⟩=some (.string ((rd_T76 t8 x9_2).f2))∧w'.cell? ⟨(ad16.add ((x9_2).toNat*6)).block,(ad16.add ((x9_2).toNat*6)).off+3,none⟩=some (.int .i64 ((rd_T76 t8 x9_2).f3.f0))∧w'.cell? ⟨(ad16.add ((x9_2).toNat*6)).block,(ad16.add ((x9_2).toNat*6)).off+4,none⟩=some (.int .i64 ((rd_T76 t8 x9_2).f3.f1))∧w'.cell? ⟨(ad16.add ((x9_2).toNat*6)).block,(ad16.add ((x9_2).toNat*6)).off+5,none⟩=some (.int .i64 ((rd_T76 t8 x9_2).f3.f2))) (ds:=[]) (bt_ 39 0) (by kernel_rfl) rfl rfl ⟨hx16_0,hx16_1,hx16_2,hx16_3,hx16_4,hx16_5,hx17_0,hx17_1,hx17_2,hx17_3,hx17_4,hx17_5,hx18_0,hx18_1,hx18_2,hx18_3,hx18_4,hx18_5,hx22_0,hx22_1,hx22_2,hx22_3,hx22_4,hx22_5⟩ (fun hHeld=> ?_);refine with_tabW law18_PlanNone.tab16 law18_PlanNone.bits16 (fun HT_ HW_=> ?_)
       generalize wr.drew=w43 at HO_5 HO_6 HO_7 HB hx16_0 hx16_1 hx16_2 hx16_3 hx16_4 hx16_5 hx17_0 hx17_1 hx17_2 hx17_3 hx17_4 hx17_5 hx18_0 hx18_1 hx18_2 hx18_3 hx18_4 hx18_5 hx22_0 hx22_1 hx22_2 hx22_3 hx22_4 hx22_5 hHeld ⊢;refine pu_ (i:=0) (N:=some 63) (bt_ 39 1) HT_ ?_;refine pu_ (i:=1) (N:=some 64) (bt_ 39 3) HT_ ?_;refine pu_ (i:=2) (N:=some 65) (bt_ 39 7) HT_ ?_;refine pu_ (i:=4) (N:=some 67) (bt_ 39 23) HT_ ?_;refine pu_ (i:=5) (N:=some 68) (bt_ 39 55) HT_ ?_;refine pu_ (i:=6) (N:=some 69) (bt_ 39 119) HT_ ?_;refine pu_ (i:=7) (N:=some 70) (bt_ 39 247) HT_ ?_;refine tk_ (i:=3) (N:=some 66) (bt_ 39 255) HT_ HW_ hHeld ?_;refine tk_ (i:=8) (N:=some 71) (bt_ 39 511) HT_ HW_ hHeld ?_;refine pu_ (i:=9) (N:=some 72) (bt_ 39 1023) HT_ ?_;refine pu_ (i:=10) (N:=some 73) (bt_ 39 2047) HT_ ?_;refine pu_ (i:=11) (N:=some 74) (bt_ 39 4095) HT_ ?_;refine pu_ (i:=12) (N:=some 75) (bt_ 39 8191) HT_ ?_;refine pu_ (i:=13) (N:=some 76) (bt_ 39 16383) HT_ ?_;refine pu_ (i:=14) (N:=some 77) (bt_ 39 32767) HT_ ?_;refine pu_ (i:=15) (N:=some 78) (bt_ 39 65535) HT_ ?_;refine pu_ (i:=16) (N:=some 79) (bt_ 39 131071) HT_ ?_;refine pu_ (i:=17) (N:=some 80) (bt_ 39 262143) HT_ ?_;refine pu_ (i:=18) (N:=some 81) (bt_ 39 524287) HT_ ?_;refine pu_ (i:=19) (N:=some 82) (bt_ 39 1048575) HT_ ?_;refine pu_ (i:=20) (N:=some 83) (bt_ 39 2097151) HT_ ?_;refine pu_ (i:=21) (N:=some 84) (bt_ 39 4194303) HT_ ?_;refine pu_ (i:=22) (N:=some 85) (bt_ 39 8388607) HT_ ?_
       refine pu_ (i:=23) (N:=some 86) (bt_ 39 16777215) HT_ ?_;refine pu_ (i:=24) (N:=some 87) (bt_ 39 33554431) HT_ ?_;refine pu_ (i:=28) (N:=some 91) (bt_ 39 301989887) HT_ ?_;refine pu_ (i:=29) (N:=some 92) (bt_ 39 838860799) HT_ ?_;refine pu_ (i:=30) (N:=some 93) (bt_ 39 1912602623) HT_ ?_;refine pu_ (i:=31) (N:=some 94) (bt_ 39 4060086271) HT_ ?_;refine pu_ (i:=32) (N:=some 95) (bt_ 39 8355053567) HT_ ?_;refine tk_ (i:=25) (N:=some 88) (bt_ 39 8388607999) HT_ HW_ hHeld ?_;refine tk_ (i:=33) (N:=some 96) (bt_ 39 16978542591) HT_ HW_ hHeld ?_;refine on_ (i:=26) (N:=some 89) (bt_ 39 17045651455) HT_ (fun K hK=> ?_);refine goes_ Try.func55 (by kernel_rfl) rfl #[.slice Ao11 t3.length co11, .string ((rd_T76 t8 (ji32)).f1)] (by rfl) rfl rfl (by (try simp only [List.map_toArray,List.map_cons,List.map_nil]);first|done|(simp only [hji32];rfl)|rfl|(simp only [List.length_drop,List.length_take];rfl)) ?_
       with_reducible refine (r10_Up.calls k3 _ _ t3 ((rd_T76 t8 (ji32)).f1) t19 _ ?side1 ?side2 A35.out).mono ?_
       (case side1=>exact zc_ (Kd.R_reads' HO_6.out).2.2);(case side2=>exact (Kd.R_reads' HO_6.out).2.1);rintro e w44 ⟨v20,rfl,ho0,hb⟩;have HS0_:=zh_ hb (hHeld.1);have HS1_:=zh_ hb (hHeld.2.1);have HS2_:=zh_ hb (hHeld.2.2.1);have HS3_:=zh_ hb (hHeld.2.2.2.1);have HS4_:=zh_ hb (hHeld.2.2.2.2.1);have HS5_:=zh_ hb (hHeld.2.2.2.2.2.1);have HS6_:=zh_ hb (hHeld.2.2.2.2.2.2.1);have HS7_:=zh_ hb (hHeld.2.2.2.2.2.2.2.1);have HS8_:=zh_ hb (hHeld.2.2.2.2.2.2.2.2.1);have HS9_:=zh_ hb (hHeld.2.2.2.2.2.2.2.2.2.1);have HS10_:=zh_ hb (hHeld.2.2.2.2.2.2.2.2.2.2.1);have HS11_:=zh_ hb (hHeld.2.2.2.2.2.2.2.2.2.2.2.1);have HS12_:=zh_ hb (hHeld.2.2.2.2.2.2.2.2.2.2.2.2.1);have HS13_:=zh_ hb (hHeld.2.2.2.2.2.2.2.2.2.2.2.2.2.1);have HS14_:=zh_ hb (hHeld.2.2.2.2.2.2.2.2.2.2.2.2.2.2.1);have HS15_:=zh_ hb (hHeld.2.2.2.2.2.2.2.2.2.2.2.2.2.2.2.1);have HS16_:=zh_ hb (hHeld.2.2.2.2.2.2.2.2.2.2.2.2.2.2.2.2.1);have HS17_:=zh_ hb (hHeld.2.2.2.2.2.2.2.2.2.2.2.2.2.2.2.2.2.1);have HS18_:=zh_ hb (hHeld.2.2.2.2.2.2.2.2.2.2.2.2.2.2.2.2.2.2.1);have HS19_:=zh_ hb (hHeld.2.2.2.2.2.2.2.2.2.2.2.2.2.2.2.2.2.2.2.1);have HS20_:=zh_ hb (hHeld.2.2.2.2.2.2.2.2.2.2.2.2.2.2.2.2.2.2.2.2.1);have HS21_:=zh_ hb (hHeld.2.2.2.2.2.2.2.2.2.2.2.2.2.2.2.2.2.2.2.2.2.1);have HS22_:=zh_ hb (hHeld.2.2.2.2.2.2.2.2.2.2.2.2.2.2.2.2.2.2.2.2.2.2.1);have HS23_:=zh_ hb (hHeld.2.2.2.2.2.2.2.2.2.2.2.2.2.2.2.2.2.2.2.2.2.2.2);refine ⟨_,rfl, ?_⟩;replace HO_5:=am_ (Kd.R_below (zr_ HO_5) hb);replace HO_6:=am_ (Kd.R_below (zr_ HO_6) hb)
       replace HO_7:=am_ (Kd.R_below (zr_ HO_7) hb);have HO21:=am_ (Kd.R_lower ho0 (below_size (zl0_ HB)));replace HB:=am_ (below_step (zl0_ HB) hb);(try clear hb);(try clear hb2);(try clear hk);(try clear hi);(try clear ho0);obtain ⟨Ao45,co45,eo45⟩:=Kd.R_slice HO21.out;(first|subst eo45|cases eo45);refine hK.out _ _ ⟨HS0_,HS1_,HS2_,HS3_,HS4_,HS5_,HS6_,HS7_,HS8_,HS9_,HS10_,HS11_,HS12_,HS13_,HS14_,HS15_,HS16_,HS17_,HS18_,HS19_,HS20_,HS21_,HS22_,HS23_⟩ (fun hHeld=> ?_);clear hK K;refine no_ (N:=some 89) ?_;refine pu_ (i:=27) (N:=some 90) (bt_ 39 17179869183) HT_ ?_;refine on_ (i:=34) (N:=some 97) (bt_ 39 34359738367) HT_ (fun K hK=> ?_);refine gs_ Try.func55 #[.slice Ao11 t3.length co11, .string ((rd_T76 t8 x9_2).f1)] ?_
       with_reducible refine (r10_Up.calls k3 _ _ t3 ((rd_T76 t8 x9_2).f1) t23 _ ?side1 ?side2 A36.out).mono ?_
       (case side1=>exact zc_ (Kd.R_reads' HO_6.out).2.2);(case side2=>exact (Kd.R_reads' HO_6.out).2.1);rintro e w46 ⟨v24,rfl,ho0,hb⟩;have HS0_:=zh_ hb (hHeld.1);have HS1_:=zh_ hb (hHeld.2.1);have HS2_:=zh_ hb (hHeld.2.2.1);have HS3_:=zh_ hb (hHeld.2.2.2.1);have HS4_:=zh_ hb (hHeld.2.2.2.2.1);have HS5_:=zh_ hb (hHeld.2.2.2.2.2.1);have HS6_:=zh_ hb (hHeld.2.2.2.2.2.2.1);have HS7_:=zh_ hb (hHeld.2.2.2.2.2.2.2.1);have HS8_:=zh_ hb (hHeld.2.2.2.2.2.2.2.2.1);have HS9_:=zh_ hb (hHeld.2.2.2.2.2.2.2.2.2.1);have HS10_:=zh_ hb (hHeld.2.2.2.2.2.2.2.2.2.2.1);have HS11_:=zh_ hb (hHeld.2.2.2.2.2.2.2.2.2.2.2.1);have HS12_:=zh_ hb (hHeld.2.2.2.2.2.2.2.2.2.2.2.2.1);have HS13_:=zh_ hb (hHeld.2.2.2.2.2.2.2.2.2.2.2.2.2.1);have HS14_:=zh_ hb (hHeld.2.2.2.2.2.2.2.2.2.2.2.2.2.2.1);have HS15_:=zh_ hb (hHeld.2.2.2.2.2.2.2.2.2.2.2.2.2.2.2.1);have HS16_:=zh_ hb (hHeld.2.2.2.2.2.2.2.2.2.2.2.2.2.2.2.2.1);have HS17_:=zh_ hb (hHeld.2.2.2.2.2.2.2.2.2.2.2.2.2.2.2.2.2.1);have HS18_:=zh_ hb (hHeld.2.2.2.2.2.2.2.2.2.2.2.2.2.2.2.2.2.2.1);have HS19_:=zh_ hb (hHeld.2.2.2.2.2.2.2.2.2.2.2.2.2.2.2.2.2.2.2.1);have HS20_:=zh_ hb (hHeld.2.2.2.2.2.2.2.2.2.2.2.2.2.2.2.2.2.2.2.2.1);have HS21_:=zh_ hb (hHeld.2.2.2.2.2.2.2.2.2.2.2.2.2.2.2.2.2.2.2.2.2.1);have HS22_:=zh_ hb (hHeld.2.2.2.2.2.2.2.2.2.2.2.2.2.2.2.2.2.2.2.2.2.2.1);have HS23_:=zh_ hb (hHeld.2.2.2.2.2.2.2.2.2.2.2.2.2.2.2.2.2.2.2.2.2.2.2);refine ⟨_,rfl, ?_⟩;replace HO_5:=am_ (Kd.R_below (zr_ HO_5) hb);replace HO_6:=am_ (Kd.R_below (zr_ HO_6) hb)
       replace HO_7:=am_ (Kd.R_below (zr_ HO_7) hb);have HO25:=am_ (Kd.R_lower (Kd.R_new' ho0 (Kd.R_lt (zr_ HO21))) (below_size (zl0_ HB)));replace HO21:=am_ (Kd.R_elder' (zr_ HO21) (Kd.R_base ho0) hb);replace HB:=am_ (below_step (zl0_ HB) hb);(try clear hb);(try clear hb2);(try clear hk);(try clear hi);(try clear ho0);obtain ⟨Ao47,co47,eo47⟩:=Kd.R_slice HO25.out;(first|subst eo47|cases eo47);refine hK.out _ _ ⟨HS0_,HS1_,HS2_,HS3_,HS4_,HS5_,HS6_,HS7_,HS8_,HS9_,HS10_,HS11_,HS12_,HS13_,HS14_,HS15_,HS16_,HS17_,HS18_,HS19_,HS20_,HS21_,HS22_,HS23_⟩ (fun hHeld=> ?_);clear hK K;refine no_ (N:=some 97) ?_;refine pu_ (i:=35) (N:=some 98) (bt_ 39 68719476735) HT_ ?_;refine pu_ (i:=36) (N:=some 99) (bt_ 39 137438953471) HT_ ?_;refine pu_ (i:=37) (N:=some 100) (bt_ 39 274877906943) HT_ ?_;refine pu_ (i:=38) (N:=some 101) (bt_ 39 549755813887) HT_ ?_;refine done_ (done_of HT_.out (by kernel_rfl)) ?_;try go_wp2
       go_roundg k3
       case measure=>have:=HJ7.out;have:=HK2.out;have:=HK3.out;omega
       case rel=>exact ⟨(wrap64 (x9_2+1)),rf_,H',⟨by have:=HJ7.out;have:=HK2.out;have:=HK3.out;omega⟩,am_ (zr_ HO_5),am_ (zr_ HO_6),am_ (zr_ HO_7),⟨zl0_ HB⟩⟩
noncomputable def law18_PlanNone.Pure:Prop:= ∀(l0:List Int) (a1:Int),l0.length≤maxLen→l0.length*1≤140737488351232→(∀x∈l0,(Lit.int .u8 x).wf=true)→(Lit.int .u8 a1).wf=true→ ∃k,law18_PlanNone.f k l0 a1=some true
theorem law18_PlanNone.walk (P:law18_PlanNone.Pure) (a0:Option Addr) (len0 cap0:Nat) (z0:List Int) (a1:Int) (w:World) (w0:(a0=none∧len0=0∧cap0=0∧z0=[])∨ ∃x,a0=some x∧len0≤cap0∧cap0≤maxLen∧z0.length=cap0∧(∀i,i<z0.length→w.cell? (x.add i)=some (.int .u8 (z0.getD i 0)))∧ ∀n∈z0,(Lit.int .u8 n).wf=true) (y0:len0*1≤140737488351232) (w1:(Lit.int .u8 a1).wf=true):
  Calls Try.prog 15 #[.slice a0 len0 cap0, .int .u8 a1] w fun e w'=>e= .returned (.bool true)∧Below w.heap.size w w':=by
 obtain ⟨l0,rfl,hr0,hm0,hw0,hc0⟩:=ReadsInt.ofRowC w0;obtain ⟨k,h⟩:=P l0 a1 hm0 y0 hw0 w1;refine (law18_PlanNone.calls k _ _ l0 a1 true w (Kd.C_of_reads (d:=(0:Int)) (h1:=fun _=>rfl) hr0) hc0 h).mono ?_;rintro e w' ⟨rfl,hd⟩;exact ⟨rfl,hd⟩

def slices_Clone_Item.f (l0:List (S79)):Option (List (S79)):=if l0.length<1256584717458 then some l0 else none
def shape_made.f (l0:List (S79)) (a1:ByteArray):Option ((List (S79))×Int):=(slices_Clone_Item.f l0).bind fun t2=>((tree_Find.f l0 a1).bind fun t5=>(some (t2,t5)))
def shape_change_parent.f (l0_0:List (S79)) (a0_1:Int) (a1:ByteArray):Option (Bool):=if a1.toList=([]:List UInt8) then (some true) else ((tree_Find.f l0_0 a1).bind fun t2=>(some (decide (t2≥0))))
def guardF (l:List S79) (j ver:Int):Option Int:=if j<0 then some 2 else if j<(l.length:Int) then (if 0≤ver∧(rd_T79 l j).f5≠ver then some 14 else some 0) else none
def verF (y:S79):S79:=⟨y.f0,y.f1,y.f2,y.f3,y.f4,wrap64 (y.f5+1)⟩
def olderF (l:List S79) (j:Int):Option (Int×List S79):=if 0≤j∧j<(l.length:Int) then (if (rd_T79 l j).f5≥9007199254740992 then some (4,l) else some (0,l.set j.toNat (verF (rd_T79 l j)))) else none
structure Turned (W w':World) (base:Nat) (v:Value):Prop where
 below:Below base W w'
 block: ∀(k:Nat) o,W.heap[k]?=some o→some k≠v.ownBlock→w'.heap[k]?=some o
theorem Turned.of_below {W w':World} {base:Nat} {v:Value} (h:Below W.heap.size W w') (hb:base≤W.heap.size):Turned W w' base v:=⟨⟨h.os,h.tape,h.output,h.size,fun k hk=>h.block k (Nat.lt_of_lt_of_le hk hb)⟩,fun k o hk _=>blk_below hk h⟩
end Go.Proofs.Ytahidkjncljkaaa.Print

namespace Go.Proofs.Ytahidkjncljkaaa.Print
open Go.RowKit Go.Proofs.YtahidkjncljkaaaW.PrintWords Go.Proofs.YtahidkjncljkaaaW.PrintLast Go.Proofs.YtahidkjncljkaaaW.PrintMore
end Go.Proofs.Ytahidkjncljkaaa.Print

namespace Go.Proofs.Ytahidkjncljkaaa.Print
open Go.RowKit Go.Proofs.YtahidkjncljkaaaW.PrintWords Go.Proofs.YtahidkjncljkaaaW.PrintLast Go.Proofs.YtahidkjncljkaaaW.PrintMore
attribute [local go_sem] max2_int min2_int max_two min_two max_three min_three max_four min_four
def placeL (l:List S79) (n:ByteArray):Nat:=(l.takeWhile fun y=>Op.bytesLess y.f0.toList n.toList).length
def shape_Create.f (l0:List (S79)) (a1:ByteArray) (a2:ByteArray) (a3_0:Int) (a3_1:Int) (a3_2:Int):Option ((List (S79))×Int):=
 (shape_made.f l0 a1).bind fun p=>if a1.toList=([]:List UInt8) then some ([],1) else if (a1.size:Int)>24 then some ([],1) else (vec_May.f a3_0 a3_1 a3_2).bind fun m=>if m=false then some ([],1) else
  if p.2≥0 then some ([],3) else (shape_change_parent.f p.1 p.2 a2).bind fun q=>if q=false then some ([],2) else if (l0.length:Int)≥120 then some ([],4) else
   some (p.1.take (placeL l0 a1)++⟨a1,a2,⟨a3_0,a3_1,a3_2⟩,⟨0,0,0⟩,⟨0,0,0⟩,1⟩::p.1.drop (placeL l0 a1),0)
end Go.Proofs.Ytahidkjncljkaaa.Print

namespace Go.Proofs.Ytahidkjncljkaaa.Print
open Go.RowKit Go.Proofs.YtahidkjncljkaaaW.PrintWords Go.Proofs.YtahidkjncljkaaaW.PrintLast Go.Proofs.YtahidkjncljkaaaW.PrintMore
def shSub (op:S37→S37) (y:S79):S79:=⟨y.f0,y.f1,y.f2,y.f3,op y.f4,y.f5⟩
def shiftF (op:S37→S37):List ByteArray→List S79→Option (List S79)
 |[],out=>some out
 |s::us,out=>(tree_Find.f out s).bind fun j=>if 0≤j∧j<(out.length:Int) then shiftF op us (out.set j.toNat (shSub op (rd_T79 out j))) else none
end Go.Proofs.Ytahidkjncljkaaa.Print

namespace Go.Proofs.Ytahidkjncljkaaa.Print
open Go.RowKit Go.Proofs.YtahidkjncljkaaaW.PrintWords Go.Proofs.YtahidkjncljkaaaW.PrintLast Go.Proofs.YtahidkjncljkaaaW.PrintMore
attribute [local go_sem] max2_int min2_int max_two min_two max_three min_three max_four min_four

def limF (v:S37) (y:S79):S79:=⟨y.f0,y.f1,v,y.f3,y.f4,y.f5⟩
def shape_Limit.f (l0:List (S79)) (a1:ByteArray) (a2_0:Int) (a2_1:Int) (a2_2:Int) (a3:Int):Option ((List (S79))×Int):=
 (vec_May.f a2_0 a2_1 a2_2).bind fun m=>if m=false then some ([],1) else (shape_made.f l0 a1).bind fun p=>(guardF p.1 p.2 a3).bind fun e=>if e≠0 then some ([],e) else (olderF p.1 p.2).bind fun q=>if q.1≠0 then some ([],q.1) else
  (vec_Le.f (rd_T79 q.2 p.2).f4.f0 (rd_T79 q.2 p.2).f4.f1 (rd_T79 q.2 p.2).f4.f2 a2_0 a2_1 a2_2).bind fun b=>if b=false then some ([],12) else some (q.2.set p.2.toNat (limF ⟨a2_0,a2_1,a2_2⟩ (rd_T79 q.2 p.2)),0)
def slices_Index_string_string.l0:Nat→List ByteArray→ByteArray→Int→Int→Option (Int)
 |0,_,_,_,_=>none
 |k+1,x0,x1,x7,x8=>if x8<x7 then (if 0≤x8 then (if x8<(x0.length:Int) then (if x1.toList=(rdOf ByteArray.empty x0 x8).toList then (some x8) else (slices_Index_string_string.l0 k x0 x1 x7 (wrap64 (x8+1)))) else (none)) else (none)) else (some (-1))
def slices_Index_string_string.f (k:Nat) (l0:List ByteArray) (a1:ByteArray):Option (Int):=slices_Index_string_string.l0 k l0 a1 (l0.length:Int) 0
theorem slices_Index_string_string.mono_l: ∀k,(∀y0 y1 y2 y3,LeO (slices_Index_string_string.l0 k y0 y1 y2 y3) (slices_Index_string_string.l0 (k+1) y0 y1 y2 y3))
 |0=>fun _ _ _ _ r h=>by simp [slices_Index_string_string.l0] at h
 |k+1=>by
  have ih0:=slices_Index_string_string.mono_l k;intro y0 y1 y2 y3;unfold slices_Index_string_string.l0
  repeat' with_reducible first|apply ih0|apply LeO.refl|apply LeO.none|apply LeO.ite|refine LeO.bind ?_ fun _=> ?_
theorem slices_Index_string_string.mono: ∀a0 a1 k,LeO (slices_Index_string_string.f k a0 a1) (slices_Index_string_string.f (k+1) a0 a1):=by
 intro a0 a1 k;have ih0:=slices_Index_string_string.mono_l k;unfold slices_Index_string_string.f
 repeat' first
  |(with_reducible exact ih0 _ _ _ _)
  |(with_reducible exact LeO.refl _)
  |(with_reducible exact LeO.none _)
  |(with_reducible refine LeO.ite ?_ ?_)
  |(with_reducible refine LeO.bind ?_ (fun _=> ?_))
  |exact ih0 _ _ _ _
  |exact LeO.none _
  |refine LeO.ite ?_ ?_
  |refine LeO.bind ?_ (fun _=> ?_)
def slices_Contains_string_string.f (k:Nat) (l0:List ByteArray) (a1:ByteArray):Option (Bool):=(slices_Index_string_string.f k l0 a1).bind fun t1=>(some (decide (t1≥0)))
theorem slices_Contains_string_string.mono: ∀a0 a1 k,LeO (slices_Contains_string_string.f k a0 a1) (slices_Contains_string_string.f (k+1) a0 a1):=by
 intro a0 a1 k;unfold slices_Contains_string_string.f
 repeat' first
  |(with_reducible exact slices_Index_string_string.mono _ _ _)
  |(with_reducible exact LeO.refl _)
  |(with_reducible exact LeO.none _)
  |(with_reducible refine LeO.ite ?_ ?_)
  |(with_reducible refine LeO.bind ?_ (fun _=> ?_))
  |exact slices_Index_string_string.mono _ _ _
  |exact LeO.none _
  |refine LeO.ite ?_ ?_
  |refine LeO.bind ?_ (fun _=> ?_)
def mvAdd (v u:S37):S37:=⟨((vec_Add.f [u,v]).getD (0,0,0)).1,((vec_Add.f [u,v]).getD (0,0,0)).2.1,((vec_Add.f [u,v]).getD (0,0,0)).2.2⟩
def mvSub (v u:S37):S37:=⟨wrap64 (u.f0 - v.f0),wrap64 (u.f1 - v.f1),wrap64 (u.f2 - v.f2)⟩
def fitsF (k:Nat) (l:List S79) (from_:List ByteArray) (sub:S37):List ByteArray→Option Bool
  |[]=>some true
  | s :: us => (tree_Find.f l s).bind fun j => if 0 ≤ j ∧ j < (l.length : Int) then (slices_Contains_string_string.f k from_ s).bind fun c => if c = true then fitsF k l from_ sub us else
      (vec_Le.f (mvAdd sub (rd_T79 l j).f4).f0 (mvAdd sub (rd_T79 l j).f4).f1 (mvAdd sub (rd_T79 l j).f4).f2 (rd_T79 l j).f2.f0 (rd_T79 l j).f2.f1 (rd_T79 l j).f2.f2).bind fun b=>if b=true then fitsF k l from_ sub us else some false else none
theorem fitsF_mono (l:List S79) (from_:List ByteArray) (sub:S37) (k:Nat): ∀us,LeO (fitsF k l from_ sub us) (fitsF (k+1) l from_ sub us)
  |[]=>LeO.refl _
  | s :: us => by
    unfold fitsF;refine LeO.bind (LeO.refl _) (fun j=>LeO.ite (LeO.bind (slices_Contains_string_string.mono _ _ _) (fun c=>LeO.ite (fitsF_mono l from_ sub k us) (LeO.bind (LeO.refl _) (fun b=>LeO.ite (fitsF_mono l from_ sub k us) (LeO.refl _))))) (LeO.refl _))
def parF (p:ByteArray) (y:S79):S79:=⟨y.f0,p,y.f2,y.f3,y.f4,y.f5⟩
def shape_Move.f (k:Nat) (l0:List (S79)) (a1:ByteArray) (a2:ByteArray) (a3:Int):Option ((List (S79))×Int):=
 (shape_made.f l0 a1).bind fun p=>(guardF p.1 p.2 a3).bind fun e=>if e≠0 then some ([],e) else (tree_Up.f k l0 a2).bind fun ts=>(shape_change_parent.f p.1 p.2 a2).bind fun q=>if q=false then some ([],2) else
  (slices_Contains_string_string.f k ts a1).bind fun c=>if c=true then some ([],10) else (olderF p.1 p.2).bind fun o=>if o.1≠0 then some ([],o.1) else
   (tree_Up.f k l0 (rd_T79 o.2 p.2).f1).bind fun fs=>(fitsF k l0 fs (rd_T79 o.2 p.2).f4 ts).bind fun b=>if b=false then some ([],12) else
    (shiftF (mvSub (rd_T79 o.2 p.2).f4) fs o.2).bind fun l3=>(shiftF (mvAdd (rd_T79 o.2 p.2).f4) ts l3).bind fun l4=>some (l4.set p.2.toNat (parF a2 (rd_T79 l4 p.2)),0)
theorem shape_Move.mono: ∀a0 a1 a2 a3 k,LeO (shape_Move.f k a0 a1 a2 a3) (shape_Move.f (k+1) a0 a1 a2 a3):=by
 intro a0 a1 a2 a3 k;unfold shape_Move.f
 repeat' first
  |(with_reducible exact tree_Up.mono _ _ _)
  |(with_reducible exact slices_Contains_string_string.mono _ _ _)
  |(with_reducible exact fitsF_mono _ _ _ _ _)
  |(with_reducible exact LeO.refl _)
  |(with_reducible exact LeO.none _)
  |(with_reducible refine LeO.ite ?_ ?_)
  |(with_reducible refine LeO.bind ?_ (fun _=> ?_))
def tree_Below.l0:Nat→ByteArray→List ByteArray→List (S79)→Int→Int→Option (List ByteArray)
 |0,_,_,_,_,_=>none
 |k+1,x1,x5,x8,x9,x10=>if x10<x9 then (if 0≤x10 then (if x10<(x8.length:Int) then (if ((rd_T79 x8 x10).f1).toList=x1.toList then (if x5.length<8796093022208 then (tree_Below.l0 k x1 (x5++ [(rd_T79 x8 x10).f0]) x8 x9 (wrap64 (x10+1))) else (none)) else (tree_Below.l0 k x1 x5 x8 x9 (wrap64 (x10+1)))) else (none)) else (none)) else (some x5)
def tree_Below.f (k:Nat) (l0:List (S79)) (a1:ByteArray):Option (List ByteArray):=tree_Below.l0 k a1 ([]:List ByteArray) l0 (l0.length:Int) 0
theorem tree_Below.mono_l: ∀k,(∀y0 y1 y2 y3 y4,LeO (tree_Below.l0 k y0 y1 y2 y3 y4) (tree_Below.l0 (k+1) y0 y1 y2 y3 y4))
 |0=>fun _ _ _ _ _ r h=>by simp [tree_Below.l0] at h
 |k+1=>by
  have ih0:=tree_Below.mono_l k;intro y0 y1 y2 y3 y4;unfold tree_Below.l0
  repeat' with_reducible first|apply ih0|apply LeO.refl|apply LeO.none|apply LeO.ite|refine LeO.bind ?_ fun _=> ?_
theorem tree_Below.mono: ∀a0 a1 k,LeO (tree_Below.f k a0 a1) (tree_Below.f (k+1) a0 a1):=by
 intro a0 a1 k;have ih0:=tree_Below.mono_l k;unfold tree_Below.f
 repeat' first
  |(with_reducible exact ih0 _ _ _ _ _)
  |(with_reducible exact LeO.refl _)
  |(with_reducible exact LeO.none _)
  |(with_reducible refine LeO.ite ?_ ?_)
  |(with_reducible refine LeO.bind ?_ (fun _=> ?_))
  |exact ih0 _ _ _ _ _
  |exact LeO.none _
  |refine LeO.ite ?_ ?_
  |refine LeO.bind ?_ (fun _=> ?_)
def shape_Delete.f (k:Nat) (l0:List (S79)) (a1:ByteArray) (a2:Int):Option ((List (S79))×Int):=
 (shape_made.f l0 a1).bind fun p=>(guardF p.1 p.2 a2).bind fun e=>if e≠0 then some ([],e) else (tree_Below.f k l0 a1).bind fun b=>if (b.length:Int)>0 then some ([],13) else
  if (rd_T79 p.1 p.2).f3.f0=0∧(rd_T79 p.1 p.2).f3.f1=0∧(rd_T79 p.1 p.2).f3.f2=0 then some (p.1.take p.2.toNat++p.1.drop (p.2.toNat+1),0) else some ([],13)
theorem shape_Delete.mono: ∀a0 a1 a2 k,LeO (shape_Delete.f k a0 a1 a2) (shape_Delete.f (k+1) a0 a1 a2):=by
 intro a0 a1 a2 k;unfold shape_Delete.f
 repeat' first
  |(with_reducible exact tree_Below.mono _ _ _)
  |(with_reducible exact LeO.refl _)
  |(with_reducible exact LeO.none _)
  |(with_reducible refine LeO.ite ?_ ?_)
  |(with_reducible refine LeO.bind ?_ (fun _=> ?_))
def shape_Do.f (k:Nat) (l0:List (S79)) (a1_0:Int) (a1_1:ByteArray) (a1_2:ByteArray) (a1_3:Int) (a1_4:Int) (a1_5:Int) (a2:Int):Option ((List (S79))×Int):=if a1_0=1 then ((shape_Create.f l0 a1_1 a1_2 a1_3 a1_4 a1_5).bind fun bt2=>(some (bt2.1,bt2.2))) else (if a1_0=2 then ((shape_Limit.f l0 a1_1 a1_3 a1_4 a1_5 a2).bind fun bt6=>(some (bt6.1,bt6.2))) else (if a1_0=3 then ((shape_Move.f k l0 a1_1 a1_2 a2).bind fun bt10=>(some (bt10.1,bt10.2))) else (if a1_0=4 then ((shape_Delete.f k l0 a1_1 a2).bind fun bt14=>(some (bt14.1,bt14.2))) else (some (([]:List (S79)),1)))))
theorem shape_Do.mono: ∀a0 a1 a2 a3 a4 a5 a6 a7 k,LeO (shape_Do.f k a0 a1 a2 a3 a4 a5 a6 a7) (shape_Do.f (k+1) a0 a1 a2 a3 a4 a5 a6 a7):=by
 intro a0 a1 a2 a3 a4 a5 a6 a7 k;unfold shape_Do.f
 repeat' first
  |(with_reducible exact shape_Delete.mono _ _ _ _)
  |(with_reducible exact shape_Move.mono _ _ _ _ _)
  |(with_reducible exact LeO.refl _)
  |(with_reducible exact LeO.none _)
  |(with_reducible refine LeO.ite ?_ ?_)
  |(with_reducible refine LeO.bind ?_ (fun _=> ?_))
  |exact shape_Delete.mono _ _ _ _
  |exact shape_Move.mono _ _ _ _ _
  |exact LeO.none _
  |refine LeO.ite ?_ ?_
  |refine LeO.bind ?_ (fun _=> ?_)
def Kept (b:Nat) (W w:World):Prop:=(∀g ob,g≠b→W.heap[g]?=some ob→w.heap[g]?=some ob)∧W.heap.size≤w.heap.size
def trial_try.l0:Nat→List (S76)→Int→List (S79)→Int→Option ((List (S79))×Int×Int)
 |0,_,_,_,_=>none
 |k+1,ss,x,lc,dc=>if x<(ss.length:Int) then (if 0≤x then ((shape_Do.f k lc (rd_T76 ss x).f0 (rd_T76 ss x).f1 (rd_T76 ss x).f2 (rd_T76 ss x).f3.f0 (rd_T76 ss x).f3.f1 (rd_T76 ss x).f3.f2 (-1)).bind fun bt7=>if bt7.2=0 then trial_try.l0 k ss (wrap64 (x+1)) bt7.1 (wrap64 (dc+1)) else some (lc,dc,bt7.2)) else none) else some (lc,dc,0)
theorem trial_try.mono_l: ∀k y0 y1 y2 y3,LeO (trial_try.l0 k y0 y1 y2 y3) (trial_try.l0 (k+1) y0 y1 y2 y3)
  |0=>fun _ _ _ _ r h=>by simp [trial_try.l0] at h
  | k + 1 => by
    have ih0:=trial_try.mono_l k;intro y0 y1 y2 y3;unfold trial_try.l0
    repeat' first
      |(with_reducible exact ih0 _ _ _ _)
      |(with_reducible exact shape_Do.mono _ _ _ _ _ _ _ _ _)
      |(with_reducible exact LeO.refl _)
      |(with_reducible exact LeO.none _)
      |(with_reducible refine LeO.ite ?_ ?_)
      |(with_reducible refine LeO.bind ?_ (fun _=> ?_))
theorem eqA79 (d:Nat) (w:World) (x0 y0:ByteArray) (x1 y1:ByteArray) (x2 y2:Int) (x3 y3:Int) (x4 y4:Int) (x5 y5:Int) (x6 y6:Int) (x7 y7:Int) (x8 y8:Int) (x9 y9:Int) (x10 y10:Int) (x11 y11:Int):
  (Op.equalIn (d+3) 79 (.agg #[.string x0, .string x1, .int .i64 x2, .int .i64 x3, .int .i64 x4, .int .i64 x5, .int .i64 x6, .int .i64 x7, .int .i64 x8, .int .i64 x9, .int .i64 x10, .int .i64 x11]) (.agg #[.string y0, .string y1, .int .i64 y2, .int .i64 y3, .int .i64 y4, .int .i64 y5, .int .i64 y6, .int .i64 y7, .int .i64 y8, .int .i64 y9, .int .i64 y10, .int .i64 y11])).run Try.prog w= .ok (x0.toList==y0.toList && (x1.toList==y1.toList && ((x2==y2 && (x3==y3 && (x4==y4))) && ((x5==y5 && (x6==y6 && (x7==y7))) && ((x8==y8 && (x9==y9 && (x10==y10))) && (x11==y11)))))) w:=by
 refine eqA_of Try.underlying79 (by kernel_rfl) ?_;refine eqf_cons (by rfl) (by go_simp;rfl) (by go_simp;rfl) (by go_simp) ?_;refine eqf_cons (by rfl) (by go_simp;rfl) (by go_simp;rfl) (by go_simp) ?_;refine eqf_cons (by rfl) (by go_simp) (by go_simp) (eqA37 (d+0) w _ _ _ _ _ _) ?_;refine eqf_cons (by rfl) (by go_simp) (by go_simp) (eqA37 (d+0) w _ _ _ _ _ _) ?_;refine eqf_cons (by rfl) (by go_simp) (by go_simp) (eqA37 (d+0) w _ _ _ _ _ _) ?_;exact eqf_last (by rfl) (by go_simp;rfl) (by go_simp;rfl) (by go_simp)
attribute [local go_sem high] eqA79
end Go.Proofs.Ytahidkjncljkaaa.Print

namespace Go.Proofs.Ytahidkjncljkaaa.Print
open Go.RowKit Go.Proofs.YtahidkjncljkaaaW.PrintWords Go.Proofs.YtahidkjncljkaaaW.PrintLast Go.Proofs.YtahidkjncljkaaaW.PrintMore
end Go.Proofs.Ytahidkjncljkaaa.Print

namespace Go.Proofs.Ytahidkjncljkaaa.Print
open Go.RowKit Go.Proofs.YtahidkjncljkaaaW.PrintWords Go.Proofs.YtahidkjncljkaaaW.PrintLast Go.Proofs.YtahidkjncljkaaaW.PrintMore
attribute [local go_sem] max2_int min2_int max_two min_two max_three min_three max_four min_four

end Go.Proofs.Ytahidkjncljkaaa.Print

namespace Go.Proofs.Ytahidkjncljkaaa.Print
open Go.RowKit Go.Proofs.YtahidkjncljkaaaW.PrintWords Go.Proofs.YtahidkjncljkaaaW.PrintLast Go.Proofs.YtahidkjncljkaaaW.PrintMore
end Go.Proofs.Ytahidkjncljkaaa.Print

namespace Go.Proofs.Ytahidkjncljkaaa.Print
open Go.RowKit Go.Proofs.YtahidkjncljkaaaW.PrintWords Go.Proofs.YtahidkjncljkaaaW.PrintLast Go.Proofs.YtahidkjncljkaaaW.PrintMore
attribute [local go_sem] max2_int min2_int max_two min_two max_three min_three max_four min_four

end Go.Proofs.Ytahidkjncljkaaa.Print

namespace Go.Proofs.Ytahidkjncljkaaa.Print
open Go.RowKit Go.Proofs.YtahidkjncljkaaaW.PrintWords Go.Proofs.YtahidkjncljkaaaW.PrintLast Go.Proofs.YtahidkjncljkaaaW.PrintMore
end Go.Proofs.Ytahidkjncljkaaa.Print

namespace Go.Proofs.Ytahidkjncljkaaa.Print
open Go.RowKit Go.Proofs.YtahidkjncljkaaaW.PrintWords Go.Proofs.YtahidkjncljkaaaW.PrintLast Go.Proofs.YtahidkjncljkaaaW.PrintMore
attribute [local go_sem] max2_int min2_int max_two min_two max_three min_three max_four min_four

attribute [local go_sem high] eqA37
end Go.Proofs.Ytahidkjncljkaaa.Print

namespace Go.Proofs.Ytahidkjncljkaaa.Print
open Go.RowKit Go.Proofs.YtahidkjncljkaaaW.PrintWords Go.Proofs.YtahidkjncljkaaaW.PrintLast Go.Proofs.YtahidkjncljkaaaW.PrintMore
end Go.Proofs.Ytahidkjncljkaaa.Print

namespace Go.Proofs.Ytahidkjncljkaaa.Print
open Go.RowKit Go.Proofs.YtahidkjncljkaaaW.PrintWords Go.Proofs.YtahidkjncljkaaaW.PrintLast Go.Proofs.YtahidkjncljkaaaW.PrintMore
attribute [local go_sem] max2_int min2_int max_two min_two max_three min_three max_four min_four

end Go.Proofs.Ytahidkjncljkaaa.Print

namespace Go.Proofs.Ytahidkjncljkaaa.Print
open Go.RowKit Go.Proofs.YtahidkjncljkaaaW.PrintWords Go.Proofs.YtahidkjncljkaaaW.PrintLast Go.Proofs.YtahidkjncljkaaaW.PrintMore
end Go.Proofs.Ytahidkjncljkaaa.Print

namespace Go.Proofs.Ytahidkjncljkaaa.Print
open Go.RowKit Go.Proofs.YtahidkjncljkaaaW.PrintWords Go.Proofs.YtahidkjncljkaaaW.PrintLast Go.Proofs.YtahidkjncljkaaaW.PrintMore
attribute [local go_sem] max2_int min2_int max_two min_two max_three min_three max_four min_four

end Go.Proofs.Ytahidkjncljkaaa.Print

namespace Go.Proofs.Ytahidkjncljkaaa.Print
open Go.RowKit Go.Proofs.YtahidkjncljkaaaW.PrintWords Go.Proofs.YtahidkjncljkaaaW.PrintLast Go.Proofs.YtahidkjncljkaaaW.PrintMore
end Go.Proofs.Ytahidkjncljkaaa.Print

namespace Go.Proofs.Ytahidkjncljkaaa.Print
open Go.RowKit Go.Proofs.YtahidkjncljkaaaW.PrintWords Go.Proofs.YtahidkjncljkaaaW.PrintLast Go.Proofs.YtahidkjncljkaaaW.PrintMore
attribute [local go_sem] max2_int min2_int max_two min_two max_three min_three max_four min_four

end Go.Proofs.Ytahidkjncljkaaa.Print

namespace Go.Proofs.Ytahidkjncljkaaa.Print
open Go.RowKit Go.Proofs.YtahidkjncljkaaaW.PrintWords Go.Proofs.YtahidkjncljkaaaW.PrintLast Go.Proofs.YtahidkjncljkaaaW.PrintMore
end Go.Proofs.Ytahidkjncljkaaa.Print

namespace Go.Proofs.Ytahidkjncljkaaa.Print
open Go.RowKit Go.Proofs.YtahidkjncljkaaaW.PrintWords Go.Proofs.YtahidkjncljkaaaW.PrintLast
def idle (x:Item):Item:=⟨x.f0,x.f1,x.f2,⟨0,0,0⟩,⟨0,0,0⟩,x.f5⟩
structure St (t:List Item) (v m:Nat) (A:ByteArray→Option ByteArray):Prop where
 right:RightP t
 idle: ∀x∈t,x.f3=⟨0,0,0⟩∧x.f4=⟨0,0,0⟩
 ver: ∀x∈t,x.f5≤v
 len:t.length≤m
 par: ∀n,(look t n).map (·.f1)=A n
theorem St.some {t:List Item} {v m:Nat} {A:ByteArray→Option ByteArray} (S:St t v m A) {n p:ByteArray} (h:A n=some p): ∃x,look t n=some x∧x.f1=p:=by
  have:=S.par n
  rw [h] at this
  cases e:look t n with
  |none=>rw [e] at this;cases this
  | some x =>
    rw [e] at this;exact ⟨x,rfl,Option.some.inj this⟩
theorem St.none {t:List Item} {v m:Nat} {A:ByteArray→Option ByteArray} (S:St t v m A) {n:ByteArray} (h:A n=none):look t n=none:=by
 have:=S.par n
 rw [h] at this
 cases e:look t n with
 |none=>rfl
 |some x=>rw [e] at this;cases this
theorem St.le {t:List Item} {v m v' m':Nat} {A:ByteArray→Option ByteArray} (S:St t v m A) (h:v≤v') (k:m≤m'):St t v' m' A:=⟨S.right,S.idle,fun x hx=>by have:=S.ver x hx;omega,by have:=S.len;omega,S.par⟩
theorem St.congr {t:List Item} {v m:Nat} {A B:ByteArray→Option ByteArray} (S:St t v m A) (h: ∀n,A n=B n):St t v m B:=⟨S.right,S.idle,S.ver,S.len,fun n=>(S.par n).trans (h n)⟩
theorem zero_le {v:Vec} (h:MayP v):LeP (⟨0,0,0⟩:Vec) v:=by
 obtain ⟨a,b,c⟩:=v;rw [mayP_iff] at h;rw [leP_iff]
 omega
structure TopOK (top:List Want):Prop where
 nodup:(top.map (·.f0)).Nodup
 par: ∀(pre post:List Want) (w:Want),top=pre++w::post→w.f1=⟨#[]⟩∨ ∃u∈pre,u.f0=w.f1
 may: ∀w∈top,(w.f0≠⟨#[]⟩∧w.f0.size≤24)∧MayP w.f2
def A0 (l:List Item) (n:ByteArray):Option ByteArray:=(look l n).map (·.f1)
section
variable {l:List Item} {top:List Want}
end
theorem befG_iff {l:List Item} {n a:ByteArray}:befG l n a=true↔depU l n<depU l a∨(depU l a=depU l n∧lt a n=true):=by unfold befG;simp
theorem befG_trans {l:List Item} {a b c:ByteArray} (h:befG l b a=true) (k:befG l c b=true):befG l c a=true:=by
  rw [befG_iff] at h k ⊢
  rcases h with h|⟨h,h'⟩<;>rcases k with k|⟨k,k'⟩
  · exact .inl (by omega)
  · exact .inl (by omega)
  · exact .inl (by omega)
  exact .inr ⟨by omega,lt_trans h' k'⟩
theorem befG_total {l:List Item} {a n:ByteArray} (h:befG l n a=false) (hn:a≠n):befG l a n=true:=by
  rw [←Bool.not_eq_true,befG_iff] at h;rw [befG_iff];by_cases e:depU l a=depU l n;rotate_left
  · exact .inl (by have: ¬depU l n<depU l a:=fun q=>h (.inl q);omega)
  refine .inr ⟨e.symm,lt_total ?_ hn⟩;rw [←Bool.not_eq_true];exact fun q=>h (.inr ⟨e,q⟩)
theorem insG_perm (l:List Item) (n:ByteArray) (out:List ByteArray):(insG l n out).Perm (n::out):=by
 unfold insG;have:=List.perm_middle (a:=n) (l₁:=out.takeWhile (befG l n)) (l₂:=out.dropWhile (befG l n))
 rwa [List.takeWhile_append_dropWhile] at this
def goneN (ws:List Want) (ms:List PMark):List ByteArray:=(ms.filter (fun m=> !isWant ws m.f0)).map (·.f0)
theorem goesGo_perm (ws:List Want) (l:List Item): ∀(ms:List PMark) (out:List ByteArray),(goesGo ws l out ms).Perm (out++goneN ws ms)
  |[],out=>by rw [goesGo];show List.Perm out (out++ []);rw [List.append_nil]
  | m :: ms, out => by
    rw [goesGo];by_cases c:isWant ws m.f0=true
    · rw [if_pos c]
      have:goneN ws (m::ms)=goneN ws ms:=by unfold goneN;rw [List.filter_cons_of_neg (by rw [c];simp)]
      rw [this]
      exact goesGo_perm ws l ms out
    rw [if_neg c];have:goneN ws (m::ms)=m.f0::goneN ws ms:=by unfold goneN;rw [List.filter_cons_of_pos (by rw [Bool.eq_false_iff.2 c];rfl)];rfl
    rw [this];refine (goesGo_perm ws l ms _).trans (((insG_perm l m.f0 out).append_right _).trans ?_);exact List.perm_middle.symm
end Go.Proofs.Ytahidkjncljkaaa.Print

namespace Go.Proofs.Ytahidkjncljkaaa.Print
open Go.RowKit Go.Proofs.YtahidkjncljkaaaW.PrintWords Go.Proofs.YtahidkjncljkaaaW.PrintLast Go.Proofs.YtahidkjncljkaaaW.PrintMore
theorem mx_zero {a:Int} (h:0≤a):mx 0 a=a:=by unfold mx;split<;>omega
theorem mx3 {a b:Int} (h:0≤b):mx (mx 0 a) b=mx a b:=by unfold mx;repeat' split<;>omega
theorem nowG_eq {l:List Item} (wide:Bool) {y:Want} (h:MayP y.f2):nowG wide (goalOf l y)=upV l wide y:=by
  have h0:=(mayP_iff.1 h).1.1;have h1:=(mayP_iff.1 h).2.1.1;have h2:=(mayP_iff.1 h).2.2.1;unfold nowG upV
  cases wide with
  |true=>rfl
  | false =>
    rw [if_neg (by simp),if_neg (by simp)];unfold goalOf
    cases look l y.f0 with
    | none =>
      show (⟨mx (mx 0 0) y.f2.f0,mx (mx 0 0) y.f2.f1,mx (mx 0 0) y.f2.f2⟩:Vec)=y.f2
      rw [mx3 h0,mx3 h1,mx3 h2,mx_zero h0,mx_zero h1,mx_zero h2]
    | some x =>
      show (⟨mx (mx 0 x.f2.f0) y.f2.f0,mx (mx 0 x.f2.f1) y.f2.f1,mx (mx 0 x.f2.f2) y.f2.f2⟩:Vec)=_
      rw [mx3 h0,mx3 h1,mx3 h2]
theorem bq (a b:Int):(a==b)=(b==a):=by
 rw [Bool.eq_iff_iff,beq_iff_eq,beq_iff_eq];exact ⟨Eq.symm,Eq.symm⟩
theorem neG_neV (a b:Vec):neG a b=neV b a:=by
 unfold neG neV;rw [show (a.f0==b.f0)=(b.f0==a.f0) from bq _ _,show (a.f1==b.f1)=(b.f1==a.f1) from bq _ _,show (a.f2==b.f2)=(b.f2==a.f2) from bq _ _]
theorem upG_f (l:List Item) (wide:Bool) (y:Want):(upG wide (goalOf l y)).f0=y∧(upG wide (goalOf l y)).f1=(goalOf l y).f1∧(upG wide (goalOf l y)).f2=(goalOf l y).f2∧(goalOf l y).f0=y:=by
 have:(goalOf l y).f0=y:=by unfold goalOf;split<;>rfl
 exact ⟨this,rfl,rfl,this⟩
theorem raise_eq {l:List Item} (wide:Bool) {y:Want} (h:MayP y.f2):raiseG wide (goalOf l y)=raiseS l wide y:=by
 have e:=nowG_eq (l:=l) wide h;have q: ∀z:PGoal,raiseG wide z=if z.f2=false then [⟨1,z.f0.f0,z.f0.f1,nowG wide z⟩] else if neG (nowG wide z) z.f1.f2=true then [⟨2,z.f0.f0,⟨#[]⟩,nowG wide z⟩] else []:=fun z=>rfl
 rw [q,e,neG_neV,(upG_f l wide y).2.2.2];unfold raiseS goalOf
 cases look l y.f0 with
 |none=>exact if_pos rfl
 |some x=>exact if_neg (by simp)
theorem move_eq {l:List Item} (wide:Bool) (y:Want):moveG (upG wide (goalOf l y))=moveS l y:=by
  have q: ∀z:PGoal,moveG (upG wide z)=if z.f2=true∧z.f1.f1.toList≠z.f0.f1.toList then [⟨3,z.f0.f0,z.f0.f1,⟨0,0,0⟩⟩] else []:=fun z=>rfl
  rw [q,(upG_f l wide y).2.2.2];unfold moveS goalOf
  cases look l y.f0 with
  |none=>exact if_neg (by simp [gzero])
  | some x =>
    dsimp only;by_cases c:x.f1=y.f1
    · rw [if_pos c,if_neg (by rw [c];simp)]
    rw [if_neg c,if_pos ⟨rfl,nm_ne.2 c⟩]
theorem lower_eq {l:List Item} (wide:Bool) {y:Want} (h:MayP y.f2):lowerG (upG wide (goalOf l y))=lowerS l wide y:=by
 have q: ∀z:PGoal,lowerG (upG wide z)=if neG (nowG wide z) z.f0.f2=true then [⟨2,z.f0.f0,⟨#[]⟩,z.f0.f2⟩] else []:=fun z=>rfl
 rw [q,nowG_eq wide h,neG_neV,(upG_f l wide y).2.2.2];unfold lowerS;rw [show neV y.f2 (upV l wide y)=neV (upV l wide y) y.f2 from Bool.eq_iff_iff.2 (by rw [neV_iff,neV_iff];exact ⟨fun a b=>a b.symm,fun a b=>a b.symm⟩)]
theorem wide_eq (l:List Item) (ms:List PMark): ∀(ys:List Want) (b:Bool),wideP l ms b ys=wideGo l ms b ys
  |[],b=>rfl
  | y :: ys, b => by
    have q:(ms.any (fun m=>m.f0.toList==y.f0.toList))=(mlook ms y.f0).isSome:=by
      unfold mlook;rw [List.isSome_find?]
      congr 1
      funext m
      exact nm_beq _ _
    unfold wideP wideGo badW wideOf;rw [q,wide_eq l ms ys]
    cases look l y.f0 with
    |none=>rw [if_neg (by simp)];dsimp only;rw [Bool.or_false]
    | some x =>
      dsimp only
      cases mlook ms y.f0 with
      |none=>rw [if_pos (by simp),if_pos rfl]
      | some m =>
        rw [if_neg (by simp),if_neg (by simp)];rw [show (x.f1.toList !=y.f1.toList)= !decide (x.f1=y.f1) from by unfold bne;rw [nm_beq]]
theorem flat_congr {α β:Type} {f g:α→List β}: ∀{l:List α},(∀x∈l,f x=g x)→l.flatMap f=l.flatMap g
  |[],_=>rfl
  | x :: l, h => by
    rw [List.flatMap_cons,List.flatMap_cons,h x (by simp),flat_congr fun y hy=>h y (List.mem_cons_of_mem _ hy)]
theorem befG_asym {l:List Item} {a b:ByteArray} (h:befG l a b=true):befG l b a=false:=by
  rw [←Bool.not_eq_true]
  intro k
  rw [befG_iff] at h k
  rcases h with h|⟨h,h'⟩<;>rcases k with k|⟨k,k'⟩
  · omega
  · omega
  · omega
  exact absurd (lt_trans h' k') (by rw [lt_irrefl];simp)
theorem befG_neg {l:List Item} {a b c:ByteArray} (h:befG l a b=false) (k:befG l b c=false):befG l a c=false:=by
  rw [←Bool.not_eq_true];intro q;by_cases e:b=a
  · subst e;rw [q] at k;cases k
  have h1:=befG_total h e;have h2:=befG_trans q h1;rw [h2] at k;cases k
theorem insG_weak {l:List Item} {n:ByteArray}: ∀{out:List ByteArray},out.Pairwise (fun a b=>befG l a b=false)→(insG l n out).Pairwise (fun a b=>befG l a b=false)
  |[],h=>by simp [insG]
  | x :: out, h => by
    rw [List.pairwise_cons] at h;unfold insG;rw [List.takeWhile_cons,List.dropWhile_cons];by_cases c:befG l n x=true
    · rw [c]
      show (x::insG l n out).Pairwise _
      rw [List.pairwise_cons]
      refine ⟨fun a ha=> ?_,insG_weak h.2⟩
      rcases List.mem_cons.1 ((insG_perm l n out).mem_iff.1 ha) with rfl|ha
      · exact befG_asym c
      exact h.1 a ha
    rw [Bool.eq_false_iff.2 c]
    show (n::x::out).Pairwise _
    rw [List.pairwise_cons,List.pairwise_cons];refine ⟨fun a ha=> ?_,h⟩
    rcases List.mem_cons.1 ha with rfl|ha
    · exact Bool.eq_false_iff.2 c
    exact befG_neg (Bool.eq_false_iff.2 c) (h.1 a ha)
theorem goesGo_weak (ws:List Want) (l:List Item): ∀(ms:List PMark) (out:List ByteArray),out.Pairwise (fun a b=>befG l a b=false)→(goesGo ws l out ms).Pairwise (fun a b=>befG l a b=false)
  |[],out,h=>by rw [goesGo];exact h
  | m :: ms, out, h => by
    rw [goesGo];by_cases c:isWant ws m.f0=true
    · rw [if_pos c];exact goesGo_weak ws l ms out h
    rw [if_neg c];exact goesGo_weak ws l ms _ (insG_weak h)
theorem drop_eq (l:List Item) (wide:Bool) (ws:List Want): ∀ms:List PMark,dropN (((topR ws).map (goalOf l)).map (upG wide)) ms=goneN ws ms
  |[]=>rfl
  | m :: ms => by
    have q:hasG (((topR ws).map (goalOf l)).map (upG wide)) m=isWant ws m.f0:=by
      unfold hasG isWant;rw [List.any_map,List.any_map,Bool.eq_iff_iff,List.any_eq_true,List.any_eq_true]
      constructor
      · rintro ⟨y, hy, e⟩
        refine ⟨y,(topR_perm ws).mem_iff.1 hy, ?_⟩
        have e2:(y.f0.toList==m.f0.toList)=true:=by rw [←(upG_f l wide y).1];exact e
        rwa [nm_beq] at e2
      rintro ⟨y,hy,e⟩;refine ⟨y,(topR_perm ws).mem_iff.2 hy, ?_⟩
      show ((upG wide (goalOf l y)).f0.f0.toList==m.f0.toList)=true
      rw [(upG_f l wide y).1,nm_beq];exact e
    show (if hasG _ m=true then dropN _ ms else m.f0::dropN _ ms)=_
    rw [q,drop_eq l wide ws ms];unfold goneN;by_cases c:isWant ws m.f0=true
    · rw [if_pos c,List.filter_cons_of_neg (by rw [c];simp)]
    rw [if_neg c,List.filter_cons_of_pos (by rw [Bool.eq_false_iff.2 c];rfl)];rfl
theorem gone_eq {l:List Item} {wide:Bool} {ws:List Want} {ms:List PMark} {ns:List ByteArray} (h:GoneIs (((topR ws).map (goalOf l)).map (upG wide)) ms l ns):ns=goesR ws ms l:=by
  obtain ⟨h1,h2⟩:=h;rw [drop_eq] at h1;have k1:(goesR ws ms l).Perm (goneN ws ms):=(goesGo_perm ws l ms []).trans (by rw [List.nil_append]);have k2:=goesGo_weak ws l ms [] List.Pairwise.nil;refine List.Perm.eq_of_pairwise (le:=fun a b=>befG l a b=false) ?_ ?_ k2 (h1.trans k1.symm)
  · intro a b _ _ hab hba
    by_cases e:a=b
    · exact e
    have:=befG_total hba e
    rw [hab] at this;cases this
  refine h2.imp ?_;intro a b hab;rw [←Bool.not_eq_true];intro q;refine hab (cmpW_neg.2 ?_);rw [befG_iff] at q;unfold depN
  rcases q with q|⟨q,q'⟩
  · exact .inl (by omega)
  exact .inr ⟨by omega,q'⟩
theorem gone_is (l:List Item) (wide:Bool) (ws:List Want) (ms:List PMark):GoneIs (((topR ws).map (goalOf l)).map (upG wide)) ms l (goesR ws ms l):=by
  refine ⟨?_, ?_⟩
  · rw [drop_eq]
    exact (goesGo_perm ws l ms []).trans (by rw [List.nil_append])
  refine (goesGo_weak ws l ms [] List.Pairwise.nil).imp ?_;intro a b hab q;rw [←Bool.not_eq_true] at hab;refine hab (befG_iff.2 ?_);have q:=cmpW_neg.1 q;unfold depN at q
  rcases q with q|⟨q,q'⟩
  · exact .inl (by omega)
  exact .inr ⟨by omega,q'⟩
theorem mayW_may {y:Want} (h:mayW y=true):MayP y.f2:=by
 unfold mayW at h;exact (of_decide_eq_true h).2
theorem plan_is {ws:List Want} {ms:List PMark} {l:List Item} (r:List PStep) (e:Int):PlanIs ws (topR ws) ms l r e↔(r,e)=planR ws ms l:=by
  unfold PlanIs planR;by_cases hz:checkR ws=0;rotate_left
  · rw [if_neg hz, if_neg hz]
    exact ⟨fun ⟨a,b⟩=>by rw [a,b],fun h=>by injection h with a b;exact ⟨a,b⟩⟩
  rw [if_pos hz,if_pos hz,wide_eq];have T:=checkR_tree (.inl hz);have hm: ∀y∈topR ws,MayP y.f2:=fun y hy=>mayW_may (T.may y ((topR_perm ws).mem_iff.1 hy))
  cases wideGo l ms false (topR ws) with
  |none=>exact ⟨fun ⟨a,b⟩=>by rw [a,b],fun h=>by injection h with a b;exact ⟨a,b⟩⟩
  | some wide =>
    dsimp only
    have e1:((topR ws).map (goalOf l)).flatMap (raiseG wide)=(topR ws).flatMap (raiseS l wide):=by
      rw [List.flatMap_map];exact flat_congr fun y hy=>raise_eq wide (hm y hy)
    have e2:(((topR ws).map (goalOf l)).map (upG wide)).flatMap moveG=(topR ws).flatMap (moveS l):=by
      rw [List.flatMap_map,List.flatMap_map];exact flat_congr fun y hy=>move_eq wide y
    have e3:(((topR ws).map (goalOf l)).map (upG wide)).reverse.flatMap lowerG=(topR ws).reverse.flatMap (lowerS l wide):=by
      rw [←List.map_reverse,←List.map_reverse,List.flatMap_map,List.flatMap_map];exact flat_congr fun y hy=>lower_eq wide (hm y (List.mem_reverse.1 hy))
    rw [e1,e2,e3]
    constructor
    · rintro ⟨rfl, ns, hg, rfl⟩
      rw [gone_eq hg]
    intro h;injection h with a b;exact ⟨b,_,gone_is l wide ws ms,a⟩
theorem plan_Steps_ev {ws:List Want} {ms:List PMark} {l:List Item} (hs:smallW ws) (hl:l.length<10000) (hm:ms.length<10000):plan_Steps.f ws ms l=some (planR ws ms l):=by
 have hx:(smallW ws∧l.length<10000∧ms.length<10000)∧ ∃p:List PStep×Int,PlanIs ws (topR ws) ms l p.1 p.2∧ ∀q:List PStep×Int,PlanIs ws (topR ws) ms l q.1 q.2→q=p:=
  ⟨⟨hs,hl,hm⟩,planR ws ms l,(plan_is _ _).2 rfl,fun q hq=>(plan_is q.1 q.2).1 hq⟩
 unfold plan_Steps.f;rw [dif_pos hx];have:=hx.2.choose_spec.1
 rw [plan_is] at this;exact congrArg some this
def creS (w:Want):PStep:=⟨1,w.f0,w.f1,w.f2⟩
theorem wide_nil (ms:List PMark): ∀ys:List Want,wideGo [] ms false ys=some false
 |[]=>rfl
 |y::ys=>wide_nil ms ys
theorem plan_fresh {ws:List Want} (h:checkR ws=0):planR ws [] []=((topR ws).map creS,0):=by
 unfold planR;rw [if_pos h,wide_nil];dsimp only
 have e1:(topR ws).flatMap (raiseS [] false)=(topR ws).map creS:=by
  rw [List.map_eq_flatMap]
  rfl
 have e2:(topR ws).flatMap (moveS [])=[]:=by
  rw [List.flatMap_eq_nil_iff];intro y _
  rfl
 have e3:(topR ws).reverse.flatMap (lowerS [] false)=[]:=by
  rw [List.flatMap_eq_nil_iff];intro y _;exact if_neg (by rw [show upV [] false y=y.f2 from rfl,neV_iff];simp)
 rw [e1,e2,e3]
 show (_++_++_++List.map delS [],0)=_
 rw [List.map_nil,List.append_nil,List.append_nil,List.append_nil]
def exS:List Want:=[⟨⟨#[97]⟩,⟨#[]⟩,⟨0,0,0⟩⟩]
theorem exS_small:smallW exS:=by
 intro w hw;unfold exS at hw;simp only [List.mem_cons,List.not_mem_nil,or_false] at hw;subst hw;exact ⟨by decide,by decide⟩
theorem awake18:law18_awake.f=some true:=by
 have h1:=(plan_Steps_ev (ws:=exS) (ms:=[]) (l:=[]) exS_small (by decide) (by decide)).trans (congrArg some (plan_fresh (ws:=exS) (by decide)));have h2:=(plan_Steps_ev (ws:=[]) (ms:=[]) (l:=[]) nil_small (by decide) (by decide)).trans (congrArg some (plan_fresh (ws:=[]) (by decide)));rw [show topR exS=exS from by kernel_rfl] at h1;rw [show topR []=[] from rfl] at h2;unfold law18_awake.f;rw [show exS=[⟨⟨#[97]⟩,⟨#[]⟩,⟨0,0,0⟩⟩] from rfl] at h1;rw [h1,h2];refine Eq.trans (b:=some true) ?_ rfl
 kernel_rfl
theorem awake18_ev:Ev (fun _=>(law18_awake.f).bind fun t=>some t) true:=by
 rw [awake18];exact Ev.const rfl
def zzN:ByteArray:=⟨#[122,122]⟩
def markI (x:Item):PMark:=⟨x.f0,x.f1,x.f2,x.f5⟩
structure LiveM (l:List Item) (m:List PMark):Prop where
 len:m.length≤l.length+1
 nodup:(m.map (·.f0)).Nodup
 mem: ∀x∈m,x.f0=zzN∨ ∃y∈l,x=markI y
theorem live_l0N {l:List Item} (hl:l.length≤1000) (hn:(l.map (·.f0)).Nodup) (hz: ∀x∈l,x.f0≠zzN) (a:Int): ∀(d i:Nat) (m0:List PMark),l.length - i=d→i≤l.length→m0.length≤i→(m0.map (·.f0)).Nodup→(∀x∈m0,∃y∈l.take i,x=markI y)→ ∃m,LiveM l m∧Ev (fun k=>law18_Live.l0 k a l m0 (i:Int)) (m,l)
  | 0, i, m0, hd, hi, hm, h1, h2 => by
    obtain rfl:i=l.length:=by omega
    rw [List.take_length] at h2;by_cases c:Int.tmod a 5=0;rotate_left
    · exact ⟨m0,⟨by omega,h1,fun x hx=> .inr (h2 x hx)⟩,Ev.step (fun k=>law18_Live.l0.eq_2 (k:=k) ..) (Ev.congr (fun k=>by rw [if_neg (by omega),if_neg c]) (Ev.now _))⟩
    refine ⟨m0++ [⟨⟨#[122,122]⟩,⟨#[]⟩,⟨0,0,0⟩,1⟩],⟨by rw [List.length_append,List.length_singleton];omega, ?_, ?_⟩,Ev.step (fun k=>law18_Live.l0.eq_2 (k:=k) ..) (Ev.congr (fun k=>by rw [if_neg (by omega),if_pos c,if_pos (by omega)]) (Ev.now _))⟩;rotate_left
    · intro x hx
      rcases List.mem_append.1 hx with hx|hx
      · exact .inr (h2 x hx)
      rw [List.mem_singleton] at hx
      exact .inl (by rw [hx];rfl)
    rw [List.map_append,List.map_cons,List.map_nil,List.nodup_append];refine ⟨h1,by simp,fun x hx y hy=> ?_⟩;obtain ⟨q,hq,rfl⟩:=List.mem_map.1 hx;obtain ⟨z,hz1,e⟩:=h2 q hq;rw [List.mem_singleton] at hy;rw [hy,e];exact hz z hz1
  | d + 1, i, m0, hd, hi, hm, h1, h2 => by
    have hlt:i<l.length:=by omega
    have e1:wrap64 ((i:Int)+1)=((i+1:Nat):Int):=by rw [w64 (by omega) (by omega)];rfl
    have ht: ∀x∈m0,∃y∈l.take (i+1),x=markI y:=fun x hx=>by
      obtain ⟨y,hy,e⟩:=h2 x hx;exact ⟨y,by rw [List.take_succ_eq_append_getElem hlt];exact List.mem_append_left _ hy,e⟩
    by_cases c:Int.tmod (wrap64 ((i:Int)+wrap64 a)) 4>0;rotate_left
    · obtain ⟨m, k1, k2⟩ := live_l0N hl hn hz a d (i + 1) m0 (by omega) (by omega) (by omega) h1 ht
      exact ⟨m,k1,Ev.step (fun k=>law18_Live.l0.eq_2 (k:=k) ..) (Ev.congr (fun k=>by rw [if_pos (by omega),if_neg c,e1]) k2)⟩
    obtain ⟨m,k1,k2⟩:=live_l0N hl hn hz a d (i+1) (m0++ [markI l[i]]) (by omega) (by omega) (by rw [List.length_append,List.length_singleton];omega) (by
      rw [List.map_append,List.map_cons,List.map_nil,List.nodup_append];refine ⟨h1,by simp,fun x hx y hy=> ?_⟩;obtain ⟨q,hq,rfl⟩:=List.mem_map.1 hx;obtain ⟨z,hz1,e⟩:=h2 q hq;rw [List.mem_singleton] at hy;rw [hy,e];intro q;have q:z.f0=l[i].f0:=q;rw [←List.take_append_drop i l,List.drop_eq_getElem_cons hlt,List.map_append,List.nodup_append] at hn;refine hn.2.2 z.f0 (List.mem_map_of_mem hz1) l[i].f0 ?_ q;rw [List.map_cons];exact List.mem_cons_self) (fun x hx=>by
      rcases List.mem_append.1 hx with hx|hx
      · exact ht x hx
      rw [List.mem_singleton] at hx;exact ⟨l[i],by rw [List.take_succ_eq_append_getElem hlt];exact List.mem_append_right _ (List.mem_singleton.2 rfl),hx⟩)
    refine ⟨m,k1,Ev.step (fun k=>law18_Live.l0.eq_2 (k:=k) ..) (Ev.congr (fun k=>by rw [if_pos (by omega),if_pos c,if_pos (by omega),if_pos (by omega),e1,rd_itemN l hlt];rfl) k2)⟩
theorem liveM_ev {ns:List Int} {l:List Item} (hev:Ev (fun k=>law12_Make.f k ns) l) (M:MadeP l) (a:Int): ∃m,LiveM l m∧Ev (fun k=>law18_Live.f k ns a) (m,l):=by
 have hlen:=M.len
 obtain ⟨m,h1,h2⟩:=live_l0N (l:=l) (by omega) M.right.nodup (fun x hx e=>by
  obtain ⟨c,_,_,h⟩:=M.name x hx;rw [e] at h;have:=congrArg ByteArray.size h
  rw [show (one c).size=1 from strOfNums_size _] at this;exact absurd this (by decide)) a l.length 0 [] (by omega) (by omega) (by simp) (by simp) (by simp)
 refine ⟨m,h1, ?_⟩;unfold law18_Live.f;exact Ev.bind hev h2
theorem pn_u8 {x:Int} (h:(Lit.int .u8 x).wf=true):0≤x∧x≤255:=by
 simp only [Lit.wf,Bool.and_eq_true,decide_eq_true_eq] at h;obtain ⟨h1,h2⟩:=h;exact ⟨h1,h2⟩
theorem pn_stepN (s:List PStep) {i:Nat} (h:i<s.length):rd_T76 s (i:Int)=s[i]:=by
 show s.getD (i:Int).toNat _=_
 rw [Int.toNat_natCast,List.getD_eq_getElem?_getD,List.getElem?_eq_getElem h,Option.getD_some]
section
variable {m:List PMark} {l:List Item} {s:List PStep} {ns:List ByteArray}
def cntM (m:List PMark) (n:ByteArray):Nat:=(m.filter (fun x=>decide (x.f0=n))).length
theorem cntM_one {m:List PMark} (hn:(m.map (·.f0)).Nodup) {n:ByteArray} (h:n∈m.map (·.f0)):cntM m n=1:=by
  unfold cntM
  induction m with
  |nil=>cases h
  | cons x m ih =>
    rw [List.map_cons,List.nodup_cons] at hn;rw [List.map_cons,List.mem_cons] at h;by_cases c:x.f0=n;rotate_left
    · rw [List.filter_cons_of_neg (by simpa using c)]
      exact ih hn.2 (h.resolve_left (fun q=>c q.symm))
    rw [List.filter_cons_of_pos (by simpa using c),List.length_cons]
    have:m.filter (fun x=>decide (x.f0=n))=[]:=by
      rw [List.filter_eq_nil_iff];intro y hy q;have q:y.f0=n:=by simpa using q
      exact hn.1 (by rw [c,←q];exact List.mem_map_of_mem hy)
    rw [this]
    rfl
theorem pnA (c X:Nat):c+1+X=c+(X+1):=by omega
theorem pn_l1 {j:Nat} (hj:j<s.length) (hm:m.length≤1000) {r:Bool} (hr:Ev (fun k=>law18_PlanNone.l1 k m l s (j:Int) ((cntM m s[j].f1:Nat):Int) (m.length:Int)) r): ∀(d i c:Nat),m.length - i=d→i≤m.length→c≤i→Aside0 (c+((m.drop i).filter (fun x=>decide (x.f0=s[j].f1))).length=cntM m s[j].f1)→Ev (fun k=>law18_PlanNone.l1 k m l s (j:Int) (c:Int) (i:Int)) r
  | 0, i, c, hd, hi, hc, h => by
    obtain rfl:i=m.length:=by omega
    have h:=h.out;rw [List.drop_length] at h;have h:c=cntM m s[j].f1:=by simpa using h
    rw [h];exact hr
  | d + 1, i, c, hd, hi, hc, h => by
    have hlt:i<m.length:=by omega
    have e1:wrap64 ((i:Int)+1)=((i+1:Nat):Int):=by rw [w64 (by omega) (by omega)];rfl
    have e2:wrap64 ((c:Int)+1)=((c+1:Nat):Int):=by rw [w64 (by omega) (by omega)];rfl
    refine Ev.step (fun k=>law18_PlanNone.l1.eq_2 (k:=k) ..) (Ev.congr (fun k=>by rw [if_pos (by omega),if_pos (by omega),if_pos (by omega),if_pos (by omega),rd_pmarkN m hlt,pn_stepN s hj,e1,e2]) ?_);by_cases q:m[i].f0=s[j].f1
    · have h2:Aside0 (c+1+((m.drop (i+1)).filter (fun x=>decide (x.f0=s[j].f1))).length=cntM m s[j].f1):=by
        have h:=h.out;rw [List.drop_eq_getElem_cons hlt,List.filter_cons_of_pos (by simpa using q),List.length_cons] at h;exact ⟨(pnA _ _).trans h⟩
      exact Ev.congr (fun k=>if_pos (by rw [q])) (pn_l1 hj hm hr d (i+1) (c+1) (by omega) (by omega) (by omega) h2)
    have h:Aside0 (c+((m.drop (i+1)).filter (fun x=>decide (x.f0=s[j].f1))).length=cntM m s[j].f1):=by
      have h:=h.out;rw [List.drop_eq_getElem_cons hlt,List.filter_cons_of_neg (by simpa using q)] at h;exact ⟨h⟩
    exact Ev.congr (fun k=>if_neg (fun w=>q (nm_inj.1 w))) (pn_l1 hj hm hr d (i+1) c (by omega) (by omega) (by omega) h)
theorem pnD (n:ByteArray):(!((delS n).f0==4)||(!((delS n).f2.toList==[])||(!((delS n).f3.f0==0)||(!((delS n).f3.f1==0)|| !((delS n).f3.f2==0)))))=false:=by
 rw [show (delS n).f2.toList=[] from by show ByteArray.toList ⟨#[]⟩=[];rw [ByteArray.toList_eq]]
 rfl
theorem pn_l0 (hs:s=ns.map delS) (hl:l.length<1000000) (hm:m.length≤1000) (hsl:s.length≤1000) (hn:(m.map (·.f0)).Nodup) (hmem: ∀n∈ns,n∈m.map (·.f0)) (hp:ns.Pairwise (fun a b=>befG l a b=false)): ∀(d j:Nat),s.length - j=d→j≤s.length→Ev (fun k=>law18_PlanNone.l0 k m l s (j:Int)) true
  | 0, j, hd, hj => by
    obtain rfl:j=s.length:=by omega
    exact Ev.step (fun k=>law18_PlanNone.l0.eq_2 (k:=k) ..) (Ev.congr (fun k=>if_neg (by omega)) awake18_ev)
  | d + 1, j, hd, hj => by
    have hlt:j<s.length:=by omega
    have hnl:j<ns.length:=by rw [hs,List.length_map] at hlt;exact hlt
    have e1:wrap64 ((j:Int)+1)=((j+1:Nat):Int):=by rw [w64 (by omega) (by omega)];rfl
    have next:=pn_l0 hs hl hm hsl hn hmem hp d (j+1) (by omega) (by omega);have g: ∀(i:Nat) (h:i<s.length) (h':i<ns.length),s[i]=delS ns[i]:=fun i h h'=>by subst hs;rw [List.getElem_map]
    have hj0:=g j hlt hnl;have hc:cntM m s[j].f1=1:=cntM_one hn (by rw [hj0];exact hmem _ (List.getElem_mem hnl));refine Ev.step (fun k=>law18_PlanNone.l0.eq_2 (k:=k) ..) (Ev.congr (fun k=>if_pos (by omega)) ?_);refine pn_l1 hlt hm ?_ m.length 0 0 (by omega) (by omega) (by omega) ⟨by rw [List.drop_zero,Nat.zero_add];rfl⟩;rw [hc];clear hc;refine Ev.step (fun k=>law18_PlanNone.l1.eq_2 (k:=k) ..) ?_;rw [pn_stepN s hlt,e1,hj0];refine Ev.congr (fun k=>by rw [if_neg (by omega),if_pos (by omega),if_pos (by omega)]) ?_;refine Ev.congr (fun k=>(if_neg (show¬(_=true) from ?_)).trans (if_pos rfl)) ?_
    · rw [pnD]
      decide
    by_cases c:(j:Int)>0;rotate_left
    · exact Ev.congr (fun k=>if_neg c) next
    obtain ⟨i,rfl⟩: ∃i,j=i+1:=⟨j - 1,by omega⟩;have e3:wrap64 (((i+1:Nat):Int) - 1)=(i:Int):=by rw [w64 (by omega) (by omega)];omega
    rw [e3,pn_stepN s (show i<s.length by omega),g i (by omega) (by omega)];refine Ev.congr (fun k=>by rw [if_pos c,if_pos (by omega),if_pos (by omega)]) ?_;refine Ev.bind (r10_Up_ev l _ hl) (Ev.bind (r10_Up_ev l _ hl) ?_);refine Ev.congr (fun k=>if_neg ?_) next;have q:=List.pairwise_iff_getElem.1 hp i (i+1) (by omega) (by omega) (by omega);rw [←Bool.not_eq_true,befG_iff] at q;have q2: ¬depU l ns[i]<depU l ns[i+1]:=fun w=>q (.inl w)
    exact q2
end
theorem planNone_pure:law18_PlanNone.Pure:=by
  intro ns a2 _ _ hw _;unfold law18_PlanNone.f;refine Ev.rounds ?_;by_cases h:(ns.length:Int)>60
  · exact Ev.congr (fun k=>if_pos h) awake18_ev
  refine Ev.congr (fun k=>if_neg h) ?_;obtain ⟨l,hev,M⟩:=made_all (ns:=ns) (fun x hx=>pn_u8 (hw x hx)) (by omega);have hlen:=M.len;obtain ⟨m,L,lev⟩:=liveM_ev hev M a2;have hml:=L.len;refine Ev.bind lev ?_;dsimp only;rw [plan_Steps_ev (ws:=[]) nil_small (by omega) (by omega)];simp only [Option.bind_some]
  have hp:planR [] m l=((goesR [] m l).map delS,0):=by
    unfold planR;rw [if_pos (by decide)]
    rfl
  rw [hp];simp only [Option.bind_some];rw [show law1_Num.f 0=some 0 from rfl];simp only [Option.bind_some]
  have hg:goneN [] m=m.map (·.f0):=by
    unfold goneN;rw [List.filter_eq_self.2 (fun (x:PMark) _=>(rfl:(!isWant [] x.f0)=true))]
  have hperm:=goesGo_perm [] l m [];rw [List.nil_append,hg] at hperm;have hpl:=hperm.length_eq;rw [List.length_map] at hpl;have e:(((goesR [] m l).map delS).length:Int)=(m.length:Int):=by rw [List.length_map];exact congrArg Int.ofNat hpl
  refine Ev.congr (fun k=>if_pos trivial) ?_;rw [e,show ((m.length:Int) !=(m.length:Int))=false from by simp];refine Ev.step (fun k=>law18_PlanNone.j0.eq_2 (k:=k) ..) (Ev.congr (fun k=>if_neg (by decide)) ?_);exact pn_l0 (ns:=goesR [] m l) rfl (by omega) (by omega) (by omega) L.nodup (fun n hn=>hperm.mem_iff.1 hn) (goesGo_weak [] l m [] List.Pairwise.nil) _ 0 rfl (by omega)
end Go.Proofs.Ytahidkjncljkaaa.Print
namespace Go.Proofs.Ytahidkjncljkaaa.Pure
open Go.Proofs.Ytahidkjncljkaaa.Print
theorem PlanNone:law18_PlanNone.Pure:=planNone_pure
end Go.Proofs.Ytahidkjncljkaaa.Pure

namespace Go.Proofs.Ytahidkjncljkaaa.Head
def signs:List Char:=(List.map Char.ofNat [104,97,114,110,101,115,115,32,52,48,100,98,98,98,100,57,102,99,56,49,51,57,52,102,98,101,100,54,48,53,102,48,101,50,51,100,52,101,50,55,97,52,48,52,98,97,49,55,57,48,56,57,54,99,56,100,54,100,100,54,56,102,97,52,102,101,49,48,50,99,55,57,32,99,117,116,32,97,116,32,100,111,111,114,107,101,101,112,101,114,47,100,111,111,114,107,101,101,112,101,114,108,97,119,49,49,46,87,97,110,116,65,108,108,32,100,111,111,114,107,101,101,112,101,114,47,100,111,111,114,107,101,101,112,101,114,108,97,119,49,49,46,87,97,110,116,77,97,100,101,32,100,111,111,114,107,101,101,112,101,114,47,100,111,111,114,107,101,101,112,101,114,108,97,119,49,49,46,87,97,110,116,84,111,112,32,100,111,111,114,107,101,101,112,101,114,47,100,111,111,114,107,101,101,112,101,114,108,97,119,49,49,46,87,97,110,116,67,105,114,99,108,101,32,100,111,111,114,107,101,101,112,101,114,47,100,111,111,114,107,101,101,112,101,114,108,97,119,49,49,46,87,97,110,116,83,117,109,115,32,100,111,111,114,107,101,101,112,101,114,47,100,111,111,114,107,101,101,112,101,114,108,97,119,49,57,46,84,114,105,97,108,67,117,116,115,32,100,111,111,114,107,101,101,112,101,114,47,100,111,111,114,107,101,101,112,101,114,108,97,119,49,56,46,80,108,97,110,65,108,108,32,100,111,111,114,107,101,101,112,101,114,47,100,111,111,114,107,101,101,112,101,114,108,97,119,49,56,46,80,108,97,110,77,97,100,101,32,100,111,111,114,107,101,101,112,101,114,47,100,111,111,114,107,101,101,112,101,114,108,97,119,49,56,46,80,108,97,110,76,101,97,100,115,32,100,111,111,114,107,101,101,112,101,114,47,100,111,111,114,107,101,101,112,101,114,108,97,119,49,56,46,80,108,97,110,69,109,112,116,121,32,100,111,111,114,107,101,101,112,101,114,47,100,111,111,114,107,101,101,112,101,114,108,97,119,49,56,46,80,108,97,110,79,114,100,101,114,32,100,111,111,114,107,101,101,112,101,114,47,100,111,111,114,107,101,101,112,101,114,108,97,119,49,56,46,80,108,97,110,70,114,101,115,104,32,100,111,111,114,107,101,101,112,101,114,47,100,111,111,114,107,101,101,112,101,114,108,97,119,49,56,46,80,108,97,110,78,111,110,101,32,100,111,111,114,107,101,101,112,101,114,47,100,111,111,114,107,101,101,112,101,114,108,97,119,49,56,46,80,108,97,110,67,108,97,115,104,32,100,111,111,114,107,101,101,112,101,114,47,100,111,111,114,107,101,101,112,101,114,108,97,119,49,56,46,80,108,97,110,87,105,100,101,32,100,111,111,114,107,101,101,112,101,114,47,100,111,111,114,107,101,101,112,101,114,108,97,119,50,51,46,65,112,112,108,121,65,108,108,32,100,111,111,114,107,101,101,112,101,114,47,100,111,111,114,107,101,101,112,101,114,108,97,119,50,51,46,65,112,112,108,121,77,97,100,101,32,100,111,111,114,107,101,101,112,101,114,47,100,111,111,114,107,101,101,112,101,114,108,97,119,50,51,46,65,112,112,108,121,65,103,97,105,110,32,100,111,111,114,107,101,101,112,101,114,47,100,111,111,114,107,101,101,112,101,114,108,97,119,50,51,46,65,112,112,108,121,69,110,100,115])
set_option maxRecDepth 100000 in
theorem word:Try.prog.initOrder=String.ofList signs:=by kernel_rfl
theorem list:Try.prog.initOrder.toList=signs:=by rw [word,String.toList_ofList]
theorem words_app: ∀(w r:List Char),(∀c∈w,c≠Char.ofNat 32)→wordsSigns (w++Char.ofNat 32::r)=w::wordsSigns r
  |[],r,_=>rfl
  | c :: w, r, h => by
    have hc:c≠Char.ofNat 32:=h c (by simp);have ih:=words_app w r (fun d hd=>h d (by simp [hd]))
    show wordsSigns (c::(w++Char.ofNat 32::r))=_
    rw [wordsSigns.eq_3 _ _ (fun q=>hc q),ih]
def w1:List Char:=[Char.ofNat 104,Char.ofNat 97,Char.ofNat 114,Char.ofNat 110,Char.ofNat 101,Char.ofNat 115,Char.ofNat 115]
def w2:List Char:=(List.map Char.ofNat [52,48,100,98,98,98,100,57,102,99,56,49,51,57,52,102,98,101,100,54,48,53,102,48,101,50,51,100,52,101,50,55,97,52,48,52,98,97,49,55,57,48,56,57,54,99,56,100,54,100,100,54,56,102,97,52,102,101,49,48,50,99,55,57])
def w3:List Char:=[Char.ofNat 99,Char.ofNat 117,Char.ofNat 116]
def rest:List Char:=(List.map Char.ofNat [97,116,32,100,111,111,114,107,101,101,112,101,114,47,100,111,111,114,107,101,101,112,101,114,108,97,119,49,49,46,87,97,110,116,65,108,108,32,100,111,111,114,107,101,101,112,101,114,47,100,111,111,114,107,101,101,112,101,114,108,97,119,49,49,46,87,97,110,116,77,97,100,101,32,100,111,111,114,107,101,101,112,101,114,47,100,111,111,114,107,101,101,112,101,114,108,97,119,49,49,46,87,97,110,116,84,111,112,32,100,111,111,114,107,101,101,112,101,114,47,100,111,111,114,107,101,101,112,101,114,108,97,119,49,49,46,87,97,110,116,67,105,114,99,108,101,32,100,111,111,114,107,101,101,112,101,114,47,100,111,111,114,107,101,101,112,101,114,108,97,119,49,49,46,87,97,110,116,83,117,109,115,32,100,111,111,114,107,101,101,112,101,114,47,100,111,111,114,107,101,101,112,101,114,108,97,119,49,57,46,84,114,105,97,108,67,117,116,115,32,100,111,111,114,107,101,101,112,101,114,47,100,111,111,114,107,101,101,112,101,114,108,97,119,49,56,46,80,108,97,110,65,108,108,32,100,111,111,114,107,101,101,112,101,114,47,100,111,111,114,107,101,101,112,101,114,108,97,119,49,56,46,80,108,97,110,77,97,100,101,32,100,111,111,114,107,101,101,112,101,114,47,100,111,111,114,107,101,101,112,101,114,108,97,119,49,56,46,80,108,97,110,76,101,97,100,115,32,100,111,111,114,107,101,101,112,101,114,47,100,111,111,114,107,101,101,112,101,114,108,97,119,49,56,46,80,108,97,110,69,109,112,116,121,32,100,111,111,114,107,101,101,112,101,114,47,100,111,111,114,107,101,101,112,101,114,108,97,119,49,56,46,80,108,97,110,79,114,100,101,114,32,100,111,111,114,107,101,101,112,101,114,47,100,111,111,114,107,101,101,112,101,114,108,97,119,49,56,46,80,108,97,110,70,114,101,115,104,32,100,111,111,114,107,101,101,112,101,114,47,100,111,111,114,107,101,101,112,101,114,108,97,119,49,56,46,80,108,97,110,78,111,110,101,32,100,111,111,114,107,101,101,112,101,114,47,100,111,111,114,107,101,101,112,101,114,108,97,119,49,56,46,80,108,97,110,67,108,97,115,104,32,100,111,111,114,107,101,101,112,101,114,47,100,111,111,114,107,101,101,112,101,114,108,97,119,49,56,46,80,108,97,110,87,105,100,101,32,100,111,111,114,107,101,101,112,101,114,47,100,111,111,114,107,101,101,112,101,114,108,97,119,50,51,46,65,112,112,108,121,65,108,108,32,100,111,111,114,107,101,101,112,101,114,47,100,111,111,114,107,101,101,112,101,114,108,97,119,50,51,46,65,112,112,108,121,77,97,100,101,32,100,111,111,114,107,101,101,112,101,114,47,100,111,111,114,107,101,101,112,101,114,108,97,119,50,51,46,65,112,112,108,121,65,103,97,105,110,32,100,111,111,114,107,101,101,112,101,114,47,100,111,111,114,107,101,101,112,101,114,108,97,119,50,51,46,65,112,112,108,121,69,110,100,115])
theorem parts:signs=w1++Char.ofNat 32::(w2++Char.ofNat 32::(w3++Char.ofNat 32::rest)):=by kernel_rfl
theorem behind: ∃r,behindMainWord (wordsSigns Try.prog.initOrder.toList)=w3::r:=by
 refine ⟨wordsSigns rest, ?_⟩;rw [list,parts,words_app w1 _ (by decide),words_app w2 _ (by decide),words_app w3 _ (by decide)];generalize wordsSigns rest=r
 rfl
theorem strip (r:List (List Char)):stripLifts liftWords (w3::r)=([],w3::r):=by kernel_rfl
theorem not_carried (r:List (List Char)):((w3::r).head?==some "carried".toList)=false:=by kernel_rfl
theorem is_cut (r:List (List Char)):((w3::r).head?==some "cut".toList)=true:=by kernel_rfl
theorem not_gc:(w3== "gc".toList||w3== "spec".toList)=false:=by kernel_rfl
theorem cut_:(w3== "cut".toList)=true:=by kernel_rfl
theorem lifts_of {P:Program} {r:List (List Char)} (h:behindMainWord (wordsSigns P.initOrder.toList)=w3::r):P.liftsFinal=false:=by
 unfold Program.liftsFinal Program.headLifts;simp only [h,strip,not_carried,is_cut,if_true,Bool.false_and,Bool.false_or,List.contains_nil]
theorem make_of {P:Program} {r:List (List Char)} (h:behindMainWord (wordsSigns P.initOrder.toList)=w3::r):P.make=some .cut:=by
 unfold Program.make;simp only [h,not_gc,cut_,Bool.true_or,if_true,Bool.false_eq_true,if_false]
theorem lifts:Try.prog.liftsFinal=false:=by obtain ⟨r,h⟩:=behind;exact lifts_of h
theorem make:Try.prog.make=some .cut:=by obtain ⟨r,h⟩:=behind;exact make_of h
theorem later:Try.prog.laysLater=false:=by kernel_rfl
theorem reflects:Try.prog.bearsReflect=false:=by kernel_rfl
theorem door:Try.prog.doorFits []=true:=by kernel_rfl
theorem may_of {P:Program} {r:List (List Char)} (h:behindMainWord (wordsSigns P.initOrder.toList)=w3::r) (h1:P.laysLater=false) (h2:P.bearsReflect=false) (h3:P.doorFits []=true):P.mayEnter=true:=by
 unfold Program.mayEnter;simp only [h,strip,is_cut,h1,h2,h3,List.contains_nil,Bool.not_false,Bool.or_true,Bool.and_true,Bool.and_self]
theorem mayEnter:Try.prog.mayEnter=true:=by obtain ⟨r,h⟩:=behind;exact may_of h later reflects door
theorem stopsHeard:Try.prog.stopsHeard=true:=by kernel_rfl
theorem laidOut:laidOutB Try.prog=true:=by kernel_rfl
theorem mapsRowed:mapsRowed Try.prog=true:=by kernel_rfl
theorem stops:(Try.prog.stops==[])=true:=by kernel_rfl
theorem stopKnobs:(Try.prog.stopKnobs==[])=true:=by kernel_rfl
end Go.Proofs.Ytahidkjncljkaaa.Head

-- PRINTED WORDS (module Derived/Print/Sized.lean): go-gate-2's, for the rows of laws over slices: an AI agent of Go's test side, Tue Nov 17 2026; no person has read it. Lean checks it.
namespace Go.Proofs.YtahidkjncljkaaaW.PrintWords
open Go.ChangeShapes Go.WideShapes
theorem sized_ints {H:Type} {enc:TypeId×Value→H} {P:Program} {W:World} {base:Nat} {spare:Nat→Bool} {held:Bool} {t e:TypeId} {k:IntKind} {a:Option Addr} {len cap:Nat} {d:DataW H} {ps:List MemPlace} {ts:List TypeId} {ds:List (DataW H)} {j:Nat}
    (hsz:(DataW.weightsEach P ts ds).all (· ≤reachBytes)=true) (ht:ts[j]?=some t) (hd:ds[j]?=some d) (hu:P.underlying t=some (.slice e)) (he:P.underlying e=some (.int k)) (hc:P.cellsOf e=1) {B:Nat} (hB:P.bytesOf e=B)
    (h:DataW.Trod enc P W base spare held t (.slice a len cap) d ps):len*B≤140737488351232:=by
  obtain ⟨fuel,hf⟩:=h
  rcases open_ints hu he hc hf with ⟨hcs,_⟩|⟨x,l,c,zs,hcs,_,hl,_,hz,hx,_,_⟩
  · simp [Value.cells] at hcs
    obtain ⟨rfl,rfl,rfl⟩:=hcs
    simp
  · simp [Value.cells] at hcs
    obtain ⟨rfl,rfl,rfl⟩:=hcs
    obtain ⟨hx,_⟩:=Prod.mk.inj hx
    subst hx
    have z:=sized_slice hsz ht hd hu
    rw [hB] at z
    have hl2:len≤zs.length:=by
      rw [hz]
      split
      · exact hl
      · exact Nat.le_refl _
    have h1:(lits (H:=H) k (zs.take len)).length+(lits (H:=H) k (zs.drop len)).length=zs.length:=by
      simp [lits]
      omega
    rw [h1] at z
    exact Nat.le_trans (Nat.mul_le_mul_right _ hl2) z
end Go.Proofs.YtahidkjncljkaaaW.PrintWords
