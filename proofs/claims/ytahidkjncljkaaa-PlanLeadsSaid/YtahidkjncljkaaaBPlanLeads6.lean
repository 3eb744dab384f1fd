/- PlanLeads: a part -/
import Derived.WalkSpells
import Derived.Laws.Cover1
import Derived.Shelf.Abstract
import Derived.Lib.SliceRun
import Derived.Lib.JoinLaws
import Derived.Lib.AppendZerosOnto
import Derived.Lib.Overlaps
import Derived.Laws.Externs
import Derived.Laws.IdiomCopy
import Derived.Laws.NewBlocks
import Derived.Deep.RegionLaw
import Derived.Shelf.RegionOpenPlain
import Derived.Test.YtahidkjncljkaaaRows
import Derived.WalkKit
import Derived.ProofKit
import Derived.OpenShut
import Derived.JoinedOf
import Derived.SizedLaws
import Derived.ChangeSlices
import Derived.Test.YtahidkjncljkaaaBPlanLeads0
import Derived.Test.YtahidkjncljkaaaBPlanLeads1
import Derived.Test.YtahidkjncljkaaaBPlanLeads3
import Derived.Test.YtahidkjncljkaaaBPlanLeads4
import Derived.Test.YtahidkjncljkaaaBPlanLeads5
set_option linter.unusedVariables false
set_option linter.unusedSimpArgs false
namespace Go.Proofs.Ytahidkjncljkaaa.Print
open Go.RowKit Go.Proofs.YtahidkjncljkaaaW.PrintWords Go.Proofs.YtahidkjncljkaaaW.PrintLast Go.Proofs.YtahidkjncljkaaaW.PrintMore
attribute [local go_sem] max2_int min2_int max_two min_two max_three min_three max_four min_four

attribute [local go_sem high] eqA37
mutual
noncomputable def law18_PlanLeads.j0:Nat→List Int→List Int→Bool→Option (Bool)
 |0,_,_,_=>none
 |k+1,x0,x1,x22=>if x22=true then ((law18_awake.f).bind fun t1=>(some t1)) else ((law12_Make.f k x0).bind fun t2=>((law18_Empty.f k t2).bind fun t5=>((law11_Make.f k x1 false).bind fun t8=>((law18_Loose.f k t5).bind fun t11=>((plan_Steps.f t8 t11 t5).bind fun bt14=>((law1_Num.f bt14.2).bind fun t18=>(if t18=0 then (law18_PlanLeads.l0 k t5 t8 bt14.1 0) else (none))))))))
noncomputable def law18_PlanLeads.l0:Nat→List (S79)→List (S39)→List (S76)→Int→Option (Bool)
 |0,_,_,_,_=>none
 |k+1,x5,x6,x7,x9=>if x9<(x7.length:Int) then (if 0≤x9 then ((r10_Do.f k x5 ((rd_T76 x7 x9).f0) ((rd_T76 x7 x9).f1) ((rd_T76 x7 x9).f2) ((rd_T76 x7 x9).f3.f0) ((rd_T76 x7 x9).f3.f1) ((rd_T76 x7 x9).f3.f2) (-1)).bind fun bt20=>(if bt20.2=0 then (law18_PlanLeads.l0 k bt20.1 x6 x7 (wrap64 (x9+1))) else (none))) else (none)) else (if (x5.length:Int)=(x6.length:Int) then (law18_PlanLeads.l1 k x5 x6 0) else (none))
noncomputable def law18_PlanLeads.l1:Nat→List (S79)→List (S39)→Int→Option (Bool)
 |0,_,_,_=>none
 |k+1,x5,x6,x11=>if x11<(x6.length:Int) then (if 0≤x11 then ((r10_Find.f k x5 ((rd_T39 x6 x11).f0)).bind fun t26=>(if t26<0 then (none) else (if 0≤t26 then (if t26<(x5.length:Int) then (if ((rd_T79 x5 t26).f1).toList=((rd_T39 x6 x11).f1).toList then (if (!(((rd_T79 x5 t26).f2.f0)==((rd_T39 x6 x11).f2.f0))||(!(((rd_T79 x5 t26).f2.f1)==((rd_T39 x6 x11).f2.f1))||(!(((rd_T79 x5 t26).f2.f2)==((rd_T39 x6 x11).f2.f2)))))=true then (none) else (law18_PlanLeads.l1 k x5 x6 (wrap64 (x11+1)))) else (none)) else (none)) else (none)))) else (none)) else ((law18_Loose.f k x5).bind fun t31=>((plan_Steps.f x6 t31 x5).bind fun bt34=>((law1_Num.f bt34.2).bind fun t38=>(if t38=0 then (if (bt34.1.length:Int)=0 then ((law18_awake.f).bind fun t39=>(some t39)) else (none)) else (none)))))
end
noncomputable def law18_PlanLeads.f (k:Nat) (l0:List Int) (l1:List Int):Option (Bool):=if (l0.length:Int)>60 then (law18_PlanLeads.j0 k l0 l1 true) else (law18_PlanLeads.j0 k l0 l1 (decide ((l1.length:Int)>60)))
theorem law18_PlanLeads.mono_l: ∀k,(∀y0 y1 y2,LeO (law18_PlanLeads.j0 k y0 y1 y2) (law18_PlanLeads.j0 (k+1) y0 y1 y2))∧(∀y0 y1 y2 y3,LeO (law18_PlanLeads.l0 k y0 y1 y2 y3) (law18_PlanLeads.l0 (k+1) y0 y1 y2 y3))∧(∀y0 y1 y2,LeO (law18_PlanLeads.l1 k y0 y1 y2) (law18_PlanLeads.l1 (k+1) y0 y1 y2))
 |0=>⟨fun _ _ _ r h=>by simp [law18_PlanLeads.j0] at h,fun _ _ _ _ r h=>by simp [law18_PlanLeads.l0] at h,fun _ _ _ r h=>by simp [law18_PlanLeads.l1] at h⟩
 |k+1=>by
  obtain ⟨ih0,ih1,ih2⟩:=law18_PlanLeads.mono_l k;refine ⟨?_, ?_, ?_⟩<;>(intros;first|unfold law18_PlanLeads.j0|unfold law18_PlanLeads.l0|unfold law18_PlanLeads.l1)<;>repeat' with_reducible first|apply ih0|apply ih1|apply ih2|apply law11_Make.mono|apply law12_Make.mono|apply law18_Empty.mono|apply law18_Loose.mono|apply r10_Do.mono|apply r10_Find.mono|apply LeO.refl|apply LeO.none|apply LeO.ite|refine LeO.bind ?_ fun _=> ?_
theorem law18_PlanLeads.mono: ∀a0 a1 k,LeO (law18_PlanLeads.f k a0 a1) (law18_PlanLeads.f (k+1) a0 a1):=by
 intro a0 a1 k;obtain ⟨ih0,ih1,ih2⟩:=law18_PlanLeads.mono_l k;unfold law18_PlanLeads.f
 repeat' with_reducible first|apply ih0|apply ih1|apply ih2|apply law11_Make.mono|apply law12_Make.mono|apply law18_Empty.mono|apply law18_Loose.mono|apply r10_Do.mono|apply r10_Find.mono|apply LeO.refl|apply LeO.none|apply LeO.ite|refine LeO.bind ?_ fun _=> ?_
set_option maxHeartbeats 80000000 in
set_option maxRecDepth 100000 in
theorem law18_PlanLeads.calls (k:Nat) (A0:Option Addr) (c0:Nat) (l0:List Int) (A1:Option Addr) (c1:Nat) (l1:List Int) (r:Bool) (w:World) (hr0:Kd.C (Kd.int .u8) w A0 l0.length l0) (hc0:l0.length≤c0) (hr1:Kd.C (Kd.int .u8) w A1 l1.length l1) (hc1:l1.length≤c1) (h:law18_PlanLeads.f k l0 l1=some r):
  Calls Try.prog 11 #[.slice A0 l0.length c0, .slice A1 l1.length c1] w fun e w'=>e= .returned (.bool r)∧Below w.heap.size w w':=by
 have hu76:=Try.underlying76;have hu73:=Try.underlying73;have hu37:=Try.underlying37;have HR0:=Aside0.mk hr0;have HC0:=Aside0.mk hc0;clear hr0 hc0;have HR1:=Aside0.mk hr1;have HC1:=Aside0.mk hc1;clear hr1 hc1;have HB:=am_ (Below.refl w.heap.size w);have H:(if (l0.length:Int)>60 then (law18_PlanLeads.j0 k l0 l1 true) else (law18_PlanLeads.j0 k l0 l1 (decide ((l1.length:Int)>60))))=some r:=h;clear h;have HC3:=Aside0.mk H;clear H;go_enter Try.func11,Try.ntmps11;go_upto_region 1 with (fail)
 repeat (go_quiet (fail);go_upto_region 1 with (fail))
 go_cut [22] (fun v22 wc=> ∃(kq:Nat) (x22_2:Bool),v22= .bool x22_2∧Aside0 (law18_PlanLeads.j0 kq l0 l1 x22_2=some r)∧Aside0 (kq≤k)∧Aside0 (Below w.heap.size w wc))
 case first=>
  have H:=HC3.out;clear HC3;by_cases c4:(l0.length:Int)>60
  ·rw [if_pos c4] at H;have c4b0:decide (60<(l0.length:Int))=true:=decide_eq_true c4;have c4b1:decide (60<l0.length)=true:=decide_eq_true (by omega);clear c4;(first|rw [c4b0]|(simp only [i64_w,i32_w];rw [c4b0])|skip);have H':=Aside0.mk H;clear H;go_wp2
   repeat (go_quiet (fail);try go_wp2)
   go_meet
   case rel=>exact ⟨_,(true),rf_,H',⟨by first|omega|exact Nat.le_refl _⟩,⟨zl0_ HB⟩⟩
  rw [if_neg c4] at H;have c4b0:decide (60<(l0.length:Int))=false:=decide_eq_false c4;have c4b1:decide (60<l0.length)=false:=decide_eq_false (by omega);clear c4;(first|rw [c4b0]|(simp only [i64_w,i32_w];rw [c4b0])|skip);have H':=Aside0.mk H;clear H;go_wp2
  repeat (go_quiet (fail);try go_wp2)
  go_meet
  case rel=>exact ⟨_,(decide ((l1.length:Int)>60)),rf_,H',⟨by first|omega|exact Nat.le_refl _⟩,⟨zl0_ HB⟩⟩
 case rest=>
  clear HC3;obtain ⟨kq,x22_2,rfl,HA,HJ2,HB⟩:=hcut
  cases kq with
  |zero=>exact absurd HA.out (by simp [law18_PlanLeads.j0])
  |succ kj2=>
   have H:=HA.out;clear HA;simp only [law18_PlanLeads.j0] at H;by_cases c5:x22_2=true
   ·subst c5;rw [if_pos rfl] at H;replace H:=zbd_ H;obtain ⟨t1,A6,H⟩:=H;try dsimp only at H
    obtain rfl:=Option.some.inj H;go_wp2_with (first|(go_at_call 47;(with_reducible refine (law18_awake.calls t1 _ A6.out).mono ?_);rintro e w7 ⟨rfl,hb⟩;replace HB:=am_ (below_step (zl0_ HB) hb);(try clear hb)))
    repeat (go_quiet (first|(go_at_call 47;(with_reducible refine (law18_awake.calls t1 _ A6.out).mono ?_);rintro e w7 ⟨rfl,hb⟩;replace HB:=am_ (below_step (zl0_ HB) hb);(try clear hb)));try go_wp2_with (first|(go_at_call 47;(with_reducible refine (law18_awake.calls t1 _ A6.out).mono ?_);rintro e w7 ⟨rfl,hb⟩;replace HB:=am_ (below_step (zl0_ HB) hb);(try clear hb))))
    go_ret
    exact ⟨by first|rfl|(simp [errW_none,errW_some]<;>rfl)|(simp [*,errW_none,errW_some]<;>rfl),zl0_ HB⟩
   replace c5:=Bool.eq_false_iff.mpr c5;subst c5;rw [if_neg (show¬(false=true) by decide)] at H;replace H:=zbd_ H;obtain ⟨t2,A8,H⟩:=H;try dsimp only at H
   replace H:=zbd_ H;obtain ⟨t5,A9,H⟩:=H;try dsimp only at H
   replace H:=zbd_ H;obtain ⟨t8,A10,H⟩:=H;try dsimp only at H
   replace H:=zbd_ H;obtain ⟨t11,A11,H⟩:=H;try dsimp only at H
   replace H:=zbd_ H;obtain ⟨⟨t14,t15⟩,A12,H⟩:=H;try dsimp only at H
   replace H:=zbd_ H;obtain ⟨t18,A13,H⟩:=H;try dsimp only at H
   by_cases c14:t18=0;rotate_left
   ·rw [if_neg c14] at H;cases H
   rw [if_pos c14] at H;have c14b0:=beq_iff_eq.mpr c14;have c14b1:=bne_eq_false_iff_eq.mpr c14;clear c14;have H':=Aside0.mk H;clear H
   go_wp2_with (first|(go_at_call 38;(with_reducible refine (law12_Make.calls kj2 _ _ l0 t2 _ ?side1 ?side2 A8.out).mono ?_);(case side1=>exact zc_ (Kd.C_below HR0.out HB.out));(case side2=>exact HC0.out);rintro e w15 ⟨v3,rfl,ho0,hb⟩;have HO4:=am_ (Kd.R_lower ho0 (below_size (zl0_ HB)));replace HB:=am_ (below_step (zl0_ HB) hb);(try clear hb ho0);obtain ⟨Ao16,co16,eo16⟩:=Kd.R_slice HO4.out;subst eo16)|(go_at_call 37;(with_reducible refine (law18_Empty.calls kj2 _ _ t2 t5 _ ?side1 ?side2 A9.out).mono ?_);(case side1=>exact zc_ (Kd.R_reads' HO4.out).2.2);(case side2=>exact (Kd.R_reads' HO4.out).2.1);rintro e w17 ⟨v6,rfl,ho0,hb⟩;have HO7:=am_ (Kd.R_lower (Kd.R_new' ho0 (Kd.R_lt (zr_ HO4))) (below_size (zl0_ HB)));replace HO4:=am_ (Kd.R_elder' (zr_ HO4) (Kd.R_base ho0) hb);replace HB:=am_ (below_step (zl0_ HB) hb);(try clear hb ho0))|(go_at_call 32;(with_reducible refine (law11_Make.calls kj2 _ _ l1 false t8 _ ?side1 ?side2 A10.out).mono ?_);(case side1=>exact zc_ (Kd.C_below HR1.out HB.out));(case side2=>exact HC1.out);rintro e w18 ⟨v9,rfl,ho0,hb⟩;replace HO4:=ob_ HO4 hb;replace HO7:=ob_ HO7 hb;have HO10:=am_ (Kd.R_lower ho0 (below_size (zl0_ HB)));replace HB:=am_ (below_step (zl0_ HB) hb);(try clear hb ho0);obtain ⟨Ao19,co19,eo19⟩:=Kd.R_slice HO7.out;subst eo19)|(go_at_call 40;(with_reducible refine (law18_Loose.calls kj2 _ _ t5 t11 _ ?side1 ?side2 A11.out).mono ?_);(case side1=>exact zc_ (Kd.R_reads' HO7.out).2.2);(case side2=>exact (Kd.R_reads' HO7.out).2.1);rintro e w20 ⟨v12,rfl,ho0,hb⟩;replace HO4:=ob_ HO4 hb;replace HO7:=ob_ HO7 hb;replace HO10:=ob_ HO10 hb;have HO13:=am_ (Kd.R_lower ho0 (below_size (zl0_ HB)));replace HB:=am_ (below_step (zl0_ HB) hb);(try clear hb ho0);obtain ⟨Ao21,co21,eo21⟩:=Kd.R_slice HO10.out;subst eo21;obtain ⟨Ao22,co22,eo22⟩:=Kd.R_slice HO13.out;subst eo22)|(go_at_call 48;(with_reducible refine (plan_Steps.calls _ _ t8 _ _ t11 _ _ t5 t14 t15 _ ?side1 ?side2 ?side3 ?side4 ?side5 ?side6 A12.out).mono ?_);(case side1=>exact zc_ (Kd.R_reads' HO10.out).2.2);(case side2=>exact (Kd.R_reads' HO10.out).2.1);(case side3=>exact zc_ (Kd.R_reads' HO13.out).2.2);(case side4=>exact (Kd.R_reads' HO13.out).2.1);(case side5=>exact zc_ (Kd.R_reads' HO7.out).2.2);(case side6=>exact (Kd.R_reads' HO7.out).2.1);rintro e w23 ⟨v16,rfl,ho0,hb⟩;replace HO4:=ob_ HO4 hb;replace HO7:=ob_ HO7 hb;replace HO10:=ob_ HO10 hb;replace HO13:=ob_ HO13 hb;have HO17:=am_ (Kd.R_lower ho0 (below_size (zl0_ HB)));replace HB:=am_ (below_step (zl0_ HB) hb);(try clear hb ho0))|(go_at_call 25;(with_reducible refine (law1_Num.calls t15 t18 _ A13.out).mono ?_);rintro e w' ⟨rfl,⟨nd,rfl⟩⟩;(try first|exact ⟨rfl,_,World.drewN_drewN _ _ _⟩|exact ⟨rfl,_,Eq.trans (World.drewN_drewN _ _ _) (congrArg (World.drewN _) (Nat.add_assoc _ _ _))⟩)))
   repeat (go_quiet (first|(go_at_call 38;(with_reducible refine (law12_Make.calls kj2 _ _ l0 t2 _ ?side1 ?side2 A8.out).mono ?_);(case side1=>exact zc_ (Kd.C_below HR0.out HB.out));(case side2=>exact HC0.out);rintro e w15 ⟨v3,rfl,ho0,hb⟩;have HO4:=am_ (Kd.R_lower ho0 (below_size (zl0_ HB)));replace HB:=am_ (below_step (zl0_ HB) hb);(try clear hb ho0);obtain ⟨Ao16,co16,eo16⟩:=Kd.R_slice HO4.out;subst eo16)|(go_at_call 37;(with_reducible refine (law18_Empty.calls kj2 _ _ t2 t5 _ ?side1 ?side2 A9.out).mono ?_);(case side1=>exact zc_ (Kd.R_reads' HO4.out).2.2);(case side2=>exact (Kd.R_reads' HO4.out).2.1);rintro e w17 ⟨v6,rfl,ho0,hb⟩;have HO7:=am_ (Kd.R_lower (Kd.R_new' ho0 (Kd.R_lt (zr_ HO4))) (below_size (zl0_ HB)));replace HO4:=am_ (Kd.R_elder' (zr_ HO4) (Kd.R_base ho0) hb);replace HB:=am_ (below_step (zl0_ HB) hb);(try clear hb ho0))|(go_at_call 32;(with_reducible refine (law11_Make.calls kj2 _ _ l1 false t8 _ ?side1 ?side2 A10.out).mono ?_);(case side1=>exact zc_ (Kd.C_below HR1.out HB.out));(case side2=>exact HC1.out);rintro e w18 ⟨v9,rfl,ho0,hb⟩;replace HO4:=ob_ HO4 hb;replace HO7:=ob_ HO7 hb;have HO10:=am_ (Kd.R_lower ho0 (below_size (zl0_ HB)));replace HB:=am_ (below_step (zl0_ HB) hb);(try clear hb ho0);obtain ⟨Ao19,co19,eo19⟩:=Kd.R_slice HO7.out;subst eo19)|(go_at_call 40;(with_reducible refine (law18_Loose.calls kj2 _ _ t5 t11 _ ?side1 ?side2 A11.out).mono ?_);(case side1=>exact zc_ (Kd.R_reads' HO7.out).2.2);(case side2=>exact (Kd.R_reads' HO7.out).2.1);rintro e w20 ⟨v12,rfl,ho0,hb⟩;replace HO4:=ob_ HO4 hb;replace HO7:=ob_ HO7 hb;replace HO10:=ob_ HO10 hb;have HO13:=am_ (Kd.R_lower ho0 (below_size (zl0_ HB)));replace HB:=am_ (below_step (zl0_ HB) hb);(try clear hb ho0);obtain ⟨Ao21,co21,eo21⟩:=Kd.R_slice HO10.out;subst eo21;obtain ⟨Ao22,co22,eo22⟩:=Kd.R_slice HO13.out;subst eo22)|(go_at_call 48;(with_reducible refine (plan_Steps.calls _ _ t8 _ _ t11 _ _ t5 t14 t15 _ ?side1 ?side2 ?side3 ?side4 ?side5 ?side6 A12.out).mono ?_);(case side1=>exact zc_ (Kd.R_reads' HO10.out).2.2);(case side2=>exact (Kd.R_reads' HO10.out).2.1);(case side3=>exact zc_ (Kd.R_reads' HO13.out).2.2);(case side4=>exact (Kd.R_reads' HO13.out).2.1);(case side5=>exact zc_ (Kd.R_reads' HO7.out).2.2);(case side6=>exact (Kd.R_reads' HO7.out).2.1);rintro e w23 ⟨v16,rfl,ho0,hb⟩;replace HO4:=ob_ HO4 hb;replace HO7:=ob_ HO7 hb;replace HO10:=ob_ HO10 hb;replace HO13:=ob_ HO13 hb;have HO17:=am_ (Kd.R_lower ho0 (below_size (zl0_ HB)));replace HB:=am_ (below_step (zl0_ HB) hb);(try clear hb ho0))|(go_at_call 25;(with_reducible refine (law1_Num.calls t15 t18 _ A13.out).mono ?_);rintro e w' ⟨rfl,⟨nd,rfl⟩⟩;(try first|exact ⟨rfl,_,World.drewN_drewN _ _ _⟩|exact ⟨rfl,_,Eq.trans (World.drewN_drewN _ _ _) (congrArg (World.drewN _) (Nat.add_assoc _ _ _))⟩)));try go_wp2_with (first|(go_at_call 38;(with_reducible refine (law12_Make.calls kj2 _ _ l0 t2 _ ?side1 ?side2 A8.out).mono ?_);(case side1=>exact zc_ (Kd.C_below HR0.out HB.out));(case side2=>exact HC0.out);rintro e w15 ⟨v3,rfl,ho0,hb⟩;have HO4:=am_ (Kd.R_lower ho0 (below_size (zl0_ HB)));replace HB:=am_ (below_step (zl0_ HB) hb);(try clear hb ho0);obtain ⟨Ao16,co16,eo16⟩:=Kd.R_slice HO4.out;subst eo16)|(go_at_call 37;(with_reducible refine (law18_Empty.calls kj2 _ _ t2 t5 _ ?side1 ?side2 A9.out).mono ?_);(case side1=>exact zc_ (Kd.R_reads' HO4.out).2.2);(case side2=>exact (Kd.R_reads' HO4.out).2.1);rintro e w17 ⟨v6,rfl,ho0,hb⟩;have HO7:=am_ (Kd.R_lower (Kd.R_new' ho0 (Kd.R_lt (zr_ HO4))) (below_size (zl0_ HB)));replace HO4:=am_ (Kd.R_elder' (zr_ HO4) (Kd.R_base ho0) hb);replace HB:=am_ (below_step (zl0_ HB) hb);(try clear hb ho0))|(go_at_call 32;(with_reducible refine (law11_Make.calls kj2 _ _ l1 false t8 _ ?side1 ?side2 A10.out).mono ?_);(case side1=>exact zc_ (Kd.C_below HR1.out HB.out));(case side2=>exact HC1.out);rintro e w18 ⟨v9,rfl,ho0,hb⟩;replace HO4:=ob_ HO4 hb;replace HO7:=ob_ HO7 hb;have HO10:=am_ (Kd.R_lower ho0 (below_size (zl0_ HB)));replace HB:=am_ (below_step (zl0_ HB) hb);(try clear hb ho0);obtain ⟨Ao19,co19,eo19⟩:=Kd.R_slice HO7.out;subst eo19)|(go_at_call 40;(with_reducible refine (law18_Loose.calls kj2 _ _ t5 t11 _ ?side1 ?side2 A11.out).mono ?_);(case side1=>exact zc_ (Kd.R_reads' HO7.out).2.2);(case side2=>exact (Kd.R_reads' HO7.out).2.1);rintro e w20 ⟨v12,rfl,ho0,hb⟩;replace HO4:=ob_ HO4 hb;replace HO7:=ob_ HO7 hb;replace HO10:=ob_ HO10 hb;have HO13:=am_ (Kd.R_lower ho0 (below_size (zl0_ HB)));replace HB:=am_ (below_step (zl0_ HB) hb);(try clear hb ho0);obtain ⟨Ao21,co21,eo21⟩:=Kd.R_slice HO10.out;subst eo21;obtain ⟨Ao22,co22,eo22⟩:=Kd.R_slice HO13.out;subst eo22)|(go_at_call 48;(with_reducible refine (plan_Steps.calls _ _ t8 _ _ t11 _ _ t5 t14 t15 _ ?side1 ?side2 ?side3 ?side4 ?side5 ?side6 A12.out).mono ?_);(case side1=>exact zc_ (Kd.R_reads' HO10.out).2.2);(case side2=>exact (Kd.R_reads' HO10.out).2.1);(case side3=>exact zc_ (Kd.R_reads' HO13.out).2.2);(case side4=>exact (Kd.R_reads' HO13.out).2.1);(case side5=>exact zc_ (Kd.R_reads' HO7.out).2.2);(case side6=>exact (Kd.R_reads' HO7.out).2.1);rintro e w23 ⟨v16,rfl,ho0,hb⟩;replace HO4:=ob_ HO4 hb;replace HO7:=ob_ HO7 hb;replace HO10:=ob_ HO10 hb;replace HO13:=ob_ HO13 hb;have HO17:=am_ (Kd.R_lower ho0 (below_size (zl0_ HB)));replace HB:=am_ (below_step (zl0_ HB) hb);(try clear hb ho0))|(go_at_call 25;(with_reducible refine (law1_Num.calls t15 t18 _ A13.out).mono ?_);rintro e w' ⟨rfl,⟨nd,rfl⟩⟩;(try first|exact ⟨rfl,_,World.drewN_drewN _ _ _⟩|exact ⟨rfl,_,Eq.trans (World.drewN_drewN _ _ _) (congrArg (World.drewN _) (Nat.add_assoc _ _ _))⟩))))
   go_loopg [5,9] kj2 (fun kq v5 v9 w'=> ∃(x5_2:List (S79)) (x9_2:Int),v9= .int .i64 x9_2∧Aside0 (law18_PlanLeads.l0 kq x5_2 t8 t14 x9_2=some r)∧Aside0 (kq≤kj2)∧Aside0 (Kd.R k79 79 w' w.heap.size (fun _=>True) v5 x5_2)∧Aside0 (Kd.R k39 39 w' w.heap.size (fun _=>True) (.slice Ao21 t8.length co21) t8)∧Aside0 (Kd.R k76 76 w' w.heap.size (fun _=>True) v16 t14)∧Aside0 (Below w.heap.size w w'))
   case atStart=>exact ⟨(t5),(0),rf_,H',⟨Nat.le_refl _⟩,⟨by (with_reducible repeat (first|apply Kd.R_alloc|apply Kd.R_drewN|apply Kd.R_drew));exact Kd.R_mono HO7.out (fun _ hk=>trivial)⟩,am_ (zr_ HO10),am_ (zr_ HO17),⟨zl0_ HB⟩⟩
   case round=>
    clear H';obtain ⟨x5_2,x9_2,rfl,HA,HK2,HO_5,HO_6,HO_7,HB⟩:=hrel
    cases gk with
    |zero=>exact absurd HA.out (by simp [law18_PlanLeads.l0])
    |succ k2=>
     have H:=HA.out;clear HA;simp only [law18_PlanLeads.l0] at H;by_cases c24:x9_2<(t14.length:Int)
     ·rw [if_pos c24] at H;have c24b0:=decide_eq_true c24;clear c24;replace H:=zif_ H;obtain ⟨c25,H⟩:=H;have c25b0:=decide_eq_true c25;clear c25;replace H:=zbd_ H;obtain ⟨⟨t20,t23⟩,A26,H⟩:=H;try dsimp only at H
      by_cases c27:t23=0;rotate_left
      ·rw [if_neg c27] at H;cases H
      rw [if_pos c27] at H;have c27b0:=beq_iff_eq.mpr c27;have c27b1:=bne_eq_false_iff_eq.mpr c27;clear c27;have H':=Aside0.mk H;clear H;obtain ⟨Ao28,co28,eo28⟩:=Kd.R_slice HO_7.out;subst eo28;obtain ⟨p19,q19,ad19,e19,hx19_0,hx19_1,hx19_2,hx19_3,hx19_4,hx19_5⟩:=zat_ (at_T76 (Kd.R_reads' HO_7.out).2.2 x9_2);cases e19;obtain ⟨Ao29,co29,eo29⟩:=Kd.R_slice HO_5.out;subst eo29
      go_wp2_with (first|(go_at_call 51;(with_reducible refine (r10_Do.calls k2 _ _ x5_2 ((rd_T76 t14 x9_2).f0) ((rd_T76 t14 x9_2).f1) ((rd_T76 t14 x9_2).f2) ((rd_T76 t14 x9_2).f3.f0) ((rd_T76 t14 x9_2).f3.f1) ((rd_T76 t14 x9_2).f3.f2) (-1) t20 t23 _ ?side1 ?side2 A26.out).mono ?_);(case side1=>exact zc_ (Kd.R_reads' HO_5.out).2.2);(case side2=>exact (Kd.R_reads' HO_5.out).2.1);rintro e w30 ⟨v21,rfl,ho0,hb⟩;replace HO_6:=ob_ HO_6 hb;replace HO_7:=ob_ HO_7 hb;have HO22:=am_ (Kd.R_lower (Kd.R_new' ho0 (Kd.R_lt (zr_ HO_5))) (below_size (zl0_ HB)));replace HO_5:=am_ (Kd.R_elder' (zr_ HO_5) (Kd.R_base ho0) hb);replace HB:=am_ (below_step (zl0_ HB) hb);(try clear hb ho0))|((with_reducible refine gate_dst (N:=10) rfl ?_);(try (refine gate_guard (by rfl) ?_;dsimp only));refine bx_ (N:=10) (cs:=#[.slice none 0 0, .int .i64 0]) (t:=73) ?_;intro gb24 hg w31 hbox hb;replace HO_5:=ob_ HO_5 hb;replace HO_6:=ob_ HO_6 hb;replace HO_7:=ob_ HO_7 hb;replace HO22:=ob_ HO22 hb;have BK24:=am_ (hbox);have GE24:=am_ ((zg0_ HB hg:w.heap.size≤gb24));replace HB:=am_ (below_step (zl0_ HB) hb);clear hb hbox hg;obtain ⟨Ao32,co32,eo32⟩:=Kd.R_slice HO22.out;subst eo32;obtain ⟨hcz33_0,hcz33_1⟩:=x2_ BK24;have hfz33_0:=blk_frozen BK24.out 0;have hfz33_1:=blk_frozen BK24.out 1))
      repeat (go_quiet (first|(go_at_call 51;(with_reducible refine (r10_Do.calls k2 _ _ x5_2 ((rd_T76 t14 x9_2).f0) ((rd_T76 t14 x9_2).f1) ((rd_T76 t14 x9_2).f2) ((rd_T76 t14 x9_2).f3.f0) ((rd_T76 t14 x9_2).f3.f1) ((rd_T76 t14 x9_2).f3.f2) (-1) t20 t23 _ ?side1 ?side2 A26.out).mono ?_);(case side1=>exact zc_ (Kd.R_reads' HO_5.out).2.2);(case side2=>exact (Kd.R_reads' HO_5.out).2.1);rintro e w30 ⟨v21,rfl,ho0,hb⟩;replace HO_6:=ob_ HO_6 hb;replace HO_7:=ob_ HO_7 hb;have HO22:=am_ (Kd.R_lower (Kd.R_new' ho0 (Kd.R_lt (zr_ HO_5))) (below_size (zl0_ HB)));replace HO_5:=am_ (Kd.R_elder' (zr_ HO_5) (Kd.R_base ho0) hb);replace HB:=am_ (below_step (zl0_ HB) hb);(try clear hb ho0))|((with_reducible refine gate_dst (N:=10) rfl ?_);(try (refine gate_guard (by rfl) ?_;dsimp only));refine bx_ (N:=10) (cs:=#[.slice none 0 0, .int .i64 0]) (t:=73) ?_;intro gb24 hg w31 hbox hb;replace HO_5:=ob_ HO_5 hb;replace HO_6:=ob_ HO_6 hb;replace HO_7:=ob_ HO_7 hb;replace HO22:=ob_ HO22 hb;have BK24:=am_ (hbox);have GE24:=am_ ((zg0_ HB hg:w.heap.size≤gb24));replace HB:=am_ (below_step (zl0_ HB) hb);clear hb hbox hg;obtain ⟨Ao32,co32,eo32⟩:=Kd.R_slice HO22.out;subst eo32;obtain ⟨hcz33_0,hcz33_1⟩:=x2_ BK24;have hfz33_0:=blk_frozen BK24.out 0;have hfz33_1:=blk_frozen BK24.out 1));try go_wp2_with (first|(go_at_call 51;(with_reducible refine (r10_Do.calls k2 _ _ x5_2 ((rd_T76 t14 x9_2).f0) ((rd_T76 t14 x9_2).f1) ((rd_T76 t14 x9_2).f2) ((rd_T76 t14 x9_2).f3.f0) ((rd_T76 t14 x9_2).f3.f1) ((rd_T76 t14 x9_2).f3.f2) (-1) t20 t23 _ ?side1 ?side2 A26.out).mono ?_);(case side1=>exact zc_ (Kd.R_reads' HO_5.out).2.2);(case side2=>exact (Kd.R_reads' HO_5.out).2.1);rintro e w30 ⟨v21,rfl,ho0,hb⟩;replace HO_6:=ob_ HO_6 hb;replace HO_7:=ob_ HO_7 hb;have HO22:=am_ (Kd.R_lower (Kd.R_new' ho0 (Kd.R_lt (zr_ HO_5))) (below_size (zl0_ HB)));replace HO_5:=am_ (Kd.R_elder' (zr_ HO_5) (Kd.R_base ho0) hb);replace HB:=am_ (below_step (zl0_ HB) hb);(try clear hb ho0))|((with_reducible refine gate_dst (N:=10) rfl ?_);(try (refine gate_guard (by rfl) ?_;dsimp only));refine bx_ (N:=10) (cs:=#[.slice none 0 0, .int .i64 0]) (t:=73) ?_;intro gb24 hg w31 hbox hb;replace HO_5:=ob_ HO_5 hb;replace HO_6:=ob_ HO_6 hb;replace HO_7:=ob_ HO_7 hb;replace HO22:=ob_ HO22 hb;have BK24:=am_ (hbox);have GE24:=am_ ((zg0_ HB hg:w.heap.size≤gb24));replace HB:=am_ (below_step (zl0_ HB) hb);clear hb hbox hg;obtain ⟨Ao32,co32,eo32⟩:=Kd.R_slice HO22.out;subst eo32;obtain ⟨hcz33_0,hcz33_1⟩:=x2_ BK24;have hfz33_0:=blk_frozen BK24.out 0;have hfz33_1:=blk_frozen BK24.out 1)))
      go_roundg k2
      case measure=>have:=HJ2.out;have:=HK2.out;omega
      case rel=>exact ⟨(t20),(wrap64 (x9_2+1)),rf_,H',⟨by have:=HJ2.out;have:=HK2.out;omega⟩,⟨zy_ HO22 BK24⟩,⟨zy_ HO_6 BK24⟩,⟨zy_ HO_7 BK24⟩,⟨zl1_ HB GE24⟩⟩
     rw [if_neg c24] at H;have c24b0:=decide_eq_false c24;clear c24;replace H:=zif_ H;obtain ⟨c40,H⟩:=H;have c40b0:=beq_iff_eq.mpr c40;have c40b1:=bne_eq_false_iff_eq.mpr c40;have c40b2:(x5_2.length==t8.length)=true:=by first|simpa using c40|(simp at c40 ⊢;omega)
     clear c40;have H':=Aside0.mk H;clear H;obtain ⟨Ao41,co41,eo41⟩:=Kd.R_slice HO_7.out;subst eo41;obtain ⟨Ao42,co42,eo42⟩:=Kd.R_slice HO_5.out;subst eo42;go_wp2
     repeat (go_quiet (fail);try go_wp2)
     go_loopg [11] k2 (fun kq v11 w'=> ∃(x11_3:Int),v11= .int .i64 x11_3∧Aside0 (law18_PlanLeads.l1 kq x5_2 t8 x11_3=some r)∧Aside0 (kq≤k2)∧Aside0 (Kd.R k79 79 w' w.heap.size (fun _=>True) (.slice Ao42 x5_2.length co42) x5_2)∧Aside0 (Kd.R k39 39 w' w.heap.size (fun _=>True) (.slice Ao21 t8.length co21) t8)∧Aside0 (Below w.heap.size w w'))
     case atStart=>exact ⟨(0),rf_,H',⟨Nat.le_refl _⟩,am_ (zr_ HO_5),am_ (zr_ HO_6),⟨zl0_ HB⟩⟩
     case round=>
      clear H';obtain ⟨x11_3,rfl,HA,HK3,HO_5,HO_6,HB⟩:=hrel
      cases gk with
      |zero=>exact absurd HA.out (by simp [law18_PlanLeads.l1])
      |succ k3=>
       have H:=HA.out;clear HA;simp only [law18_PlanLeads.l1] at H;by_cases c43:x11_3<(t8.length:Int);rotate_left
       ·rw [if_neg c43] at H;have c43b0:=decide_eq_false c43;clear c43;replace H:=zbd_ H;obtain ⟨t31,A51,H⟩:=H;try dsimp only at H
        replace H:=zbd_ H;obtain ⟨⟨t34,t35⟩,A52,H⟩:=H;try dsimp only at H
        replace H:=zbd_ H;obtain ⟨t38,A53,H⟩:=H;try dsimp only at H
        by_cases c54:t38=0;rotate_left
        ·rw [if_neg c54] at H;cases H
        rw [if_pos c54] at H;have c54b0:=beq_iff_eq.mpr c54;have c54b1:=bne_eq_false_iff_eq.mpr c54;clear c54;by_cases c55:(t34.length:Int)=0;rotate_left
        ·rw [if_neg c55] at H;cases H
        rw [if_pos c55] at H;have c55b0:=beq_iff_eq.mpr c55;have c55b1:=bne_eq_false_iff_eq.mpr c55;clear c55;replace H:=zbd_ H;obtain ⟨t39,A56,H⟩:=H;try dsimp only at H
        obtain rfl:=Option.some.inj H
        go_wp2_with (first|(go_at_call 40;(with_reducible refine (law18_Loose.calls k3 _ _ x5_2 t31 _ ?side1 ?side2 A51.out).mono ?_);(case side1=>exact zc_ (Kd.R_reads' HO_5.out).2.2);(case side2=>exact (Kd.R_reads' HO_5.out).2.1);rintro e w57 ⟨v32,rfl,ho0,hb⟩;replace HO_5:=ob_ HO_5 hb;replace HO_6:=ob_ HO_6 hb;have HO33:=am_ (Kd.R_lower ho0 (below_size (zl0_ HB)));replace HB:=am_ (below_step (zl0_ HB) hb);(try clear hb ho0);obtain ⟨Ao58,co58,eo58⟩:=Kd.R_slice HO33.out;subst eo58)|(go_at_call 48;(with_reducible refine (plan_Steps.calls _ _ t8 _ _ t31 _ _ x5_2 t34 t35 _ ?side1 ?side2 ?side3 ?side4 ?side5 ?side6 A52.out).mono ?_);(case side1=>exact zc_ (Kd.R_reads' HO_6.out).2.2);(case side2=>exact (Kd.R_reads' HO_6.out).2.1);(case side3=>exact zc_ (Kd.R_reads' HO33.out).2.2);(case side4=>exact (Kd.R_reads' HO33.out).2.1);(case side5=>exact zc_ (Kd.R_reads' HO_5.out).2.2);(case side6=>exact (Kd.R_reads' HO_5.out).2.1);rintro e w59 ⟨v36,rfl,ho0,hb⟩;replace HO_5:=ob_ HO_5 hb;replace HO_6:=ob_ HO_6 hb;replace HO33:=ob_ HO33 hb;have HO37:=am_ (Kd.R_lower ho0 (below_size (zl0_ HB)));replace HB:=am_ (below_step (zl0_ HB) hb);(try clear hb ho0))|(go_at_call 25;(with_reducible refine (law1_Num.calls t35 t38 _ A53.out).mono ?_);rintro e w' ⟨rfl,⟨nd,rfl⟩⟩;(try first|exact ⟨rfl,_,World.drewN_drewN _ _ _⟩|exact ⟨rfl,_,Eq.trans (World.drewN_drewN _ _ _) (congrArg (World.drewN _) (Nat.add_assoc _ _ _))⟩);obtain ⟨Ao60,co60,eo60⟩:=Kd.R_slice HO37.out;subst eo60)|(go_at_call 47;(with_reducible refine (law18_awake.calls t39 _ A56.out).mono ?_);rintro e w61 ⟨rfl,hb⟩;replace HO_5:=ob_ HO_5 hb;replace HO_6:=ob_ HO_6 hb;replace HO33:=ob_ HO33 hb;replace HO37:=ob_ HO37 hb;replace HB:=am_ (below_step (zl0_ HB) hb);(try clear hb)))
        repeat (go_quiet (first|(go_at_call 40;(with_reducible refine (law18_Loose.calls k3 _ _ x5_2 t31 _ ?side1 ?side2 A51.out).mono ?_);(case side1=>exact zc_ (Kd.R_reads' HO_5.out).2.2);(case side2=>exact (Kd.R_reads' HO_5.out).2.1);rintro e w57 ⟨v32,rfl,ho0,hb⟩;replace HO_5:=ob_ HO_5 hb;replace HO_6:=ob_ HO_6 hb;have HO33:=am_ (Kd.R_lower ho0 (below_size (zl0_ HB)));replace HB:=am_ (below_step (zl0_ HB) hb);(try clear hb ho0);obtain ⟨Ao58,co58,eo58⟩:=Kd.R_slice HO33.out;subst eo58)|(go_at_call 48;(with_reducible refine (plan_Steps.calls _ _ t8 _ _ t31 _ _ x5_2 t34 t35 _ ?side1 ?side2 ?side3 ?side4 ?side5 ?side6 A52.out).mono ?_);(case side1=>exact zc_ (Kd.R_reads' HO_6.out).2.2);(case side2=>exact (Kd.R_reads' HO_6.out).2.1);(case side3=>exact zc_ (Kd.R_reads' HO33.out).2.2);(case side4=>exact (Kd.R_reads' HO33.out).2.1);(case side5=>exact zc_ (Kd.R_reads' HO_5.out).2.2);(case side6=>exact (Kd.R_reads' HO_5.out).2.1);rintro e w59 ⟨v36,rfl,ho0,hb⟩;replace HO_5:=ob_ HO_5 hb;replace HO_6:=ob_ HO_6 hb;replace HO33:=ob_ HO33 hb;have HO37:=am_ (Kd.R_lower ho0 (below_size (zl0_ HB)));replace HB:=am_ (below_step (zl0_ HB) hb);(try clear hb ho0))|(go_at_call 25;(with_reducible refine (law1_Num.calls t35 t38 _ A53.out).mono ?_);rintro e w' ⟨rfl,⟨nd,rfl⟩⟩;(try first|exact ⟨rfl,_,World.drewN_drewN _ _ _⟩|exact ⟨rfl,_,Eq.trans (World.drewN_drewN _ _ _) (congrArg (World.drewN _) (Nat.add_assoc _ _ _))⟩);obtain ⟨Ao60,co60,eo60⟩:=Kd.R_slice HO37.out;subst eo60)|(go_at_call 47;(with_reducible refine (law18_awake.calls t39 _ A56.out).mono ?_);rintro e w61 ⟨rfl,hb⟩;replace HO_5:=ob_ HO_5 hb;replace HO_6:=ob_ HO_6 hb;replace HO33:=ob_ HO33 hb;replace HO37:=ob_ HO37 hb;replace HB:=am_ (below_step (zl0_ HB) hb);(try clear hb)));try go_wp2_with (first|(go_at_call 40;(with_reducible refine (law18_Loose.calls k3 _ _ x5_2 t31 _ ?side1 ?side2 A51.out).mono ?_);(case side1=>exact zc_ (Kd.R_reads' HO_5.out).2.2);(case side2=>exact (Kd.R_reads' HO_5.out).2.1);rintro e w57 ⟨v32,rfl,ho0,hb⟩;replace HO_5:=ob_ HO_5 hb;replace HO_6:=ob_ HO_6 hb;have HO33:=am_ (Kd.R_lower ho0 (below_size (zl0_ HB)));replace HB:=am_ (below_step (zl0_ HB) hb);(try clear hb ho0);obtain ⟨Ao58,co58,eo58⟩:=Kd.R_slice HO33.out;subst eo58)|(go_at_call 48;(with_reducible refine (plan_Steps.calls _ _ t8 _ _ t31 _ _ x5_2 t34 t35 _ ?side1 ?side2 ?side3 ?side4 ?side5 ?side6 A52.out).mono ?_);(case side1=>exact zc_ (Kd.R_reads' HO_6.out).2.2);(case side2=>exact (Kd.R_reads' HO_6.out).2.1);(case side3=>exact zc_ (Kd.R_reads' HO33.out).2.2);(case side4=>exact (Kd.R_reads' HO33.out).2.1);(case side5=>exact zc_ (Kd.R_reads' HO_5.out).2.2);(case side6=>exact (Kd.R_reads' HO_5.out).2.1);rintro e w59 ⟨v36,rfl,ho0,hb⟩;replace HO_5:=ob_ HO_5 hb;replace HO_6:=ob_ HO_6 hb;replace HO33:=ob_ HO33 hb;have HO37:=am_ (Kd.R_lower ho0 (below_size (zl0_ HB)));replace HB:=am_ (below_step (zl0_ HB) hb);(try clear hb ho0))|(go_at_call 25;(with_reducible refine (law1_Num.calls t35 t38 _ A53.out).mono ?_);rintro e w' ⟨rfl,⟨nd,rfl⟩⟩;(try first|exact ⟨rfl,_,World.drewN_drewN _ _ _⟩|exact ⟨rfl,_,Eq.trans (World.drewN_drewN _ _ _) (congrArg (World.drewN _) (Nat.add_assoc _ _ _))⟩);obtain ⟨Ao60,co60,eo60⟩:=Kd.R_slice HO37.out;subst eo60)|(go_at_call 47;(with_reducible refine (law18_awake.calls t39 _ A56.out).mono ?_);rintro e w61 ⟨rfl,hb⟩;replace HO_5:=ob_ HO_5 hb;replace HO_6:=ob_ HO_6 hb;replace HO33:=ob_ HO33 hb;replace HO37:=ob_ HO37 hb;replace HB:=am_ (below_step (zl0_ HB) hb);(try clear hb))))
        go_ret
        exact ⟨by first|rfl|(simp [errW_none,errW_some]<;>rfl)|(simp [*,errW_none,errW_some]<;>rfl),zl0_ HB⟩
       rw [if_pos c43] at H;have c43b0:=decide_eq_true c43;clear c43;replace H:=zif_ H;obtain ⟨c44,H⟩:=H;have c44b0:=decide_eq_true c44;clear c44;replace H:=zbd_ H;obtain ⟨t26,A45,H⟩:=H;try dsimp only at H
       by_cases c46:t26<0
       ·rw [if_pos c46] at H;cases H
       rw [if_neg c46] at H;have c46b0:=decide_eq_false c46;clear c46;by_cases c47:0≤t26;rotate_left
       ·rw [if_neg c47] at H;cases H
       rw [if_pos c47] at H;have c47b0:=decide_eq_true c47;clear c47;by_cases c48:t26<(x5_2.length:Int);rotate_left
       ·rw [if_neg c48] at H;cases H
       rw [if_pos c48] at H;have c48b0:=decide_eq_true c48;clear c48;by_cases c49:((rd_T79 x5_2 t26).f1).toList=((rd_T39 t8 x11_3).f1).toList;rotate_left
       ·rw [if_neg c49] at H;cases H
       rw [if_pos c49] at H;have c49b0:=beq_iff_eq.mpr c49;have c49b1:=bne_eq_false_iff_eq.mpr c49;clear c49;by_cases c50:(!(((rd_T79 x5_2 t26).f2.f0)==((rd_T39 t8 x11_3).f2.f0))||(!(((rd_T79 x5_2 t26).f2.f1)==((rd_T39 t8 x11_3).f2.f1))||(!(((rd_T79 x5_2 t26).f2.f2)==((rd_T39 t8 x11_3).f2.f2)))))=true
       ·rw [if_pos c50] at H;cases H
       rw [if_neg c50] at H;have c50b0:(!(((rd_T79 x5_2 t26).f2.f0)==((rd_T39 t8 x11_3).f2.f0))||(!(((rd_T79 x5_2 t26).f2.f1)==((rd_T39 t8 x11_3).f2.f1))||(!(((rd_T79 x5_2 t26).f2.f2)==((rd_T39 t8 x11_3).f2.f2)))))=false:=by simpa using c50
       clear c50;have H':=Aside0.mk H;clear H;obtain ⟨p25,q25,ad25,e25,hx25_0,hx25_1,hx25_2,hx25_3,hx25_4⟩:=zat_ (at_T39 (Kd.R_reads' HO_6.out).2.2 x11_3);cases e25
       go_wp2_with (first|(go_at_call 52;(with_reducible refine (r10_Find.calls k3 _ _ x5_2 ((rd_T39 t8 x11_3).f0) t26 _ ?side1 ?side2 A45.out).mono ?_);(case side1=>exact zc_ (Kd.R_reads' HO_5.out).2.2);(case side2=>exact (Kd.R_reads' HO_5.out).2.1);rintro e w' ⟨rfl,⟨nd,rfl⟩⟩;(try first|exact ⟨rfl,_,World.drewN_drewN _ _ _⟩|exact ⟨rfl,_,Eq.trans (World.drewN_drewN _ _ _) (congrArg (World.drewN _) (Nat.add_assoc _ _ _))⟩);have p27:0≤(t26:Int):=of_decide_eq_true zq_;have q27:t26<(x5_2.length:Int):=of_decide_eq_true zq_;obtain ⟨ad27,e27,hx27_0,hx27_1,hx27_2,hx27_3,hx27_4,hx27_5,hx27_6,hx27_7,hx27_8,hx27_9,hx27_10,hx27_11⟩:=at_T79 (Kd.R_reads' HO_5.out).2.2 t26 p27 q27;cases e27;replace p27:=eq_true p27;replace q27:=eq_true q27;have p28:0≤(x11_3:Int):=of_decide_eq_true zq_;have q28:x11_3<(t8.length:Int):=of_decide_eq_true zq_;obtain ⟨ad28,e28,hx28_0,hx28_1,hx28_2,hx28_3,hx28_4⟩:=at_T39 (Kd.R_reads' HO_6.out).2.2 x11_3 p28 q28;obtain rfl:ad25=ad28:=(by injection e28);replace p28:=eq_true p28;replace q28:=eq_true q28;have p29:0≤(t26:Int):=of_decide_eq_true zq_;have q29:t26<(x5_2.length:Int):=of_decide_eq_true zq_;obtain ⟨ad29,e29,hx29_0,hx29_1,hx29_2,hx29_3,hx29_4,hx29_5,hx29_6,hx29_7,hx29_8,hx29_9,hx29_10,hx29_11⟩:=at_T79 (Kd.R_reads' HO_5.out).2.2 t26 p29 q29;obtain rfl:ad27=ad29:=(by injection e29);replace p29:=eq_true p29;replace q29:=eq_true q29;have p30:0≤(x11_3:Int):=of_decide_eq_true zq_;have q30:x11_3<(t8.length:Int):=of_decide_eq_true zq_;obtain ⟨ad30,e30,hx30_0,hx30_1,hx30_2,hx30_3,hx30_4⟩:=at_T39 (Kd.R_reads' HO_6.out).2.2 x11_3 p30 q30;obtain rfl:ad25=ad30:=(by injection e30);replace p30:=eq_true p30;replace q30:=eq_true q30))
       repeat (go_quiet (first|(go_at_call 52;(with_reducible refine (r10_Find.calls k3 _ _ x5_2 ((rd_T39 t8 x11_3).f0) t26 _ ?side1 ?side2 A45.out).mono ?_);(case side1=>exact zc_ (Kd.R_reads' HO_5.out).2.2);(case side2=>exact (Kd.R_reads' HO_5.out).2.1);rintro e w' ⟨rfl,⟨nd,rfl⟩⟩;(try first|exact ⟨rfl,_,World.drewN_drewN _ _ _⟩|exact ⟨rfl,_,Eq.trans (World.drewN_drewN _ _ _) (congrArg (World.drewN _) (Nat.add_assoc _ _ _))⟩);have p27:0≤(t26:Int):=of_decide_eq_true zq_;have q27:t26<(x5_2.length:Int):=of_decide_eq_true zq_;obtain ⟨ad27,e27,hx27_0,hx27_1,hx27_2,hx27_3,hx27_4,hx27_5,hx27_6,hx27_7,hx27_8,hx27_9,hx27_10,hx27_11⟩:=at_T79 (Kd.R_reads' HO_5.out).2.2 t26 p27 q27;cases e27;replace p27:=eq_true p27;replace q27:=eq_true q27;have p28:0≤(x11_3:Int):=of_decide_eq_true zq_;have q28:x11_3<(t8.length:Int):=of_decide_eq_true zq_;obtain ⟨ad28,e28,hx28_0,hx28_1,hx28_2,hx28_3,hx28_4⟩:=at_T39 (Kd.R_reads' HO_6.out).2.2 x11_3 p28 q28;obtain rfl:ad25=ad28:=(by injection e28);replace p28:=eq_true p28;replace q28:=eq_true q28;have p29:0≤(t26:Int):=of_decide_eq_true zq_;have q29:t26<(x5_2.length:Int):=of_decide_eq_true zq_;obtain ⟨ad29,e29,hx29_0,hx29_1,hx29_2,hx29_3,hx29_4,hx29_5,hx29_6,hx29_7,hx29_8,hx29_9,hx29_10,hx29_11⟩:=at_T79 (Kd.R_reads' HO_5.out).2.2 t26 p29 q29;obtain rfl:ad27=ad29:=(by injection e29);replace p29:=eq_true p29;replace q29:=eq_true q29;have p30:0≤(x11_3:Int):=of_decide_eq_true zq_;have q30:x11_3<(t8.length:Int):=of_decide_eq_true zq_;obtain ⟨ad30,e30,hx30_0,hx30_1,hx30_2,hx30_3,hx30_4⟩:=at_T39 (Kd.R_reads' HO_6.out).2.2 x11_3 p30 q30;obtain rfl:ad25=ad30:=(by injection e30);replace p30:=eq_true p30;replace q30:=eq_true q30));try go_wp2_with (first|(go_at_call 52;(with_reducible refine (r10_Find.calls k3 _ _ x5_2 ((rd_T39 t8 x11_3).f0) t26 _ ?side1 ?side2 A45.out).mono ?_);(case side1=>exact zc_ (Kd.R_reads' HO_5.out).2.2);(case side2=>exact (Kd.R_reads' HO_5.out).2.1);rintro e w' ⟨rfl,⟨nd,rfl⟩⟩;(try first|exact ⟨rfl,_,World.drewN_drewN _ _ _⟩|exact ⟨rfl,_,Eq.trans (World.drewN_drewN _ _ _) (congrArg (World.drewN _) (Nat.add_assoc _ _ _))⟩);have p27:0≤(t26:Int):=of_decide_eq_true zq_;have q27:t26<(x5_2.length:Int):=of_decide_eq_true zq_;obtain ⟨ad27,e27,hx27_0,hx27_1,hx27_2,hx27_3,hx27_4,hx27_5,hx27_6,hx27_7,hx27_8,hx27_9,hx27_10,hx27_11⟩:=at_T79 (Kd.R_reads' HO_5.out).2.2 t26 p27 q27;cases e27;replace p27:=eq_true p27;replace q27:=eq_true q27;have p28:0≤(x11_3:Int):=of_decide_eq_true zq_;have q28:x11_3<(t8.length:Int):=of_decide_eq_true zq_;obtain ⟨ad28,e28,hx28_0,hx28_1,hx28_2,hx28_3,hx28_4⟩:=at_T39 (Kd.R_reads' HO_6.out).2.2 x11_3 p28 q28;obtain rfl:ad25=ad28:=(by injection e28);replace p28:=eq_true p28;replace q28:=eq_true q28;have p29:0≤(t26:Int):=of_decide_eq_true zq_;have q29:t26<(x5_2.length:Int):=of_decide_eq_true zq_;obtain ⟨ad29,e29,hx29_0,hx29_1,hx29_2,hx29_3,hx29_4,hx29_5,hx29_6,hx29_7,hx29_8,hx29_9,hx29_10,hx29_11⟩:=at_T79 (Kd.R_reads' HO_5.out).2.2 t26 p29 q29;obtain rfl:ad27=ad29:=(by injection e29);replace p29:=eq_true p29;replace q29:=eq_true q29;have p30:0≤(x11_3:Int):=of_decide_eq_true zq_;have q30:x11_3<(t8.length:Int):=of_decide_eq_true zq_;obtain ⟨ad30,e30,hx30_0,hx30_1,hx30_2,hx30_3,hx30_4⟩:=at_T39 (Kd.R_reads' HO_6.out).2.2 x11_3 p30 q30;obtain rfl:ad25=ad30:=(by injection e30);replace p30:=eq_true p30;replace q30:=eq_true q30)))
       go_roundg k3
       case measure=>have:=HJ2.out;have:=HK2.out;have:=HK3.out;omega
       case rel=>exact ⟨(wrap64 (x11_3+1)),rf_,H',⟨by have:=HJ2.out;have:=HK2.out;have:=HK3.out;omega⟩,am_ (zr_ HO_5),am_ (zr_ HO_6),⟨zl0_ HB⟩⟩
noncomputable def law18_PlanLeads.Pure:Prop:= ∀(l0:List Int) (l1:List Int),l0.length≤maxLen→l0.length*1≤140737488351232→(∀x∈l0,(Lit.int .u8 x).wf=true)→l1.length≤maxLen→l1.length*1≤140737488351232→(∀x∈l1,(Lit.int .u8 x).wf=true)→ ∃k,law18_PlanLeads.f k l0 l1=some true
theorem law18_PlanLeads.walk (P:law18_PlanLeads.Pure) (a0:Option Addr) (len0 cap0:Nat) (z0:List Int) (a1:Option Addr) (len1 cap1:Nat) (z1:List Int) (w:World) (w0:(a0=none∧len0=0∧cap0=0∧z0=[])∨ ∃x,a0=some x∧len0≤cap0∧cap0≤maxLen∧z0.length=cap0∧(∀i,i<z0.length→w.cell? (x.add i)=some (.int .u8 (z0.getD i 0)))∧ ∀n∈z0,(Lit.int .u8 n).wf=true) (y0:len0*1≤140737488351232) (w1:(a1=none∧len1=0∧cap1=0∧z1=[])∨ ∃x,a1=some x∧len1≤cap1∧cap1≤maxLen∧z1.length=cap1∧(∀i,i<z1.length→w.cell? (x.add i)=some (.int .u8 (z1.getD i 0)))∧ ∀n∈z1,(Lit.int .u8 n).wf=true) (y1:len1*1≤140737488351232):
  Calls Try.prog 11 #[.slice a0 len0 cap0, .slice a1 len1 cap1] w fun e w'=>e= .returned (.bool true)∧Below w.heap.size w w':=by
 obtain ⟨l0,rfl,hr0,hm0,hw0,hc0⟩:=ReadsInt.ofRowC w0;obtain ⟨l1,rfl,hr1,hm1,hw1,hc1⟩:=ReadsInt.ofRowC w1;obtain ⟨k,h⟩:=P l0 l1 hm0 y0 hw0 hm1 y1 hw1;refine (law18_PlanLeads.calls k _ _ l0 _ _ l1 true w (Kd.C_of_reads (d:=(0:Int)) (h1:=fun _=>rfl) hr0) hc0 (Kd.C_of_reads (d:=(0:Int)) (h1:=fun _=>rfl) hr1) hc1 h).mono ?_;rintro e w' ⟨rfl,hd⟩;exact ⟨rfl,hd⟩

def slices_Clone_Item.f (l0:List (S79)):Option (List (S79)):=if l0.length<1256584717458 then some l0 else none
def shape_made.f (l0:List (S79)) (a1:ByteArray):Option ((List (S79))×Int):=(slices_Clone_Item.f l0).bind fun t2=>((tree_Find.f l0 a1).bind fun t5=>(some (t2,t5)))
def shape_change_parent.f (l0_0:List (S79)) (a0_1:Int) (a1:ByteArray):Option (Bool):=if a1.toList=([]:List UInt8) then (some true) else ((tree_Find.f l0_0 a1).bind fun t2=>(some (decide (t2≥0))))
def guardF (l:List S79) (j ver:Int):Option Int:=if j<0 then some 2 else if j<(l.length:Int) then (if 0≤ver∧(rd_T79 l j).f5≠ver then some 14 else some 0) else none
def verF (y:S79):S79:=⟨y.f0,y.f1,y.f2,y.f3,y.f4,wrap64 (y.f5+1)⟩
def olderF (l:List S79) (j:Int):Option (Int×List S79):=if 0≤j∧j<(l.length:Int) then (if (rd_T79 l j).f5≥9007199254740992 then some (4,l) else some (0,l.set j.toNat (verF (rd_T79 l j)))) else none
structure Turned (W w':World) (base:Nat) (v:Value):Prop where
 below:Below base W w'
 block: ∀(k:Nat) o,W.heap[k]?=some o→some k≠v.ownBlock→w'.heap[k]?=some o
theorem Turned.of_below {W w':World} {base:Nat} {v:Value} (h:Below W.heap.size W w') (hb:base≤W.heap.size):Turned W w' base v:=⟨⟨h.os,h.tape,h.output,h.size,fun k hk=>h.block k (Nat.lt_of_lt_of_le hk hb)⟩,fun k o hk _=>blk_below hk h⟩
end Go.Proofs.Ytahidkjncljkaaa.Print

namespace Go.Proofs.Ytahidkjncljkaaa.Print
open Go.RowKit Go.Proofs.YtahidkjncljkaaaW.PrintWords Go.Proofs.YtahidkjncljkaaaW.PrintLast Go.Proofs.YtahidkjncljkaaaW.PrintMore
end Go.Proofs.Ytahidkjncljkaaa.Print

namespace Go.Proofs.Ytahidkjncljkaaa.Print
open Go.RowKit Go.Proofs.YtahidkjncljkaaaW.PrintWords Go.Proofs.YtahidkjncljkaaaW.PrintLast Go.Proofs.YtahidkjncljkaaaW.PrintMore
attribute [local go_sem] max2_int min2_int max_two min_two max_three min_three max_four min_four
def placeL (l:List S79) (n:ByteArray):Nat:=(l.takeWhile fun y=>Op.bytesLess y.f0.toList n.toList).length
def shape_Create.f (l0:List (S79)) (a1:ByteArray) (a2:ByteArray) (a3_0:Int) (a3_1:Int) (a3_2:Int):Option ((List (S79))×Int):=
 (shape_made.f l0 a1).bind fun p=>if a1.toList=([]:List UInt8) then some ([],1) else if (a1.size:Int)>24 then some ([],1) else (vec_May.f a3_0 a3_1 a3_2).bind fun m=>if m=false then some ([],1) else
  if p.2≥0 then some ([],3) else (shape_change_parent.f p.1 p.2 a2).bind fun q=>if q=false then some ([],2) else if (l0.length:Int)≥120 then some ([],4) else
   some (p.1.take (placeL l0 a1)++⟨a1,a2,⟨a3_0,a3_1,a3_2⟩,⟨0,0,0⟩,⟨0,0,0⟩,1⟩::p.1.drop (placeL l0 a1),0)
end Go.Proofs.Ytahidkjncljkaaa.Print

namespace Go.Proofs.Ytahidkjncljkaaa.Print
open Go.RowKit Go.Proofs.YtahidkjncljkaaaW.PrintWords Go.Proofs.YtahidkjncljkaaaW.PrintLast Go.Proofs.YtahidkjncljkaaaW.PrintMore
def shSub (op:S37→S37) (y:S79):S79:=⟨y.f0,y.f1,y.f2,y.f3,op y.f4,y.f5⟩
def shiftF (op:S37→S37):List ByteArray→List S79→Option (List S79)
 |[],out=>some out
 |s::us,out=>(tree_Find.f out s).bind fun j=>if 0≤j∧j<(out.length:Int) then shiftF op us (out.set j.toNat (shSub op (rd_T79 out j))) else none
end Go.Proofs.Ytahidkjncljkaaa.Print

namespace Go.Proofs.Ytahidkjncljkaaa.Print
open Go.RowKit Go.Proofs.YtahidkjncljkaaaW.PrintWords Go.Proofs.YtahidkjncljkaaaW.PrintLast Go.Proofs.YtahidkjncljkaaaW.PrintMore
attribute [local go_sem] max2_int min2_int max_two min_two max_three min_three max_four min_four

def limF (v:S37) (y:S79):S79:=⟨y.f0,y.f1,v,y.f3,y.f4,y.f5⟩
def shape_Limit.f (l0:List (S79)) (a1:ByteArray) (a2_0:Int) (a2_1:Int) (a2_2:Int) (a3:Int):Option ((List (S79))×Int):=
 (vec_May.f a2_0 a2_1 a2_2).bind fun m=>if m=false then some ([],1) else (shape_made.f l0 a1).bind fun p=>(guardF p.1 p.2 a3).bind fun e=>if e≠0 then some ([],e) else (olderF p.1 p.2).bind fun q=>if q.1≠0 then some ([],q.1) else
  (vec_Le.f (rd_T79 q.2 p.2).f4.f0 (rd_T79 q.2 p.2).f4.f1 (rd_T79 q.2 p.2).f4.f2 a2_0 a2_1 a2_2).bind fun b=>if b=false then some ([],12) else some (q.2.set p.2.toNat (limF ⟨a2_0,a2_1,a2_2⟩ (rd_T79 q.2 p.2)),0)
def slices_Index_string_string.l0:Nat→List ByteArray→ByteArray→Int→Int→Option (Int)
 |0,_,_,_,_=>none
 |k+1,x0,x1,x7,x8=>if x8<x7 then (if 0≤x8 then (if x8<(x0.length:Int) then (if x1.toList=(rdOf ByteArray.empty x0 x8).toList then (some x8) else (slices_Index_string_string.l0 k x0 x1 x7 (wrap64 (x8+1)))) else (none)) else (none)) else (some (-1))
def slices_Index_string_string.f (k:Nat) (l0:List ByteArray) (a1:ByteArray):Option (Int):=slices_Index_string_string.l0 k l0 a1 (l0.length:Int) 0
theorem slices_Index_string_string.mono_l: ∀k,(∀y0 y1 y2 y3,LeO (slices_Index_string_string.l0 k y0 y1 y2 y3) (slices_Index_string_string.l0 (k+1) y0 y1 y2 y3))
 |0=>fun _ _ _ _ r h=>by simp [slices_Index_string_string.l0] at h
 |k+1=>by
  have ih0:=slices_Index_string_string.mono_l k;intro y0 y1 y2 y3;unfold slices_Index_string_string.l0
  repeat' with_reducible first|apply ih0|apply LeO.refl|apply LeO.none|apply LeO.ite|refine LeO.bind ?_ fun _=> ?_
theorem slices_Index_string_string.mono: ∀a0 a1 k,LeO (slices_Index_string_string.f k a0 a1) (slices_Index_string_string.f (k+1) a0 a1):=by
 intro a0 a1 k;have ih0:=slices_Index_string_string.mono_l k;unfold slices_Index_string_string.f
 repeat' first
  |(with_reducible exact ih0 _ _ _ _)
  |(with_reducible exact LeO.refl _)
  |(with_reducible exact LeO.none _)
  |(with_reducible refine LeO.ite ?_ ?_)
  |(with_reducible refine LeO.bind ?_ (fun _=> ?_))
  |exact ih0 _ _ _ _
  |exact LeO.none _
  |refine LeO.ite ?_ ?_
  |refine LeO.bind ?_ (fun _=> ?_)
def slices_Contains_string_string.f (k:Nat) (l0:List ByteArray) (a1:ByteArray):Option (Bool):=(slices_Index_string_string.f k l0 a1).bind fun t1=>(some (decide (t1≥0)))
theorem slices_Contains_string_string.mono: ∀a0 a1 k,LeO (slices_Contains_string_string.f k a0 a1) (slices_Contains_string_string.f (k+1) a0 a1):=by
 intro a0 a1 k;unfold slices_Contains_string_string.f
 repeat' first
  |(with_reducible exact slices_Index_string_string.mono _ _ _)
  |(with_reducible exact LeO.refl _)
  |(with_reducible exact LeO.none _)
  |(with_reducible refine LeO.ite ?_ ?_)
  |(with_reducible refine LeO.bind ?_ (fun _=> ?_))
  |exact slices_Index_string_string.mono _ _ _
  |exact LeO.none _
  |refine LeO.ite ?_ ?_
  |refine LeO.bind ?_ (fun _=> ?_)
def mvAdd (v u:S37):S37:=⟨((vec_Add.f [u,v]).getD (0,0,0)).1,((vec_Add.f [u,v]).getD (0,0,0)).2.1,((vec_Add.f [u,v]).getD (0,0,0)).2.2⟩
def mvSub (v u:S37):S37:=⟨wrap64 (u.f0 - v.f0),wrap64 (u.f1 - v.f1),wrap64 (u.f2 - v.f2)⟩
def fitsF (k:Nat) (l:List S79) (from_:List ByteArray) (sub:S37):List ByteArray→Option Bool
  |[]=>some true
  | s :: us => (tree_Find.f l s).bind fun j => if 0 ≤ j ∧ j < (l.length : Int) then (slices_Contains_string_string.f k from_ s).bind fun c => if c = true then fitsF k l from_ sub us else
      (vec_Le.f (mvAdd sub (rd_T79 l j).f4).f0 (mvAdd sub (rd_T79 l j).f4).f1 (mvAdd sub (rd_T79 l j).f4).f2 (rd_T79 l j).f2.f0 (rd_T79 l j).f2.f1 (rd_T79 l j).f2.f2).bind fun b=>if b=true then fitsF k l from_ sub us else some false else none
theorem fitsF_mono (l:List S79) (from_:List ByteArray) (sub:S37) (k:Nat): ∀us,LeO (fitsF k l from_ sub us) (fitsF (k+1) l from_ sub us)
  |[]=>LeO.refl _
  | s :: us => by
    unfold fitsF;refine LeO.bind (LeO.refl _) (fun j=>LeO.ite (LeO.bind (slices_Contains_string_string.mono _ _ _) (fun c=>LeO.ite (fitsF_mono l from_ sub k us) (LeO.bind (LeO.refl _) (fun b=>LeO.ite (fitsF_mono l from_ sub k us) (LeO.refl _))))) (LeO.refl _))
def parF (p:ByteArray) (y:S79):S79:=⟨y.f0,p,y.f2,y.f3,y.f4,y.f5⟩
def shape_Move.f (k:Nat) (l0:List (S79)) (a1:ByteArray) (a2:ByteArray) (a3:Int):Option ((List (S79))×Int):=
 (shape_made.f l0 a1).bind fun p=>(guardF p.1 p.2 a3).bind fun e=>if e≠0 then some ([],e) else (tree_Up.f k l0 a2).bind fun ts=>(shape_change_parent.f p.1 p.2 a2).bind fun q=>if q=false then some ([],2) else
  (slices_Contains_string_string.f k ts a1).bind fun c=>if c=true then some ([],10) else (olderF p.1 p.2).bind fun o=>if o.1≠0 then some ([],o.1) else
   (tree_Up.f k l0 (rd_T79 o.2 p.2).f1).bind fun fs=>(fitsF k l0 fs (rd_T79 o.2 p.2).f4 ts).bind fun b=>if b=false then some ([],12) else
    (shiftF (mvSub (rd_T79 o.2 p.2).f4) fs o.2).bind fun l3=>(shiftF (mvAdd (rd_T79 o.2 p.2).f4) ts l3).bind fun l4=>some (l4.set p.2.toNat (parF a2 (rd_T79 l4 p.2)),0)
theorem shape_Move.mono: ∀a0 a1 a2 a3 k,LeO (shape_Move.f k a0 a1 a2 a3) (shape_Move.f (k+1) a0 a1 a2 a3):=by
 intro a0 a1 a2 a3 k;unfold shape_Move.f
 repeat' first
  |(with_reducible exact tree_Up.mono _ _ _)
  |(with_reducible exact slices_Contains_string_string.mono _ _ _)
  |(with_reducible exact fitsF_mono _ _ _ _ _)
  |(with_reducible exact LeO.refl _)
  |(with_reducible exact LeO.none _)
  |(with_reducible refine LeO.ite ?_ ?_)
  |(with_reducible refine LeO.bind ?_ (fun _=> ?_))
def tree_Below.l0:Nat→ByteArray→List ByteArray→List (S79)→Int→Int→Option (List ByteArray)
 |0,_,_,_,_,_=>none
 |k+1,x1,x5,x8,x9,x10=>if x10<x9 then (if 0≤x10 then (if x10<(x8.length:Int) then (if ((rd_T79 x8 x10).f1).toList=x1.toList then (if x5.length<8796093022208 then (tree_Below.l0 k x1 (x5++ [(rd_T79 x8 x10).f0]) x8 x9 (wrap64 (x10+1))) else (none)) else (tree_Below.l0 k x1 x5 x8 x9 (wrap64 (x10+1)))) else (none)) else (none)) else (some x5)
def tree_Below.f (k:Nat) (l0:List (S79)) (a1:ByteArray):Option (List ByteArray):=tree_Below.l0 k a1 ([]:List ByteArray) l0 (l0.length:Int) 0
theorem tree_Below.mono_l: ∀k,(∀y0 y1 y2 y3 y4,LeO (tree_Below.l0 k y0 y1 y2 y3 y4) (tree_Below.l0 (k+1) y0 y1 y2 y3 y4))
 |0=>fun _ _ _ _ _ r h=>by simp [tree_Below.l0] at h
 |k+1=>by
  have ih0:=tree_Below.mono_l k;intro y0 y1 y2 y3 y4;unfold tree_Below.l0
  repeat' with_reducible first|apply ih0|apply LeO.refl|apply LeO.none|apply LeO.ite|refine LeO.bind ?_ fun _=> ?_
theorem tree_Below.mono: ∀a0 a1 k,LeO (tree_Below.f k a0 a1) (tree_Below.f (k+1) a0 a1):=by
 intro a0 a1 k;have ih0:=tree_Below.mono_l k;unfold tree_Below.f
 repeat' first
  |(with_reducible exact ih0 _ _ _ _ _)
  |(with_reducible exact LeO.refl _)
  |(with_reducible exact LeO.none _)
  |(with_reducible refine LeO.ite ?_ ?_)
  |(with_reducible refine LeO.bind ?_ (fun _=> ?_))
  |exact ih0 _ _ _ _ _
  |exact LeO.none _
  |refine LeO.ite ?_ ?_
  |refine LeO.bind ?_ (fun _=> ?_)
def shape_Delete.f (k:Nat) (l0:List (S79)) (a1:ByteArray) (a2:Int):Option ((List (S79))×Int):=
 (shape_made.f l0 a1).bind fun p=>(guardF p.1 p.2 a2).bind fun e=>if e≠0 then some ([],e) else (tree_Below.f k l0 a1).bind fun b=>if (b.length:Int)>0 then some ([],13) else
  if (rd_T79 p.1 p.2).f3.f0=0∧(rd_T79 p.1 p.2).f3.f1=0∧(rd_T79 p.1 p.2).f3.f2=0 then some (p.1.take p.2.toNat++p.1.drop (p.2.toNat+1),0) else some ([],13)
theorem shape_Delete.mono: ∀a0 a1 a2 k,LeO (shape_Delete.f k a0 a1 a2) (shape_Delete.f (k+1) a0 a1 a2):=by
 intro a0 a1 a2 k;unfold shape_Delete.f
 repeat' first
  |(with_reducible exact tree_Below.mono _ _ _)
  |(with_reducible exact LeO.refl _)
  |(with_reducible exact LeO.none _)
  |(with_reducible refine LeO.ite ?_ ?_)
  |(with_reducible refine LeO.bind ?_ (fun _=> ?_))
def shape_Do.f (k:Nat) (l0:List (S79)) (a1_0:Int) (a1_1:ByteArray) (a1_2:ByteArray) (a1_3:Int) (a1_4:Int) (a1_5:Int) (a2:Int):Option ((List (S79))×Int):=if a1_0=1 then ((shape_Create.f l0 a1_1 a1_2 a1_3 a1_4 a1_5).bind fun bt2=>(some (bt2.1,bt2.2))) else (if a1_0=2 then ((shape_Limit.f l0 a1_1 a1_3 a1_4 a1_5 a2).bind fun bt6=>(some (bt6.1,bt6.2))) else (if a1_0=3 then ((shape_Move.f k l0 a1_1 a1_2 a2).bind fun bt10=>(some (bt10.1,bt10.2))) else (if a1_0=4 then ((shape_Delete.f k l0 a1_1 a2).bind fun bt14=>(some (bt14.1,bt14.2))) else (some (([]:List (S79)),1)))))
theorem shape_Do.mono: ∀a0 a1 a2 a3 a4 a5 a6 a7 k,LeO (shape_Do.f k a0 a1 a2 a3 a4 a5 a6 a7) (shape_Do.f (k+1) a0 a1 a2 a3 a4 a5 a6 a7):=by
 intro a0 a1 a2 a3 a4 a5 a6 a7 k;unfold shape_Do.f
 repeat' first
  |(with_reducible exact shape_Delete.mono _ _ _ _)
  |(with_reducible exact shape_Move.mono _ _ _ _ _)
  |(with_reducible exact LeO.refl _)
  |(with_reducible exact LeO.none _)
  |(with_reducible refine LeO.ite ?_ ?_)
  |(with_reducible refine LeO.bind ?_ (fun _=> ?_))
  |exact shape_Delete.mono _ _ _ _
  |exact shape_Move.mono _ _ _ _ _
  |exact LeO.none _
  |refine LeO.ite ?_ ?_
  |refine LeO.bind ?_ (fun _=> ?_)
def Kept (b:Nat) (W w:World):Prop:=(∀g ob,g≠b→W.heap[g]?=some ob→w.heap[g]?=some ob)∧W.heap.size≤w.heap.size
def trial_try.l0:Nat→List (S76)→Int→List (S79)→Int→Option ((List (S79))×Int×Int)
 |0,_,_,_,_=>none
 |k+1,ss,x,lc,dc=>if x<(ss.length:Int) then (if 0≤x then ((shape_Do.f k lc (rd_T76 ss x).f0 (rd_T76 ss x).f1 (rd_T76 ss x).f2 (rd_T76 ss x).f3.f0 (rd_T76 ss x).f3.f1 (rd_T76 ss x).f3.f2 (-1)).bind fun bt7=>if bt7.2=0 then trial_try.l0 k ss (wrap64 (x+1)) bt7.1 (wrap64 (dc+1)) else some (lc,dc,bt7.2)) else none) else some (lc,dc,0)
theorem trial_try.mono_l: ∀k y0 y1 y2 y3,LeO (trial_try.l0 k y0 y1 y2 y3) (trial_try.l0 (k+1) y0 y1 y2 y3)
  |0=>fun _ _ _ _ r h=>by simp [trial_try.l0] at h
  | k + 1 => by
    have ih0:=trial_try.mono_l k;intro y0 y1 y2 y3;unfold trial_try.l0
    repeat' first
      |(with_reducible exact ih0 _ _ _ _)
      |(with_reducible exact shape_Do.mono _ _ _ _ _ _ _ _ _)
      |(with_reducible exact LeO.refl _)
      |(with_reducible exact LeO.none _)
      |(with_reducible refine LeO.ite ?_ ?_)
      |(with_reducible refine LeO.bind ?_ (fun _=> ?_))
theorem eqA79 (d:Nat) (w:World) (x0 y0:ByteArray) (x1 y1:ByteArray) (x2 y2:Int) (x3 y3:Int) (x4 y4:Int) (x5 y5:Int) (x6 y6:Int) (x7 y7:Int) (x8 y8:Int) (x9 y9:Int) (x10 y10:Int) (x11 y11:Int):
  (Op.equalIn (d+3) 79 (.agg #[.string x0, .string x1, .int .i64 x2, .int .i64 x3, .int .i64 x4, .int .i64 x5, .int .i64 x6, .int .i64 x7, .int .i64 x8, .int .i64 x9, .int .i64 x10, .int .i64 x11]) (.agg #[.string y0, .string y1, .int .i64 y2, .int .i64 y3, .int .i64 y4, .int .i64 y5, .int .i64 y6, .int .i64 y7, .int .i64 y8, .int .i64 y9, .int .i64 y10, .int .i64 y11])).run Try.prog w= .ok (x0.toList==y0.toList && (x1.toList==y1.toList && ((x2==y2 && (x3==y3 && (x4==y4))) && ((x5==y5 && (x6==y6 && (x7==y7))) && ((x8==y8 && (x9==y9 && (x10==y10))) && (x11==y11)))))) w:=by
 refine eqA_of Try.underlying79 (by kernel_rfl) ?_;refine eqf_cons (by rfl) (by go_simp;rfl) (by go_simp;rfl) (by go_simp) ?_;refine eqf_cons (by rfl) (by go_simp;rfl) (by go_simp;rfl) (by go_simp) ?_;refine eqf_cons (by rfl) (by go_simp) (by go_simp) (eqA37 (d+0) w _ _ _ _ _ _) ?_;refine eqf_cons (by rfl) (by go_simp) (by go_simp) (eqA37 (d+0) w _ _ _ _ _ _) ?_;refine eqf_cons (by rfl) (by go_simp) (by go_simp) (eqA37 (d+0) w _ _ _ _ _ _) ?_;exact eqf_last (by rfl) (by go_simp;rfl) (by go_simp;rfl) (by go_simp)
attribute [local go_sem high] eqA79
end Go.Proofs.Ytahidkjncljkaaa.Print

namespace Go.Proofs.Ytahidkjncljkaaa.Print
open Go.RowKit Go.Proofs.YtahidkjncljkaaaW.PrintWords Go.Proofs.YtahidkjncljkaaaW.PrintLast Go.Proofs.YtahidkjncljkaaaW.PrintMore
def hasStr (l:List ByteArray) (s:ByteArray):Bool:=l.any (fun x=>decide (s.toList=x.toList))
theorem hasStr_cons (x:ByteArray) (l:List ByteArray) (s:ByteArray):hasStr (x::l) s=(decide (s.toList=x.toList)||hasStr l s):=by unfold hasStr;rw [List.any_cons]
theorem r10_in_l0 (l:List ByteArray) (s:ByteArray) (hl:l.length<1000000): ∀(d i:Nat),l.length - i=d→i≤l.length→Ev (fun k=>r10_in.l0 k l s i) (hasStr (l.drop i) s)
  | 0, i, hd, hi => by
    obtain rfl:i=l.length:=by omega
    rw [List.drop_length];refine Ev.step (f:=fun _=>some false) (fun k=> ?_) (Ev.now _);simp only [r10_in.l0];rw [if_neg (by omega)]
  | d + 1, i, hd, hi => by
    have hlt:i<l.length:=by omega
    have hrd:rdOf ByteArray.empty l (i:Int)=l[i]:=by simp [rdOf,hlt]
    rw [List.drop_eq_getElem_cons hlt,hasStr_cons];by_cases e:l[i].toList=s.toList
    · rw [decide_eq_true e.symm, Bool.true_or]
      refine Ev.step (f:=fun _=>some true) (fun k=> ?_) (Ev.now _)
      simp only [r10_in.l0]
      rw [if_pos (by omega),if_pos (by omega),hrd,if_pos e]
    rw [decide_eq_false (fun q=>e q.symm),Bool.false_or];refine Ev.step (f:=fun k=>r10_in.l0 k l s ((i+1:Nat):Int)) (fun k=> ?_) (r10_in_l0 l s hl d (i+1) (by omega) (by omega));simp only [r10_in.l0];rw [if_pos (by omega),if_pos (by omega),hrd,if_neg e,w64 (by omega) (by omega)]
    rfl
theorem r10_in_ev (l:List ByteArray) (s:ByteArray) (hl:l.length<1000000):Ev (fun k=>r10_in.f k l s) (hasStr l s):=r10_in_l0 l s hl _ 0 rfl (by omega)
theorem up_cons {l:List Item} (hl:RightP l) {x:Item} (hx:x∈l):up l x.f0=x.f0::up l x.f1:=(Chain.cons (hl.look hx) (hl.chainAll x.f1)).up
theorem sumBy_filter (g:Item→Int) (p:Item→Bool): ∀l:List Item,sumBy g (l.filter p)=sumBy (fun x=>if p x=true then g x else 0) l
  |[]=>rfl
  | x :: l => by
    rw [sumBy_cons];by_cases h:p x=true
    · rw [List.filter_cons_of_pos h,sumBy_cons,sumBy_filter g p l,if_pos h]
    rw [List.filter_cons_of_neg h,sumBy_filter g p l,if_neg h];omega
theorem below_l0 (l:List Item) (n:ByteArray) (hl:l.length<1000000): ∀(d i:Nat) (acc:List ByteArray),l.length - i=d→i≤l.length→acc.length≤i→Ev (fun k=>r10_Below.l0 k l n acc i) (acc++((l.drop i).filter (fun x=>decide (x.f1=n))).map (·.f0))
  | 0, i, acc, hd, hi, ha => by
    obtain rfl:i=l.length:=by omega
    rw [List.drop_length];refine Ev.step (f:=fun _=>some acc) (fun k=> ?_) (by rw [show acc++(([]:List Item).filter (fun x=>decide (x.f1=n))).map (·.f0)=acc from List.append_nil _];exact Ev.now _);rw [r10_Below.l0,if_neg (by omega)]
  | d + 1, i, acc, hd, hi, ha => by
    have hlt:i<l.length:=by omega
    have hrd:rd_T79 l (i:Int)=l[i]:=by rw [rd_item,Int.toNat_natCast];simp [hlt]
    rw [List.drop_eq_getElem_cons hlt];generalize l[i]=x at*;by_cases h:x.f1=n;rotate_left
    · rw [List.filter_cons_of_neg (by simpa using h)]
      refine Ev.step (f:=fun k=>r10_Below.l0 k l n acc ((i+1:Nat):Int)) (fun k=> ?_) (below_l0 l n hl d (i+1) acc (by omega) (by omega) (by omega))
      rw [r10_Below.l0,if_pos (by omega),if_pos (by omega),hrd,if_neg (fun q=>h (nm_inj.1 q)),w64 (by omega) (by omega)]
      rfl
    rw [List.filter_cons_of_pos (by exact decide_eq_true h)];refine Ev.step (f:=fun k=>r10_Below.l0 k l n (acc++ [x.f0]) ((i+1:Nat):Int)) (fun k=> ?_) ?_
    · rw [r10_Below.l0, if_pos (by omega), if_pos (by omega), hrd, if_pos (nm_inj.2 h), if_pos (by omega), w64 (by omega) (by omega)]
      rfl
    have:=below_l0 l n hl d (i+1) (acc++ [x.f0]) (by omega) (by omega) (by simp;omega)
    rw [List.append_assoc] at this;exact this
def kids (l:List Item) (n:ByteArray):List ByteArray:=(l.filter (fun x=>decide (x.f1=n))).map (·.f0)
theorem below_ev (l:List Item) (n:ByteArray) (hl:l.length<1000000):Ev (fun k=>r10_Below.f k l n) (kids l n):=by
 have h:=below_l0 l n hl _ 0 [] rfl (by omega) (by simp);rw [List.drop_zero,List.nil_append] at h;exact h
theorem kids_mem {l:List Item} {n s:ByteArray}:s∈kids l n↔ ∃y∈l,y.f1=n∧y.f0=s:=by
  unfold kids;simp only [List.mem_map,List.mem_filter,decide_eq_true_eq]
  constructor
  · rintro ⟨y,⟨h1,h2⟩,h3⟩;exact ⟨y,h1,h2,h3⟩
  rintro ⟨y,h1,h2,h3⟩;exact ⟨y,⟨h1,h2⟩,h3⟩
def oldR (l:List Item) (n:ByteArray) (ver:Int):Int:=match look l n with
 |none=>2
 |some x=>if 0≤ver∧x.f5≠ver then 14 else 0
theorem oldR_none {l:List Item} {n:ByteArray} {ver:Int} (h:look l n=none):oldR l n ver=2:=by unfold oldR;rw [h]
theorem oldR_some {l:List Item} {n:ByteArray} {ver:Int} {x:Item} (h:look l n=some x):oldR l n ver=if 0≤ver∧x.f5≠ver then 14 else 0:=by unfold oldR;rw [h]
theorem oldR_zero {l:List Item} {n:ByteArray} {ver:Int} (h:oldR l n ver=0): ∃x,look l n=some x∧(0≤ver→x.f5=ver):=by
  cases q:look l n with
  |none=>rw [oldR_none q] at h;cases h
  | some x =>
    rw [oldR_some q] at h;refine ⟨x,rfl,fun hv=> ?_⟩;by_cases e:x.f5=ver
    · exact e
    rw [if_pos ⟨hv,e⟩] at h;cases h
theorem r10_old_ev (l:List Item) (n:ByteArray) (ver:Int) (hl:l.length<1000000):Ev (fun k=>r10_old.f k l n ver) (oldR l n ver):=by
  refine Ev.bind (r10_Find_ev l n hl) (Ev.const ?_)
  cases q:look l n with
  |none=>rw [fnd_none q,oldR_none q,if_pos (by omega)]
  | some x =>
    have h0:=fnd_ge.2 ⟨x,q⟩;have h1:=fnd_lt l n;rw [if_neg (by omega),fnd_rd q,oldR_some q];by_cases e:ver≥0;rotate_left
    · rw [if_neg e,if_neg (fun h=>e h.1)]
    rw [if_pos e,if_pos h0,if_pos h1];by_cases e2:x.f5=ver
    · rw [if_pos e2,if_neg (fun h=>h.2 e2)]
    rw [if_neg e2,if_pos ⟨e,e2⟩]
def limG (n:ByteArray) (v:Vec) (x:Item):Item:=if x.f0=n then ⟨x.f0,x.f1,v,x.f3,x.f4,x.f5+1⟩ else x
def limR (l:List Item) (n:ByteArray) (v:Vec) (ver:Int):List Item×Int:=
 if¬MayP v then ([],1) else if oldR l n ver≠0 then ([],oldR l n ver) else match look l n with
  |none=>([],2)
  |some x=>if 9007199254740992≤x.f5 then ([],4) else if LeP x.f4 v then (l.map (limG n v),0) else ([],12)
theorem set_limG {l:List Item} (hl:RightP l) {n:ByteArray} {x:Item} (h:look l n=some x) (v:Vec):l.set (fnd l n).toNat ⟨x.f0,x.f1,v,x.f3,x.f4,x.f5+1⟩=l.map (limG n v):=by
  rw [set_at hl.nodup h];refine List.map_congr_left fun z hz=> ?_
  unfold limG;by_cases e:z.f0=n;rotate_left
  · rw [if_neg e,if_neg e]
  rw [if_pos e,if_pos e];have hx:=look_mem h;have:=hl.eq_of hz hx.1 (by rw [e,hx.2])
  rw [this]
theorem rd_set {l:List Item} {j:Int} (h0:0≤j) (h1:j<(l.length:Int)) (y:Item):rd_T79 (l.set j.toNat y) j=y:=by
 rw [rd_item]
 simp [List.getD_eq_getElem?_getD,show j.toNat<l.length by omega]
theorem ver_step {x:Item} (h:ItemOK x):wrap64 (x.f5+1)=x.f5+1:=by
 have:=h.ver
 exact w64 (by omega) (by omega)
theorem r10_Limit_ev {l:List Item} (hl:RightP l) (n:ByteArray) (v:Vec) (ver:Int):Ev (fun k=>r10_Limit.f k l n v.f0 v.f1 v.f2 ver) (limR l n v ver):=by
  have hlen:=hl.len;have hmv:r10_MayVec.f v.f0 v.f1 v.f2=some (decide (MayP v)):=r10_MayVec_eq _ _ _;have hno: ∀e:Int,((r10_no.f e).bind fun bt=>some (bt.1,bt.2))=some (([]:List Item),e):=fun _=>rfl
  have hcp:r10_copied.f l=some l:=r10_copied_eq l (by omega);unfold r10_Limit.f limR;rw [hmv];simp only [Option.bind_some];by_cases h1:MayP v;rotate_left
  · simp only [decide_eq_false h1]
    rw [if_pos h1]
    exact Ev.const (hno 1)
  rw [if_neg (show¬ ¬MayP v from fun h=>h h1)];simp only [decide_eq_true h1,if_true];refine Ev.bind (r10_old_ev l n ver (by omega)) ?_;by_cases h2:oldR l n ver=0;rotate_left
  · simp only [h2, if_false]
    rw [if_pos (show oldR l n ver≠0 from h2)]
    exact Ev.const (hno _)
  simp only [h2,if_true,hcp,Option.bind_some];rw [if_neg (by simp)];obtain ⟨x,hx,_⟩:=oldR_zero h2;have j0:=fnd_ge.2 ⟨x,hx⟩;have j1:=fnd_lt l n;refine Ev.bind (r10_Find_ev l n (by omega)) ?_;simp only [hx,eq_true j0,eq_true j1,if_true,fnd_rd hx];by_cases h3:9007199254740992≤x.f5
  · simp only [show (x.f5 ≥ 9007199254740992) = True from eq_true h3, h3, if_true]
    exact Ev.const (hno 4)
  simp only [show (x.f5≥9007199254740992)=False from eq_false h3,h3,if_false,r10_Le_eq,Option.bind_some];by_cases h4:LeP x.f4 v;rotate_left
  · simp only [show decide (LeP ⟨x.f4.f0, x.f4.f1, x.f4.f2⟩ ⟨v.f0, v.f1, v.f2⟩) = false from decide_eq_false h4, if_false, h4]
    exact Ev.const (hno 12)
  simp only [show decide (LeP ⟨x.f4.f0,x.f4.f1,x.f4.f2⟩ ⟨v.f0,v.f1,v.f2⟩)=true from decide_eq_true h4,if_true,h4];refine Ev.const ?_;rw [rd_set j0 j1,List.set_set];dsimp only;rw [ver_step (hl.ok x (look_mem hx).1)];exact congrArg (fun q=>some (q,(0:Int))) (set_limG hl hx v)
def delL (l:List Item) (n:ByteArray):List Item:=l.filter (fun z=>decide (z.f0≠n))
def delR (l:List Item) (n:ByteArray) (ver:Int):List Item×Int:=
 if oldR l n ver≠0 then ([],oldR l n ver) else if 0<(kids l n).length then ([],13) else match look l n with
  |none=>([],2)
  |some x=>if x.f3.f0=0∧x.f3.f1=0∧x.f3.f2=0 then (delL l n,0) else ([],13)
theorem mem_delL {l:List Item} {n:ByteArray} {x:Item}:x∈delL l n↔x∈l∧x.f0≠n:=by simp [delL]
theorem look_delL (l:List Item) (n m:ByteArray):look (delL l n) m=if m=n then none else look l m:=by
  induction l with
  |nil=>simp [delL,look]
  | cons x l ih =>
    unfold delL at ih ⊢;by_cases e:x.f0=n
    · rw [List.filter_cons_of_neg (by simpa using e), ih]
      by_cases em:m=n
      · rw [if_pos em,if_pos em]
      rw [if_neg em,if_neg em]
      unfold look
      rw [List.find?_cons]
      simp [show x.f0≠m from fun q=>em (q.symm.trans e)]
    rw [List.filter_cons_of_pos (by simpa using e)];unfold look at ih ⊢;rw [List.find?_cons,List.find?_cons,ih];by_cases em:m=n
    · rw [if_pos em, if_pos em]
      simp [show x.f0≠m from fun q=>e (q.trans em)]
    rw [if_neg em,if_neg em]
theorem cut_delL {l:List Item} (hl:RightP l) {n:ByteArray} {x:Item} (h:look l n=some x):l.take (fnd l n).toNat++l.drop ((fnd l n).toNat+1)=delL l n:=by
  obtain ⟨j,h1,h2,h3,h4,h5⟩:=fnd_some h;rw [h2,Int.toNat_natCast];have hx:l[j]=x:=by rw [←h3];simp [h1]
  have hsp:l=l.take j++l[j]::l.drop (j+1):=by rw [←List.drop_eq_getElem_cons h1,List.take_append_drop]
  have hnd:=hl.nodup;unfold delL
  conv=>rhs;rw [hsp]
  rw [hsp,List.map_append,List.map_cons,List.nodup_append] at hnd;obtain ⟨_,hn2,hn3⟩:=hnd;rw [List.nodup_cons] at hn2;rw [List.filter_append,List.filter_cons_of_neg (by rw [hx,h4];simp)]
  congr 1
  · rw [List.filter_eq_self.2]
    intro z hz
    have:=hn3 z.f0 (List.mem_map_of_mem hz) l[j].f0 (List.mem_cons_self ..)
    rw [hx,h4] at this
    simpa using this
  rw [List.filter_eq_self.2];intro z hz;have:z.f0≠l[j].f0:=fun e=>hn2.1 (by rw [←e];exact List.mem_map_of_mem hz)
  rw [hx,h4] at this
  simpa using this
theorem r10_Delete_ev {l:List Item} (hl:RightP l) (n:ByteArray) (ver:Int):Ev (fun k=>r10_Delete.f k l n ver) (delR l n ver):=by
  have hlen:=hl.len;have hno: ∀e:Int,((r10_no.f e).bind fun bt=>some (bt.1,bt.2))=some (([]:List Item),e):=fun _=>rfl
  unfold r10_Delete.f delR;refine Ev.bind (r10_old_ev l n ver (by omega)) ?_;by_cases h2:oldR l n ver=0;rotate_left
  · simp only [h2, ne_eq, not_false_eq_true, if_true, if_false]
    exact Ev.const (hno _)
  obtain ⟨x,hx,_⟩:=oldR_zero h2;have j0:=fnd_ge.2 ⟨x,hx⟩;have j1:=fnd_lt l n;simp only [h2,ne_eq,not_true_eq_false,if_false,if_true];refine Ev.bind (r10_Find_ev l n (by omega)) (Ev.bind (below_ev l n (by omega)) ?_);by_cases h3:0<(kids l n).length
  · simp only [show (((kids l n).length : Int) > 0) = True from eq_true (by omega), h3, if_true]
    refine Ev.step (f:=fun _=>some ([],13)) (fun k=> ?_) (Ev.now _)
    simp only [r10_Delete.j0,if_true]
    exact hno 13
  simp only [show (((kids l n).length:Int)>0)=False from eq_false (by omega),h3,if_false,hx,fnd_rd hx,eq_true j0,eq_true j1,if_true];by_cases h4:x.f3.f0=0∧x.f3.f1=0∧x.f3.f2=0;rotate_left
  · simp only [h4, if_false]
    refine Ev.step (f:=fun _=>some ([],13)) (fun k=> ?_) (Ev.now _)
    simp only [r10_Delete.j0]
    rw [if_pos]
    · exact hno 13
    by_cases q1:x.f3.f0=0<;>by_cases q2:x.f3.f1=0<;>by_cases q3:x.f3.f2=0<;>simp_all
  obtain ⟨q1,q2,q3⟩:=h4;simp only [q1,q2,q3,and_self,if_true,beq_self_eq_true,Bool.not_true,Bool.or_self];refine Ev.step (f:=fun _=>some (delL l n,0)) (fun k=> ?_) (Ev.now _);simp only [r10_Delete.j0];have e1:wrap64 (fnd l n+1)=fnd l n+1:=w64 (by omega) (by omega);rw [if_neg (by simp),if_pos j0,if_pos (by omega),r10_copied_eq _ (by rw [List.length_take];omega)];simp only [Option.bind_some,e1];rw [if_pos (by omega),if_pos (by omega),if_pos (by rw [List.length_take,List.length_drop];omega),show (fnd l n+1).toNat=(fnd l n).toNat+1 by omega,cut_delL hl hx]
theorem kids_none {l:List Item} {n:ByteArray} (h: ¬0<(kids l n).length): ∀y∈l,y.f1≠n:=fun y hy e=>h (List.length_pos_of_mem (kids_mem.2 ⟨y,hy,e,rfl⟩))
theorem del_right {l:List Item} (hl:RightP l) {n:ByteArray} {x:Item} (hx:look l n=some x) (hk: ∀y∈l,y.f1≠n) (h0:x.f3.f0=0∧x.f3.f1=0∧x.f3.f2=0):RightP (delL l n):=by
  obtain ⟨hxm,hxn⟩:=look_mem hx
  have hxs: ∀c:Comp,c.of x.f4=0:=fun c=>by
    have:=hl.sum c x hxm
    have e:csum c l x.f0=0:=sumBy_zero fun y hy=>if_neg (by rw [hxn];exact hk y hy)
    have e3:c.of x.f3=0:=by cases c<;>simp [Comp.of,h0]
    omega
  refine ⟨?_,fun y hy=>hl.ok y (mem_delL.1 hy).1,hl.sorted.filter _,fun y hy=> ?_,fun c y hy=> ?_,fun y hy=> ?_⟩
  · exact Nat.le_trans (List.length_filter_le _ _) hl.len
  · obtain ⟨hy1, hy2⟩ := mem_delL.1 hy
    rcases hl.par y hy1 with h|⟨z,hz⟩
    · exact .inl h
    exact .inr ⟨z,by rw [look_delL,if_neg (hk y hy1)];exact hz⟩
  · obtain ⟨hy1, hy2⟩ := mem_delL.1 hy
    rw [hl.sum c y hy1]
    congr 1
    unfold csum delL
    rw [sumBy_filter]
    refine sumBy_congr fun z hz=> ?_
    by_cases e:z.f0=n
    rotate_left
    · simp [e]
    have:z=x:=hl.eq_of hz hxm (e.trans hxn.symm)
    subst this
    simp [e,hxs c]
  obtain ⟨hy1,hy2⟩:=mem_delL.1 hy;obtain ⟨us,h⟩:=hl.chain y hy1;refine ⟨us, ?_⟩
  have: ∀{m:ByteArray} {us:List ByteArray},Chain l m us→m≠n→Chain (delL l n) m us:=by
    intro m us h
    induction h with
    |nil q=>intro hm;exact Chain.nil (by rw [look_delL,if_neg hm];exact q)
    | cons q _ ih =>
      intro hm;refine Chain.cons (by rw [look_delL,if_neg hm];exact q) (ih (hk _ (look_mem q).1))
  exact this h hy2
def updF (us:List ByteArray) (f:Item→Item) (x:Item):Item:=if x.f0∈us then f x else x
theorem updF_name {us:List ByteArray} {f:Item→Item} (hf: ∀x,(f x).f0=x.f0) (x:Item):(updF us f x).f0=x.f0:=by
  unfold updF
  split
  · exact hf x
  rfl
theorem set_upd {l:List Item} (hn:(l.map (·.f0)).Nodup) {s:ByteArray} {x:Item} (h:look l s=some x) (f:Item→Item):l.set (fnd l s).toNat (f x)=l.map (updF [s] f):=by
  rw [set_at hn h];refine List.map_congr_left fun z hz=> ?_
  unfold updF;by_cases e:z.f0=s;rotate_left
  · rw [if_neg e,if_neg (by simpa using e)]
  rw [if_pos e,if_pos (by simp [e])];have h1:=look_of_mem hn hz;rw [e,h] at h1;rw [Option.some.inj h1]
theorem upd_cons {us:List ByteArray} {s:ByteArray} (hs:s ∉ us) {f:Item→Item} (hf: ∀x,(f x).f0=x.f0) (l:List Item):(l.map (updF [s] f)).map (updF us f)=l.map (updF (s::us) f):=by
  rw [List.map_map];refine List.map_congr_left fun z hz=> ?_
  simp only [Function.comp];by_cases e:z.f0=s
  · have e1 : updF [s] f z = f z := by unfold updF; rw [if_pos (by simp [e])]
    rw [e1]
    unfold updF
    rw [if_neg (by rw [hf,e];exact hs),if_pos (by simp [e])]
  have e1:updF [s] f z=z:=by unfold updF;rw [if_neg (by simpa using e)]
  rw [e1];unfold updF;by_cases e2:z.f0∈us
  · rw [if_pos e2,if_pos (List.mem_cons_of_mem _ e2)]
  rw [if_neg e2,if_neg (by simp [e,e2])]
theorem upd_nil (f:Item→Item) (l:List Item):l.map (updF [] f)=l:=by
 rw [show updF [] f=id from by funext z;simp [updF]]
 simp
theorem nodup_upd {us:List ByteArray} {f:Item→Item} (hf: ∀x,(f x).f0=x.f0) {l:List Item} (hn:(l.map (·.f0)).Nodup):((l.map (updF us f)).map (·.f0)).Nodup:=by
 rw [List.map_map,show ((fun x:Item=>x.f0) ∘ updF us f)=(fun x=>x.f0) from by funext z;exact updF_name hf z];exact hn
theorem look_upd {us:List ByteArray} {f:Item→Item} (hf: ∀x,(f x).f0=x.f0) (l:List Item) (m:ByteArray):look (l.map (updF us f)) m=(look l m).map (updF us f):=look_map (f:=updF us f) (updF_name hf) l m
theorem shSub_name (op:Vec→Vec) (x:Item):(shSub op x).f0=x.f0:=rfl
def opA (v u:Vec):Vec:=⟨wrap64 (u.f0+v.f0),wrap64 (u.f1+v.f1),wrap64 (u.f2+v.f2)⟩
theorem mv_l0 {l:List Item} {p:ByteArray} {x:Item} {n:ByteArray} (hx:look l n=some x) (ts us:List ByteArray) (hul:us.length<1000000) {R:List Item×Int}: ∀(d i:Nat) (cur:List Item),us.length - i=d→i≤us.length→cur.length<1000000→(cur.map (·.f0)).Nodup→(us.drop i).Nodup→(∀s∈us.drop i,∃y,look cur s=some y)→
    Ev (fun k=>r10_Move.l1 k l p (fnd l n) ts (cur.map (updF (us.drop i) (shSub (mvSub x.f4)))) 0) R→Ev (fun k=>r10_Move.l0 k l p (fnd l n) ts cur us i) R
  | 0, i, cur, hd, hi, hc, hn, hu, hin, h => by
    obtain rfl:i=us.length:=by omega
    rw [List.drop_length,upd_nil] at h;refine Ev.step (f:=fun k=>r10_Move.l1 k l p (fnd l n) ts cur 0) (fun k=> ?_) h;simp only [r10_Move.l0];rw [if_neg (by omega)]
  | d + 1, i, cur, hd, hi, hc, hn, hu, hin, h => by
    have hlt:i<us.length:=by omega
    rw [drop_cons hlt] at hu hin h;rw [List.nodup_cons] at hu;obtain ⟨y,hy⟩:=hin _ (List.mem_cons_self ..);have j0:=fnd_ge.2 ⟨y,hy⟩;have j1:=fnd_lt cur (rdOf ByteArray.empty us i);have i0:=fnd_ge.2 ⟨x,hx⟩;have i1:=fnd_lt l n;rw [←upd_cons hu.1 (shSub_name _),←set_upd hn hy] at h
    have ih:=mv_l0 hx ts us hul d (i+1) _ (by omega) (by omega) (by rw [List.length_set];exact hc) (by rw [set_upd hn hy];exact nodup_upd (shSub_name (mvSub x.f4)) hn) hu.2 (fun t ht=>by
      obtain ⟨z,hz⟩:=hin t (List.mem_cons_of_mem _ ht);exact ⟨_,by rw [set_upd hn hy,look_upd (shSub_name (mvSub x.f4)),hz];rfl⟩) h
    refine Ev.step (f:=fun k=>(r10_Find.f k cur (rdOf ByteArray.empty us i)).bind fun t=>if 0≤t then (if t<(cur.length:Int) then r10_Move.l0 k l p (fnd l n) ts (cur.set t.toNat (shSub (mvSub x.f4) (rd_T79 cur t))) us ((i+1:Nat):Int) else none) else none) (fun k=> ?_) (Ev.bind (r10_Find_ev _ _ hc) ?_);rotate_left
    · simp only [eq_true j0, eq_true j1, if_true, fnd_rd hy]
      exact ih
    simp only [r10_Move.l0];rw [if_pos (by omega),if_pos (by omega)];simp only [eq_true i0,eq_true i1,if_true,fnd_rd hx];rw [w64 (n:=(i:Int)+1) (by omega) (by omega)]
    rfl
def chk (v:Vec) (cur:List Item) (us:List ByteArray):Bool:=us.all fun s=>match look cur s with
 |none=>false
 |some y=>decide (LeP (opA v y.f4) y.f2)
theorem chk_upd {v:Vec} {cur:List Item} {s:ByteArray} {us:List ByteArray} (hs:s ∉ us) {f:Item→Item} (hf: ∀x,(f x).f0=x.f0):chk v (cur.map (updF [s] f)) us=chk v cur us:=by
  unfold chk;rw [Bool.eq_iff_iff,List.all_eq_true,List.all_eq_true]
  have e: ∀t∈us,look (cur.map (updF [s] f)) t=look cur t:=fun t ht=>by
    rw [look_upd hf]
    cases q:look cur t with
    |none=>rfl
    | some y =>
      obtain ⟨_,hy⟩:=look_mem q
      show some (updF [s] f y)=some y
      unfold updF;rw [if_neg (by rw [hy];simp;rintro rfl;exact hs ht)]
  constructor<;>(intro h t ht;have:=h t ht;first|(rw [e t ht] at this;exact this)|(rw [e t ht];exact this))
def finM (l:List Item) (j:Int) (p:ByteArray):List Item:=l.set j.toNat ⟨(rd_T79 l j).f0,p,(rd_T79 l j).f2,(rd_T79 l j).f3,(rd_T79 l j).f4,wrap64 ((rd_T79 l j).f5+1)⟩
theorem mv_l1 {l:List Item} {p:ByteArray} {x:Item} {n:ByteArray} (hx:look l n=some x) (us:List ByteArray) (hul:us.length<1000000): ∀(d i:Nat) (cur:List Item),us.length - i=d→i≤us.length→cur.length<1000000→cur.length=l.length→(cur.map (·.f0)).Nodup→(us.drop i).Nodup→(∀s∈us.drop i,∃y,look cur s=some y)→
    Ev (fun k=>r10_Move.l1 k l p (fnd l n) us cur i) (if chk x.f4 cur (us.drop i)=true then (finM (cur.map (updF (us.drop i) (shSub (opA x.f4)))) (fnd l n) p,0) else ([],12))
  | 0, i, cur, hd, hi, hc, hcl, hn, hu, hin => by
    obtain rfl:i=us.length:=by omega
    have i0:=fnd_ge.2 ⟨x,hx⟩;have i1:=fnd_lt l n;rw [List.drop_length,upd_nil,if_pos (show chk x.f4 cur []=true from rfl)];refine Ev.step (f:=fun _=>some (finM cur (fnd l n) p,0)) (fun k=> ?_) (Ev.now _);simp only [r10_Move.l1];rw [if_neg (by omega),if_pos i0,if_pos (by omega)];simp only [Option.bind_some];rw [rd_set i0 (by omega),List.set_set]
    rfl
  | d + 1, i, cur, hd, hi, hc, hcl, hn, hu, hin => by
    have hlt:i<us.length:=by omega
    rw [drop_cons hlt] at hu hin ⊢;rw [List.nodup_cons] at hu;obtain ⟨y,hy⟩:=hin _ (List.mem_cons_self ..);have j0:=fnd_ge.2 ⟨y,hy⟩;have j1:=fnd_lt cur (rdOf ByteArray.empty us i);have i0:=fnd_ge.2 ⟨x,hx⟩;have i1:=fnd_lt l n
    have ih:=mv_l1 (p:=p) hx us hul d (i+1) (cur.set (fnd cur (rdOf ByteArray.empty us i)).toNat (shSub (opA x.f4) y)) (by omega) (by omega) (by rw [List.length_set];exact hc) (by rw [List.length_set];exact hcl) (by rw [set_upd hn hy];exact nodup_upd (shSub_name (opA x.f4)) hn) hu.2 (fun t ht=>by
      obtain ⟨z,hz⟩:=hin t (List.mem_cons_of_mem _ ht);exact ⟨_,by rw [set_upd hn hy,look_upd (shSub_name (opA x.f4)),hz];rfl⟩)
    have hck:chk x.f4 cur (rdOf ByteArray.empty us i::us.drop (i+1))=(decide (LeP (opA x.f4 y.f4) y.f2) && chk x.f4 cur (us.drop (i+1))):=by
      unfold chk;rw [List.all_cons,hy]
    refine Ev.step (f:=fun k=>(r10_Find.f k cur (rdOf ByteArray.empty us i)).bind fun t=>if 0≤t then (if t<(cur.length:Int) then (r10_Le.f (rd_T79 (cur.set t.toNat (shSub (opA x.f4) (rd_T79 cur t))) t).f4.f0 (rd_T79 (cur.set t.toNat (shSub (opA x.f4) (rd_T79 cur t))) t).f4.f1 (rd_T79 (cur.set t.toNat (shSub (opA x.f4) (rd_T79 cur t))) t).f4.f2 (rd_T79 (cur.set t.toNat (shSub (opA x.f4) (rd_T79 cur t))) t).f2.f0 (rd_T79 (cur.set t.toNat (shSub (opA x.f4) (rd_T79 cur t))) t).f2.f1 (rd_T79 (cur.set t.toNat (shSub (opA x.f4) (rd_T79 cur t))) t).f2.f2).bind fun b=>if b=true then r10_Move.l1 k l p (fnd l n) us (cur.set t.toNat (shSub (opA x.f4) (rd_T79 cur t))) ((i+1:Nat):Int) else some ([],12) else none) else none) (fun k=> ?_) (Ev.bind (r10_Find_ev _ _ hc) ?_)
    · simp only [r10_Move.l1]
      rw [if_pos (by omega),if_pos (by omega)]
      simp only [eq_true i0,eq_true i1,if_true,fnd_rd hx]
      rw [w64 (n:=(i:Int)+1) (by omega) (by omega)]
      rfl
    simp only [eq_true j0,eq_true j1,if_true,fnd_rd hy,rd_set j0 j1,r10_Le_eq,Option.bind_some,shSub];rw [hck];by_cases hle:LeP (opA x.f4 y.f4) y.f2;rotate_left
    · rw [decide_eq_false hle, Bool.false_and, if_neg (by simp)]
      exact Ev.congr (fun k=>if_neg (by simp)) (Ev.now _)
    rw [decide_eq_true hle,Bool.true_and];refine Ev.congr (fun k=>if_pos rfl) ?_
    rw [show chk x.f4 (cur.set (fnd cur (rdOf ByteArray.empty us i)).toNat (shSub (opA x.f4) y)) (us.drop (i+1))=chk x.f4 cur (us.drop (i+1)) from by rw [set_upd hn hy,chk_upd hu.1 (shSub_name _)],
      show (cur.set (fnd cur (rdOf ByteArray.empty us i)).toNat (shSub (opA x.f4) y)).map (updF (us.drop (i+1)) (shSub (opA x.f4)))=cur.map (updF (rdOf ByteArray.empty us i::us.drop (i+1)) (shSub (opA x.f4))) from by rw [set_upd hn hy,upd_cons hu.1 (shSub_name _)]] at ih
    exact ih
theorem hasStr_iff {l:List ByteArray} {s:ByteArray}:hasStr l s=true↔s∈l:=by
  unfold hasStr;rw [List.any_eq_true]
  constructor
  · rintro ⟨x, hx, e⟩
    rw [nm_inj.1 (of_decide_eq_true e)]
    exact hx
  intro h;exact ⟨s,h,decide_eq_true rfl⟩
def SmP (v:Vec):Prop:= ∀c:Comp, -2199023255552≤c.of v∧c.of v≤2199023255552
theorem MayP.sm {v:Vec} (h:MayP v):SmP v:=fun c=>by have:=h c;omega
theorem mvSub_eq {v u:Vec} (hv:MayP v) (hu:MayP u):mvSub v u=vsub u v:=by
 have a0:=hv .cpu;have a1:=hv .mem;have a2:=hv .pods;have b0:=hu .cpu;have b1:=hu .mem;have b2:=hu .pods;simp only [Comp.of] at a0 a1 a2 b0 b1 b2;unfold mvSub vsub;rw [w64 (by omega) (by omega),w64 (by omega) (by omega),w64 (by omega) (by omega)]
theorem vsub_sm {v u:Vec} (hv:MayP v) (hu:MayP u):SmP (vsub u v):=fun c=>by
 have a:=hv c;have b:=hu c;rw [of_vsub];omega
theorem opA_eq {v u:Vec} (hv:MayP v) (hu:SmP u):opA v u=vadd u v:=by
 have a0:=hv .cpu;have a1:=hv .mem;have a2:=hv .pods;have b0:=hu .cpu;have b1:=hu .mem;have b2:=hu .pods;simp only [Comp.of] at a0 a1 a2 b0 b1 b2;unfold opA vadd;rw [w64 (by omega) (by omega),w64 (by omega) (by omega),w64 (by omega) (by omega)]
def mvS (fs ts:List ByteArray) (v:Vec) (z:Item):Vec:=if z.f0∈ts then vadd (if z.f0∈fs then vsub z.f4 v else z.f4) v else if z.f0∈fs then vsub z.f4 v else z.f4
def movG (n p:ByteArray) (fs ts:List ByteArray) (v:Vec) (z:Item):Item:=⟨z.f0,if z.f0=n then p else z.f1,z.f2,z.f3,mvS fs ts v z,if z.f0=n then z.f5+1 else z.f5⟩
def movL (l:List Item) (n p:ByteArray) (x:Item):List Item:=l.map (movG n p (up l x.f1) (up l p) x.f4)
def movB (l:List Item) (x:Item) (p:ByteArray):Bool:=(up l p).all fun s=>hasStr (up l x.f1) s||match look l s with
 |none=>false
 |some y=>decide (LeP (vadd y.f4 x.f4) y.f2)
def movR (l:List Item) (n p:ByteArray) (ver:Int):List Item×Int:=
 if oldR l n ver≠0 then ([],oldR l n ver) else if p≠⟨#[]⟩∧(look l p).isNone=true then ([],2) else if n∈up l p then ([],10) else match look l n with
  |none=>([],2)
  |some x=>if 9007199254740992≤x.f5 then ([],4) else if movB l x p=true then (movL l n p x,0) else ([],12)
theorem mv_in {l:List Item} (hl:RightP l) {m s:ByteArray} (h:s∈up l m): ∃x,look l s=some x:=(hl.chainAll m).mem_look h
theorem not_own_way {l:List Item} (hl:RightP l) {n:ByteArray} {x:Item} (hx:look l n=some x):n ∉ up l x.f1:=by
 have h:=(Chain.cons hx (hl.chainAll x.f1)).nodup;rw [List.nodup_cons] at h;exact h.1
theorem way_len {l:List Item} (hl:RightP l) (m:ByteArray):(up l m).length<1000000:=by
 have:=up_len l m
 have:=hl.len
 omega
theorem set_one {l:List Item} (hn:(l.map (·.f0)).Nodup) {n:ByteArray} {x:Item} (h:look l n=some x) {f:Item→Item} {y:Item} (hy:y=f x):l.set (fnd l n).toNat y=l.map (updF [n] f):=by
 rw [hy];exact set_upd hn h f
theorem mov_doc {l:List Item} (hl:RightP l) {n p:ByteArray} {x:Item} (hx:look l n=some x) (hnt:n ∉ up l p):
    finM ((l.map (updF (up l x.f1) (shSub (mvSub x.f4)))).map (updF (up l p) (shSub (opA x.f4)))) (fnd l n) p=movL l n p x:=by
  obtain ⟨hxm,hxn⟩:=look_mem hx;have hxs:=(hl.ok x hxm).sub;have hnf:=not_own_way hl hx
  have e4:(l.map (updF (up l x.f1) (shSub (mvSub x.f4)))).map (updF (up l p) (shSub (opA x.f4)))=l.map fun z=>updF (up l p) (shSub (opA x.f4)) (updF (up l x.f1) (shSub (mvSub x.f4)) z):=by
    rw [List.map_map]
    rfl
  have hname: ∀z:Item,(updF (up l p) (shSub (opA x.f4)) (updF (up l x.f1) (shSub (mvSub x.f4)) z)).f0=z.f0:=fun z=>by
    rw [updF_name (shSub_name _),updF_name (shSub_name _)]
  rw [e4]
  have hn4:((l.map fun z=>updF (up l p) (shSub (opA x.f4)) (updF (up l x.f1) (shSub (mvSub x.f4)) z)).map (·.f0)).Nodup:=by
    rw [List.map_map,show ((fun x:Item=>x.f0) ∘ fun z=>updF (up l p) (shSub (opA x.f4)) (updF (up l x.f1) (shSub (mvSub x.f4)) z))=(fun x=>x.f0) from funext hname];exact hl.nodup
  have hlk:=look_map hname l n;rw [hx] at hlk;have hf4:=fnd_map hname l n;unfold finM;rw [←hf4,fnd_rd hlk];rw [set_one (f:=fun z=>⟨z.f0,p,z.f2,z.f3,z.f4,wrap64 (z.f5+1)⟩) hn4 hlk rfl,List.map_map];unfold movL;refine List.map_congr_left fun z hz=> ?_
  have hzs:=(hl.ok z hz).sub;simp only [Function.comp];by_cases e:z.f0=n
  · have hw := ver_step (hl.ok z hz)
    simp [updF,movG,mvS,e,hnf,hnt,hw]
  have ev:mvSub x.f4 z.f4=vsub z.f4 x.f4:=mvSub_eq hxs hzs;have ea:opA x.f4 z.f4=vadd z.f4 x.f4:=opA_eq hxs hzs.sm;have ea2:opA x.f4 (vsub z.f4 x.f4)=vadd (vsub z.f4 x.f4) x.f4:=opA_eq hxs (vsub_sm hxs hzs);by_cases q1:z.f0∈up l x.f1<;>by_cases q2:z.f0∈up l p<;>simp [updF,movG,mvS,shSub,e,q1,q2,ev,ea,ea2]
theorem chk_movB {l:List Item} (hl:RightP l) {n p:ByteArray} {x:Item} (hx:look l n=some x):chk x.f4 (l.map (updF (up l x.f1) (shSub (mvSub x.f4)))) (up l p)=movB l x p:=by
  obtain ⟨hxm,hxn⟩:=look_mem hx;have hxs:=(hl.ok x hxm).sub;unfold chk movB;rw [Bool.eq_iff_iff,List.all_eq_true,List.all_eq_true]
  have key: ∀s∈up l p,(match look (l.map (updF (up l x.f1) (shSub (mvSub x.f4)))) s with|none=>false|some y=>decide (LeP (opA x.f4 y.f4) y.f2))=(hasStr (up l x.f1) s||match look l s with|none=>false|some y=>decide (LeP (vadd y.f4 x.f4) y.f2)):=by
    intro s hs;obtain ⟨y,hy⟩:=mv_in hl hs;obtain ⟨hym,hyn⟩:=look_mem hy;have hys:=hl.ok y hym;rw [look_upd (shSub_name _),hy]
    show decide (LeP (opA x.f4 (updF (up l x.f1) (shSub (mvSub x.f4)) y).f4) (updF (up l x.f1) (shSub (mvSub x.f4)) y).f2)=_
    by_cases q:s∈up l x.f1;rotate_left
    · have e : updF (up l x.f1) (shSub (mvSub x.f4)) y = y := by unfold updF; rw [if_neg (by rw [hyn]; exact q)]
      have hq:hasStr (up l x.f1) s=false:=by
        cases h:hasStr (up l x.f1) s with
        |false=>rfl
        |true=>exact absurd (hasStr_iff.1 h) q
      rw [e,hq,Bool.false_or,opA_eq hxs hys.sub.sm]
    have e:updF (up l x.f1) (shSub (mvSub x.f4)) y=shSub (mvSub x.f4) y:=by unfold updF;rw [if_pos (by rw [hyn];exact q)]
    rw [e,hasStr_iff.2 q,Bool.true_or];refine decide_eq_true ?_
    show LeP (opA x.f4 (mvSub x.f4 y.f4)) y.f2
    rw [mvSub_eq hxs hys.sub,opA_eq hxs (vsub_sm hxs hys.sub)];intro c;have:=hys.fit c
    rw [of_vadd,of_vsub]
    omega
  constructor
  · intro h s hs
    exact (key s hs).symm.trans (h s hs)
  intro h s hs;exact (key s hs).trans (h s hs)
theorem movR_eq {l:List Item} {n p:ByteArray} {ver:Int} {x:Item} (h2:oldR l n ver=0) (hx:look l n=some x) (h3: ¬(p≠⟨#[]⟩∧(look l p).isNone=true)) (h4:n ∉ up l p):movR l n p ver=if 9007199254740992≤x.f5 then ([],4) else if movB l x p=true then (movL l n p x,0) else ([],12):=by
 unfold movR;rw [if_neg (by simpa using h2),if_neg h3,if_neg h4];simp only [hx]
theorem hasStr_false {l:List ByteArray} {s:ByteArray} (h:s ∉ l):hasStr l s=false:=by
 cases q:hasStr l s with
 |false=>rfl
 |true=>exact absurd (hasStr_iff.1 q) h
theorem r10_Move_ev {l:List Item} (hl:RightP l) (n p:ByteArray) (ver:Int):Ev (fun k=>r10_Move.f k l n p ver) (movR l n p ver):=by
  have hlen:=hl.len;have hno: ∀e:Int,((r10_no.f e).bind fun bt=>some (bt.1,bt.2))=some (([]:List Item),e):=fun _=>rfl
  refine Ev.bind (r10_old_ev l n ver (by omega)) ?_;by_cases h2:oldR l n ver=0;rotate_left
  · unfold movR
    rw [if_pos h2]
    refine Ev.congr (fun k=>if_neg h2) ?_
    exact Ev.const (hno _)
  obtain ⟨x,hx,_⟩:=oldR_zero h2;have j0:=fnd_ge.2 ⟨x,hx⟩;have j1:=fnd_lt l n;rw [h2];refine Ev.congr (fun k=>if_pos rfl) (Ev.bind (r10_Find_ev l n (by omega)) (Ev.bind (r10_Up_ev l p (by omega)) ?_))
  have hj0: ∀b,b=decide (p≠⟨#[]⟩∧(look l p).isNone=true)→Ev (fun k=>r10_Move.j0 k l n p (fnd l n) (up l p) b) (movR l n p ver):=by
    rintro b rfl;by_cases h3:p≠⟨#[]⟩∧(look l p).isNone=true
    · refine Ev.step (f := fun _ => some ([], 2)) (fun k => ?_) ?_
      · simp only [r10_Move.j0]
        rw [if_pos (decide_eq_true h3)]
        exact hno 2
      unfold movR
      rw [if_neg (by simpa using h2),if_pos h3]
      exact Ev.now _
    refine Ev.step (f:=fun k=>(r10_in.f k (up l p) n).bind fun t15=>if t15=true then some ([],10) else if x.f5≥9007199254740992 then some ([],4) else (r10_Up.f k l x.f1).bind fun t29=>r10_Move.l0 k l p (fnd l n) (up l p) l t29 0) (fun k=> ?_) (Ev.bind (r10_in_ev _ _ (way_len hl p)) ?_)
    · simp only [r10_Move.j0]
      rw [if_neg (by simpa using h3),fnd_rd hx,r10_copied_eq l (by omega)]
      simp only [eq_true j0,eq_true j1,if_true,Option.bind_some]
      rfl
    by_cases h4:n∈up l p
    · unfold movR
      rw [if_neg (by simpa using h2),if_neg h3,if_pos h4,hasStr_iff.2 h4]
      exact Ev.congr (fun k=>if_pos rfl) (Ev.now _)
    rw [movR_eq h2 hx h3 h4,hasStr_false h4];refine Ev.congr (fun k=>if_neg (by simp)) ?_;by_cases h5:9007199254740992≤x.f5
    · rw [if_pos h5]
      exact Ev.congr (fun k=>if_pos h5) (Ev.now _)
    rw [if_neg h5];refine Ev.congr (fun k=>if_neg h5) (Ev.bind (r10_Up_ev l x.f1 (by omega)) ?_);refine mv_l0 hx (up l p) (up l x.f1) (way_len hl _) _ 0 l rfl (by omega) (by omega) hl.nodup (by rw [List.drop_zero];exact (hl.chainAll _).nodup) (by rw [List.drop_zero];exact fun s hs=>mv_in hl hs) ?_;rw [List.drop_zero]
    have hin2: ∀s∈up l p,∃y,look (l.map (updF (up l x.f1) (shSub (mvSub x.f4)))) s=some y:=fun s hs=>by
      obtain ⟨y,hy⟩:=mv_in hl hs;exact ⟨_,by rw [look_upd (shSub_name _),hy];rfl⟩
    have h6:=mv_l1 (p:=p) hx (up l p) (way_len hl p) _ 0 (l.map (updF (up l x.f1) (shSub (mvSub x.f4)))) rfl (by omega) (by rw [List.length_map];omega) (by rw [List.length_map]) (nodup_upd (shSub_name _) hl.nodup) (by rw [List.drop_zero];exact (hl.chainAll _).nodup) (by rw [List.drop_zero];exact hin2);rw [List.drop_zero,chk_movB hl hx,mov_doc hl hx h4] at h6;exact h6
  by_cases hp:p=⟨#[]⟩
  · refine Ev.congr (fun k => if_pos (nm_empty.2 hp)) (hj0 _ ?_)
    rw [eq_comm,decide_eq_false_iff_not]
    exact fun h=>h.1 hp
  refine Ev.congr (fun k=>if_neg (fun e=>hp (nm_empty.1 e))) (hj0 _ ?_)
  cases q:look l p with
  | none =>
    rw [show up l p=[] from upGo_none q _]
    simp [hp]
  | some y =>
    have:=List.length_pos_of_mem (up_self q)
    simp only [Option.isNone_some,Bool.false_eq_true,and_false,decide_false];exact beq_eq_false_iff_ne.2 (by omega)
theorem sumBy_ge {g:Item→Int}: ∀{l:List Item},(∀x∈l,0≤g x)→ ∀{x:Item},x∈l→g x≤sumBy g l
  |[],_,_,h=>by cases h
  | y :: l, hn, x, hx => by
    rw [sumBy_cons];have h0:=hn y (by simp);have h1:=sumBy_nonneg (g:=g) (l:=l) (fun z hz=>hn z (by simp [hz]))
    rcases List.mem_cons.1 hx with rfl|hx
    · omega
    have:=sumBy_ge (g:=g) (l:=l) (fun z hz=>hn z (by simp [hz])) hx
    omega
theorem child_le {l:List Item} (hl:RightP l) {x y:Item} (hx:x∈l) (hy:look l x.f1=some y) (c:Comp):c.of x.f4≤c.of y.f4:=by
  obtain ⟨hy1,hy2⟩:=look_mem hy
  have h1:=hl.sum c y hy1
  have h2:=((hl.ok y hy1).own c).1
  have h3:c.of x.f4≤csum c l y.f0:=by
    have:=sumBy_ge (g:=fun z=>if z.f1=y.f0 then c.of z.f4 else 0) (l:=l) (fun z hz=>by
      show 0≤(if z.f1=y.f0 then c.of z.f4 else 0)
      split
      · exact ((hl.ok z hz).sub c).1
      omega) hx
    rw [if_pos hy2.symm] at this
    exact this
  omega
theorem sub_up' {l:List Item} (hl:RightP l) (c:Comp) {n:ByteArray} {us:List ByteArray} (h:Chain l n us): ∀{x:Item},look l n=some x→ ∀{z:Item},z∈l→z.f0∈us→c.of x.f4≤c.of z.f4:=by
  induction h with
  |nil h=>intro x _ z _ hz;cases hz
  | @cons n x us h k ih =>
    intro x' hx' z hz hm;rw [h] at hx';obtain rfl:=Option.some.inj hx';obtain ⟨hx,hn⟩:=look_mem h
    rcases List.mem_cons.1 hm with e|hm
    · obtain rfl := hl.eq_of hz hx (e.trans hn.symm)
      omega
    cases k with
    |nil _=>cases hm
    | @cons _ y _ hy k =>
      have h1:=child_le hl hx hy c;have h2:=ih hy hz hm
      omega
theorem sub_up {l:List Item} (hl:RightP l) {x z:Item} (hx:x∈l) (hz:z∈l) (hm:z.f0∈up l x.f0) (c:Comp):c.of x.f4≤c.of z.f4:=sub_up' hl c (hl.chainAll x.f0) (hl.look hx) hz hm
def doR (l:List Item) (kd:Int) (n p:ByteArray) (v:Vec) (ver:Int):List Item×Int:=
 if kd=1 then creR l n p v else if kd=2 then limR l n v ver else if kd=3 then movR l n p ver else if kd=4 then delR l n ver else ([],1)
theorem r10_Do_ev {l:List Item} (hl:RightP l) (kd:Int) (n p:ByteArray) (v:Vec) (ver:Int):Ev (fun k=>r10_Do.f k l kd n p v.f0 v.f1 v.f2 ver) (doR l kd n p v ver):=by
  have hlen:=hl.len;unfold r10_Do.f doR;by_cases h1:kd=1
  · simp only [h1, if_true]
    exact Ev.bind (r10_Create_ev (by omega) n p v) (Ev.now _)
  by_cases h2:kd=2
  · simp only [h1, h2, if_false, if_true]
    exact Ev.bind (r10_Limit_ev hl n v ver) (Ev.now _)
  by_cases h3:kd=3
  · simp only [h1, h2, h3, if_false, if_true]
    exact Ev.bind (r10_Move_ev hl n p ver) (Ev.now _)
  by_cases h4:kd=4
  · simp only [h1, h2, h3, h4, if_false, if_true]
    exact Ev.bind (r10_Delete_ev hl n ver) (Ev.now _)
  simp only [h1,h2,h3,h4,if_false];exact Ev.now _
theorem map_right {l:List Item} (hl:RightP l) {f:Item→Item} (h0: ∀x,(f x).f0=x.f0) (h1: ∀x,(f x).f1=x.f1) (h3: ∀x,(f x).f3=x.f3) (h4: ∀x,(f x).f4=x.f4) (h2: ∀x∈l,MayP (f x).f2∧LeP x.f4 (f x).f2) (h5: ∀x∈l,1≤(f x).f5∧(f x).f5≤9007199254740992):RightP (l.map f) where
  len:=by rw [List.length_map];exact hl.len
  ok:=by
    intro y hy
    obtain ⟨x,hx,rfl⟩:=List.mem_map.1 hy
    have k:=hl.ok x hx
    exact ⟨by rw [h0];exact k.name,by rw [h0];exact k.size,(h2 x hx).1,by rw [h3];exact k.own,by rw [h4];exact k.sub,by rw [h4];exact (h2 x hx).2,h5 x hx⟩
  sorted:=by
    rw [List.pairwise_map]
    exact hl.sorted.imp (fun {a b} h=>by rw [h0,h0];exact h)
  par:=by
    intro y hy
    obtain ⟨x,hx,rfl⟩:=List.mem_map.1 hy
    rw [h1]
    rcases hl.par x hx with h|⟨z,h⟩
    · exact .inl h
    exact .inr ⟨_,by rw [look_map h0,h];rfl⟩
  sum:=by
    intro c y hy
    obtain ⟨x,hx,rfl⟩:=List.mem_map.1 hy
    rw [h4,h3,h0,hl.sum c x hx]
    congr 1
    unfold csum
    rw [sumBy_map]
    exact sumBy_congr fun z _=>by rw [h1,h4]
  chain:=by
    intro y hy
    obtain ⟨x,hx,rfl⟩:=List.mem_map.1 hy
    obtain ⟨us,h⟩:=hl.chain x hx
    rw [h0]
    exact ⟨us,h.map h0 h1⟩
theorem lim_right {l:List Item} (hl:RightP l) {n:ByteArray} {v:Vec} {x:Item} (hx:look l n=some x) (hv:MayP v) (hle:LeP x.f4 v) (h5: ¬9007199254740992≤x.f5):RightP (l.map (limG n v)):=by
  obtain ⟨hxm,hxn⟩:=look_mem hx;have heq: ∀z∈l,z.f0=n→z=x:=fun z hz e=>hl.eq_of hz hxm (e.trans hxn.symm)
  refine map_right hl (fun z=> ?_) (fun z=> ?_) (fun z=> ?_) (fun z=> ?_) (fun z hz=> ?_) (fun z hz=> ?_)
  · unfold limG;split<;>rfl
  · unfold limG;split<;>rfl
  · unfold limG;split<;>rfl
  · unfold limG;split<;>rfl
  · unfold limG
    by_cases e:z.f0=n
    · rw [if_pos e,heq z hz e];exact ⟨hv,hle⟩
    rw [if_neg e];exact ⟨(hl.ok z hz).lim,(hl.ok z hz).fit⟩
  have:=(hl.ok z hz).ver
  unfold limG;by_cases e:z.f0=n;rotate_left
  · rw [if_neg e];exact this
  rw [if_pos e];have h6:=heq z hz e;subst h6
  show 1≤z.f5+1∧z.f5+1≤9007199254740992
  omega
theorem of_mvS (c:Comp) (fs ts:List ByteArray) (v:Vec) (z:Item):c.of (mvS fs ts v z)=c.of z.f4 - (if z.f0∈fs then c.of v else 0)+(if z.f0∈ts then c.of v else 0):=by
 unfold mvS;by_cases h1:z.f0∈ts<;>by_cases h2:z.f0∈fs<;>simp only [h1,h2,if_true,if_false,of_vadd,of_vsub]<;>omega
theorem movB_fits {l:List Item} {x:Item} {p:ByteArray} (h:movB l x p=true): ∀z,look l z.f0=some z→z.f0∈up l p→z.f0∈up l x.f1∨LeP (vadd z.f4 x.f4) z.f2:=by
  intro z hz hm;have:=List.all_eq_true.1 h z.f0 hm
  rw [hz,Bool.or_eq_true] at this
  rcases this with h|h
  · exact .inl (hasStr_iff.1 h)
  exact .inr (of_decide_eq_true h)
theorem mov_right {l:List Item} (hl:RightP l) {n p:ByteArray} {x:Item} (hx:look l n=some x) (hp:p=⟨#[]⟩∨ ∃y,look l p=some y) (hnt:n ∉ up l p) (h5: ¬9007199254740992≤x.f5) (hb:movB l x p=true):RightP (movL l n p x):=by
  obtain ⟨hxm,hxn⟩:=look_mem hx;have hxs:=(hl.ok x hxm).sub;have hnf:=not_own_way hl hx;have heq: ∀z∈l,z.f0=n→z=x:=fun z hz e=>hl.eq_of hz hxm (e.trans hxn.symm)
  have hfits:=movB_fits hb;have hge: ∀c:Comp,∀z∈l,z.f0∈up l x.f1→c.of x.f4≤c.of z.f4:=fun c z hz hm=>sub_up hl hxm hz (by rw [up_cons hl hxm];exact List.mem_cons_of_mem _ hm) c
  have hname: ∀z,(movG n p (up l x.f1) (up l p) x.f4 z).f0=z.f0:=fun _=>rfl
  have hfit: ∀c:Comp,∀z∈l,0≤c.of (mvS (up l x.f1) (up l p) x.f4 z)∧c.of (mvS (up l x.f1) (up l p) x.f4 z)≤c.of z.f2:=fun c z hz=>by
    have k:=hl.ok z hz;have a:=k.sub c;have b:=k.fit c;have d:=hxs c;rw [of_mvS];by_cases h1:z.f0∈up l x.f1
    · have e := hge c z hz h1
      by_cases h2:z.f0∈up l p
      · rw [if_pos h1,if_pos h2];omega
      rw [if_pos h1,if_neg h2];omega
    by_cases h2:z.f0∈up l p;rotate_left
    · rw [if_neg h1,if_neg h2];omega
    rw [if_neg h1,if_pos h2]
    rcases hfits z (hl.look hz) h2 with q|q
    · exact absurd q h1
    have:=q c
    rw [of_vadd] at this
    omega
  refine ⟨?_, ?_, ?_, ?_, ?_, ?_⟩
  · unfold movL;rw [List.length_map];exact hl.len
  · intro y hy
    obtain ⟨z,hz,rfl⟩:=List.mem_map.1 hy
    have k:=hl.ok z hz
    refine ⟨k.name,k.size,k.lim,k.own,fun c=> ?_,fun c=>(hfit c z hz).2, ?_⟩
    · have a := hfit c z hz; have b := (k.lim c).2
      exact ⟨a.1,Int.le_trans a.2 b⟩
    have:=k.ver
    show 1≤(if z.f0=n then z.f5+1 else z.f5)∧(if z.f0=n then z.f5+1 else z.f5)≤9007199254740992
    by_cases e:z.f0=n
    rotate_left
    · rw [if_neg e];exact this
    rw [if_pos e]
    have h6:=heq z hz e
    subst h6
    omega
  · unfold movL
    rw [List.pairwise_map]
    exact hl.sorted
  · intro y hy
    obtain ⟨z,hz,rfl⟩:=List.mem_map.1 hy
    have hlk: ∀m,look (movL l n p x) m=(look l m).map (movG n p (up l x.f1) (up l p) x.f4):=fun m=>look_map hname l m
    show (if z.f0=n then p else z.f1)=⟨#[]⟩∨ ∃y,look (movL l n p x) (if z.f0=n then p else z.f1)=some y
    by_cases e:z.f0=n
    · rw [if_pos e]
      rcases hp with h|⟨y,h⟩
      · exact .inl h
      exact .inr ⟨_,by rw [hlk,h];rfl⟩
    rw [if_neg e]
    rcases hl.par z hz with h|⟨y,h⟩
    · exact .inl h
    exact .inr ⟨_,by rw [hlk,h];rfl⟩
  rotate_left
  · intro y hy
    obtain ⟨z,hz,rfl⟩:=List.mem_map.1 hy
    show∃us,Chain (movL l n p x) z.f0 us
    have hlk: ∀m,look (movL l n p x) m=(look l m).map (movG n p (up l x.f1) (up l p) x.f4):=fun m=>look_map hname l m
    have apart: ∀{m:ByteArray} {us:List ByteArray},Chain l m us→n ∉ us→Chain (movL l n p x) m us:=by
      intro m us h
      induction h with
      |nil q=>intro _;exact Chain.nil (by rw [hlk,q];rfl)
      | @cons m y us q _ ih =>
        intro hn;rw [List.mem_cons,not_or] at hn;have hy:=ih hn.2;have hyn:=(look_mem q).2;refine Chain.cons (x:=movG n p (up l x.f1) (up l p) x.f4 y) (by rw [hlk,q];rfl) ?_
        show Chain _ (if y.f0=n then p else y.f1) us
        rw [if_neg (by rw [hyn];exact fun e=>hn.1 e.symm)];exact hy
    have hown:Chain (movL l n p x) n (n::up l p):=by
      refine Chain.cons (x:=movG n p (up l x.f1) (up l p) x.f4 x) (by rw [hlk,hx];rfl) ?_
      show Chain _ (if x.f0=n then p else x.f1) _
      rw [if_pos hxn];exact apart (hl.chainAll p) hnt
    have all: ∀{m:ByteArray} {us:List ByteArray},Chain l m us→ ∃us',Chain (movL l n p x) m us':=by
      intro m us h
      induction h with
      |nil q=>exact ⟨_,Chain.nil (by rw [hlk,q];rfl)⟩
      | @cons m y us q _ ih =>
        have hyn:=(look_mem q).2;by_cases e:y.f0=n
        · rw [← hyn, e]
          exact ⟨_,hown⟩
        obtain ⟨us',h'⟩:=ih;refine ⟨m::us',Chain.cons (us:=us') (x:=movG n p (up l x.f1) (up l p) x.f4 y) (by rw [hlk,q];rfl) ?_⟩
        show Chain _ (if y.f0=n then p else y.f1) _
        rw [if_neg e];exact h'
    exact all (hl.chainAll z.f0)
  intro c y hy;obtain ⟨z,hz,rfl⟩:=List.mem_map.1 hy
  show c.of (mvS (up l x.f1) (up l p) x.f4 z)=c.of z.f3+csum c (movL l n p x) z.f0
  have k1:=chain_kids hl (hl.chainAll x.f1) (c.of x.f4) hz;have k2:=chain_kids hl (hl.chainAll p) (c.of x.f4) hz
  have hone: ∀v:Int,sumBy (fun y=>if y.f0=n then v else 0) l=v:=fun v=>by
    have:=sumBy_one (v:=v) hl.nodup hxm
    rw [hxn] at this;exact this
  have hcs:csum c (movL l n p x) z.f0=csum c l z.f0 - sumBy (fun y=>if y.f1=z.f0∧y.f0∈up l x.f1 then c.of x.f4 else 0) l+sumBy (fun y=>if y.f1=z.f0∧y.f0∈up l p then c.of x.f4 else 0) l - sumBy (fun y=>if y.f0=n then (if x.f1=z.f0 then c.of x.f4 else 0) else 0) l+sumBy (fun y=>if y.f0=n then (if p=z.f0 then c.of x.f4 else 0) else 0) l:=by
    unfold csum movL;rw [sumBy_map,←sumBy_sub,←sumBy_add,←sumBy_sub,←sumBy_add];refine sumBy_congr fun y hy=> ?_
    show (if (if y.f0=n then p else y.f1)=z.f0 then c.of (mvS (up l x.f1) (up l p) x.f4 y) else 0)=_
    rw [of_mvS];by_cases e:y.f0=n
    · have h6 := heq y hy e
      subst h6
      have q1:y.f0 ∉ up l y.f1:=by rw [e];exact hnf
      have q2:y.f0 ∉ up l p:=by rw [e];exact hnt
      simp only [e,if_true,hnf,hnt,if_false,and_false]
      by_cases a1:y.f1=z.f0<;>by_cases a2:p=z.f0<;>simp only [a1,a2,if_true,if_false]<;>omega
    simp only [e,if_false];by_cases a1:y.f1=z.f0
    · by_cases a2:y.f0∈up l x.f1<;>by_cases a3:y.f0∈up l p<;>simp only [a1,a2,a3,true_and,if_true,if_false]<;>omega
    simp only [a1,false_and,if_false]
    omega
  rw [hcs,hone,hone,k1,k2,of_mvS];have hs:=hl.sum c z hz;have m1:z.f0=x.f1→z.f0∈up l x.f1:=fun e=>by rw [←e];exact up_self (hl.look hz)
  have m2:z.f0=p→z.f0∈up l p:=fun e=>by rw [←e];exact up_self (hl.look hz)
  have t1:(if z.f0∈up l x.f1∧z.f0≠x.f1 then c.of x.f4 else 0)+(if x.f1=z.f0 then c.of x.f4 else 0)=if z.f0∈up l x.f1 then c.of x.f4 else 0:=by
    by_cases e:z.f0=x.f1
    · rw [if_neg (fun h=>h.2 e),if_pos e.symm,if_pos (m1 e)];omega
    have e': ¬x.f1=z.f0:=fun q=>e q.symm
    by_cases q:z.f0∈up l x.f1<;>simp [e,e',q]
  have t2:(if z.f0∈up l p∧z.f0≠p then c.of x.f4 else 0)+(if p=z.f0 then c.of x.f4 else 0)=if z.f0∈up l p then c.of x.f4 else 0:=by
    by_cases e:z.f0=p
    · rw [if_neg (fun h=>h.2 e),if_pos e.symm,if_pos (m2 e)];omega
    have e': ¬p=z.f0:=fun q=>e q.symm
    by_cases q:z.f0∈up l p<;>simp [e,e',q]
  omega
theorem do_right {l:List Item} (hl:RightP l) {kd:Int} {n p:ByteArray} {v:Vec} {ver:Int} (h:(doR l kd n p v ver).2=0):RightP (doR l kd n p v ver).1:=by
  unfold doR at h ⊢
  by_cases h1:kd=1
  · rw [if_pos h1] at h ⊢
    have:=creR_right hl h
    rw [this.1]
    exact this.2.1
  rw [if_neg h1] at h ⊢
  by_cases h2:kd=2
  · rw [if_pos h2] at h ⊢
    unfold limR at h ⊢
    by_cases a1:MayP v
    rotate_left
    · rw [if_pos a1] at h;cases h
    rw [if_neg (fun q=>q a1)] at h ⊢
    by_cases a2:oldR l n ver=0
    rotate_left
    · rw [if_pos a2] at h;exact absurd h a2
    rw [if_neg (by simpa using a2)] at h ⊢
    obtain ⟨x,hx,_⟩:=oldR_zero a2
    simp only [hx] at h ⊢
    by_cases a3:9007199254740992≤x.f5
    · rw [if_pos a3] at h;cases h
    rw [if_neg a3] at h ⊢
    by_cases a4:LeP x.f4 v
    · rw [if_pos a4]
      exact lim_right hl hx a1 a4 a3
    rw [if_neg a4] at h;cases h
  rw [if_neg h2] at h ⊢
  by_cases h3:kd=3
  rotate_left
  · rw [if_neg h3] at h ⊢
    by_cases h4:kd=4
    rotate_left
    · rw [if_neg h4] at h;cases h
    rw [if_pos h4] at h ⊢
    unfold delR at h ⊢
    by_cases a2:oldR l n ver=0
    rotate_left
    · rw [if_pos a2] at h;exact absurd h a2
    rw [if_neg (by simpa using a2)] at h ⊢
    obtain ⟨x,hx,_⟩:=oldR_zero a2
    by_cases a3:0<(kids l n).length
    · rw [if_pos a3] at h;cases h
    rw [if_neg a3] at h ⊢
    simp only [hx] at h ⊢
    by_cases a4:x.f3.f0=0∧x.f3.f1=0∧x.f3.f2=0
    · rw [if_pos a4]
      exact del_right hl hx (kids_none a3) a4
    rw [if_neg a4] at h;cases h
  rw [if_pos h3] at h ⊢
  by_cases a2:oldR l n ver=0
  rotate_left
  · unfold movR at h
    rw [if_pos a2] at h
    exact absurd h a2
  obtain ⟨x,hx,_⟩:=oldR_zero a2
  by_cases a3:p≠⟨#[]⟩∧(look l p).isNone=true
  · unfold movR at h
    rw [if_neg (by simpa using a2),if_pos a3] at h
    cases h
  by_cases a4:n∈up l p
  · unfold movR at h
    rw [if_neg (by simpa using a2),if_neg a3,if_pos a4] at h
    cases h
  rw [movR_eq a2 hx a3 a4] at h ⊢
  by_cases a5:9007199254740992≤x.f5
  · rw [if_pos a5] at h;cases h
  rw [if_neg a5] at h ⊢
  by_cases a6:movB l x p=true
  rotate_left
  · rw [if_neg a6] at h;cases h
  rw [if_pos a6]
  refine mov_right hl hx ?_ a4 a5 a6
  by_cases e:p=⟨#[]⟩
  · exact .inl e
  right
  cases q:look l p with
  |none=>exact absurd ⟨e,by rw [q];rfl⟩ a3
  |some y=>exact ⟨y,rfl⟩
end Go.Proofs.Ytahidkjncljkaaa.Print

namespace Go.Proofs.Ytahidkjncljkaaa.Print
open Go.RowKit Go.Proofs.YtahidkjncljkaaaW.PrintWords Go.Proofs.YtahidkjncljkaaaW.PrintLast Go.Proofs.YtahidkjncljkaaaW.PrintMore
attribute [local go_sem] max2_int min2_int max_two min_two max_three min_three max_four min_four

end Go.Proofs.Ytahidkjncljkaaa.Print

namespace Go.Proofs.Ytahidkjncljkaaa.Print
open Go.RowKit Go.Proofs.YtahidkjncljkaaaW.PrintWords Go.Proofs.YtahidkjncljkaaaW.PrintLast Go.Proofs.YtahidkjncljkaaaW.PrintMore
abbrev Step:=S76
def trR:List Item→Int→List Step→List Item×Int×Int
 |l,d,[]=>(l,d,0)
 |l,d,s::ss=>if (doR l s.f0 s.f1 s.f2 s.f3 (-1)).2=0 then trR (doR l s.f0 s.f1 s.f2 s.f3 (-1)).1 (d+1) ss else (l,d,(doR l s.f0 s.f1 s.f2 s.f3 (-1)).2)
theorem trR_right: ∀(ss:List Step) {l:List Item} (d:Int),RightP l→RightP (trR l d ss).1
  |[],l,d,hl=>hl
  | s :: ss, l, d, hl => by
    unfold trR;by_cases h:(doR l s.f0 s.f1 s.f2 s.f3 (-1)).2=0
    · rw [if_pos h]
      exact trR_right ss _ (do_right hl h)
    rw [if_neg h];exact hl
end Go.Proofs.Ytahidkjncljkaaa.Print

namespace Go.Proofs.Ytahidkjncljkaaa.Print
open Go.RowKit Go.Proofs.YtahidkjncljkaaaW.PrintWords Go.Proofs.YtahidkjncljkaaaW.PrintLast
theorem trR_cons (l:List Item) (d:Int) (s:Step) (ss:List Step):trR l d (s::ss)=if (doR l s.f0 s.f1 s.f2 s.f3 (-1)).2=0 then trR (doR l s.f0 s.f1 s.f2 s.f3 (-1)).1 (d+1) ss else (l,d,(doR l s.f0 s.f1 s.f2 s.f3 (-1)).2):=rfl
theorem trR_shift: ∀(ss:List Step) (l:List Item) (d:Int),trR l d ss=((trR l 0 ss).1,d+(trR l 0 ss).2.1,(trR l 0 ss).2.2)
  |[],l,d=>by unfold trR;rw [Int.add_zero]
  | s :: ss, l, d => by
    unfold trR;by_cases h:(doR l s.f0 s.f1 s.f2 s.f3 (-1)).2=0;rotate_left
    · rw [if_neg h,if_neg h,Int.add_zero]
    rw [if_pos h,if_pos h,trR_shift ss _ (d+1),trR_shift ss _ (0+1)];dsimp only;rw [Int.zero_add,Int.add_assoc]
theorem trR_append: ∀(s1 s2:List Step) (l:List Item) (d:Int),(trR l d s1).2.2=0→trR l d (s1++s2)=trR (trR l d s1).1 (trR l d s1).2.1 s2
  |[],s2,l,d,_=>rfl
  | s :: ss, s2, l, d, h => by
    rw [List.cons_append,trR_cons,trR_cons];rw [trR_cons] at h;by_cases c:(doR l s.f0 s.f1 s.f2 s.f3 (-1)).2=0
    · rw [if_pos c] at h
      rw [if_pos c,if_pos c]
      exact trR_append ss s2 _ _ h
    rw [if_neg c] at h;exact absurd h c
def idle (x:Item):Item:=⟨x.f0,x.f1,x.f2,⟨0,0,0⟩,⟨0,0,0⟩,x.f5⟩
theorem look_idle (l:List Item) (n:ByteArray):look (l.map idle) n=(look l n).map idle:=look_map (f:=idle) (fun _=>rfl) l n
theorem chain_idle {l:List Item}: ∀{n:ByteArray} {us:List ByteArray},Chain l n us→Chain (l.map idle) n us:=by
 intro n us h
 induction h with
 |nil h=>exact .nil (by rw [look_idle,h];rfl)
 |cons h _ ih=>exact .cons (x:=idle _) (by rw [look_idle,h];rfl) ih
theorem idle_right {l:List Item} (h:RightP l):RightP (l.map idle) where
  len:=by rw [List.length_map];exact h.len
  ok:=fun x hx=>by
    obtain ⟨y,hy,rfl⟩:=List.mem_map.1 hx;have k:=h.ok y hy;have z:MayP (⟨0,0,0⟩:Vec):=by rw [mayP_iff];omega
    refine ⟨k.name,k.size,k.lim,z,z,fun c=> ?_,k.ver⟩;have:=(k.lim c).1
    have e:c.of (⟨0,0,0⟩:Vec)=0:=by cases c<;>rfl
    show c.of (⟨0,0,0⟩:Vec)≤c.of y.f2
    omega
  sorted:=by
    rw [List.pairwise_map];exact h.sorted
  par:=fun x hx=>by
    obtain ⟨y,hy,rfl⟩:=List.mem_map.1 hx
    rcases h.par y hy with q|⟨z,q⟩
    · exact .inl q
    exact .inr ⟨idle z,by rw [show (idle y).f1=y.f1 from rfl,look_idle,q];rfl⟩
  sum:=fun c x hx=>by
    obtain ⟨y,hy,rfl⟩:=List.mem_map.1 hx;have e:c.of (⟨0,0,0⟩:Vec)=0:=by cases c<;>rfl
    have z:csum c (l.map idle) (idle y).f0=0:=by
      unfold csum
      have: ∀(xs:List Item),sumBy (fun x:Item=>if x.f1=(idle y).f0 then c.of x.f4 else 0) (xs.map idle)=0:=fun xs=>by
        induction xs with
        |nil=>rfl
        | cons x xs ih =>
          rw [List.map_cons,sumBy_cons,ih]
          show (if x.f1=y.f0 then c.of (⟨0,0,0⟩:Vec) else 0)+0=0
          rw [e]
          split<;>rfl
      exact this l
    show c.of (⟨0,0,0⟩:Vec)=c.of (⟨0,0,0⟩:Vec)+csum c (l.map idle) (idle y).f0
    rw [z,Int.add_zero]
  chain:=fun x hx=>by
    obtain ⟨y,hy,rfl⟩:=List.mem_map.1 hx;obtain ⟨us,k⟩:=h.chain y hy;exact ⟨us,chain_idle k⟩
structure St (t:List Item) (v m:Nat) (A:ByteArray→Option ByteArray):Prop where
 right:RightP t
 idle: ∀x∈t,x.f3=⟨0,0,0⟩∧x.f4=⟨0,0,0⟩
 ver: ∀x∈t,x.f5≤v
 len:t.length≤m
 par: ∀n,(look t n).map (·.f1)=A n
def updA (A:ByteArray→Option ByteArray) (n:ByteArray) (p:Option ByteArray):ByteArray→Option ByteArray:=fun k=>if k=n then p else A k
theorem St.some {t:List Item} {v m:Nat} {A:ByteArray→Option ByteArray} (S:St t v m A) {n p:ByteArray} (h:A n=some p): ∃x,look t n=some x∧x.f1=p:=by
  have:=S.par n
  rw [h] at this
  cases e:look t n with
  |none=>rw [e] at this;cases this
  | some x =>
    rw [e] at this;exact ⟨x,rfl,Option.some.inj this⟩
theorem St.none {t:List Item} {v m:Nat} {A:ByteArray→Option ByteArray} (S:St t v m A) {n:ByteArray} (h:A n=none):look t n=none:=by
 have:=S.par n
 rw [h] at this
 cases e:look t n with
 |none=>rfl
 |some x=>rw [e] at this;cases this
theorem St.le {t:List Item} {v m v' m':Nat} {A:ByteArray→Option ByteArray} (S:St t v m A) (h:v≤v') (k:m≤m'):St t v' m' A:=⟨S.right,S.idle,fun x hx=>by have:=S.ver x hx;omega,by have:=S.len;omega,S.par⟩
theorem St.congr {t:List Item} {v m:Nat} {A B:ByteArray→Option ByteArray} (S:St t v m A) (h: ∀n,A n=B n):St t v m B:=⟨S.right,S.idle,S.ver,S.len,fun n=>(S.par n).trans (h n)⟩
theorem zero_le {v:Vec} (h:MayP v):LeP (⟨0,0,0⟩:Vec) v:=by
 obtain ⟨a,b,c⟩:=v;rw [mayP_iff] at h;rw [leP_iff]
 omega
theorem look_insN {l:List Item} {it:Item} (h:look l it.f0=none) (n:ByteArray):look (insL l it) n=if n=it.f0 then some it else look l n:=by
 obtain ⟨a,b,e,e',_,_⟩:=insL_eq l it;rw [e',look_ins a b it n (by rw [←e];exact h),←e]
theorem st_create {t:List Item} {v m:Nat} {A:ByteArray→Option ByteArray} (S:St t v m A) {n p:ByteArray} {u:Vec} (h1:n≠⟨#[]⟩∧n.size≤24) (h2:MayP u) (h3:A n=Option.none) (h4:p=⟨#[]⟩∨ ∃q,A p=Option.some q) (hm:m<120) (hv:1≤v):
    (doR t 1 n p u (-1)).2=0∧St (doR t 1 n p u (-1)).1 v (m+1) (updA A n (Option.some p)):=by
  have hl:=S.none h3
  have hp: ¬(p≠⟨#[]⟩∧(look t p).isNone=true):=by
    rintro ⟨a,b⟩
    rcases h4 with h4|⟨q,h4⟩
    · exact a h4
    obtain ⟨x,hx,_⟩:=S.some h4;rw [hx] at b;cases b
  have e:doR t 1 n p u (-1)=(insL t (newItem n p u),0):=by
    unfold doR creR;rw [if_pos rfl,if_neg (fun q=>q ⟨h1,h2⟩),if_neg (by rw [hl];simp),if_neg hp,if_neg (by have:=S.len;omega)]
  have hr:RightP (doR t 1 n p u (-1)).1:=do_right S.right (by rw [e]);rw [e] at hr ⊢;refine ⟨rfl,hr,fun x hx=> ?_,fun x hx=> ?_,by rw [len_insL];have:=S.len;omega,fun k=> ?_⟩
  · rcases mem_insL.1 hx with rfl | hx
    · exact ⟨rfl,rfl⟩
    exact S.idle x hx
  · rcases mem_insL.1 hx with rfl | hx
    · show (1:Int)≤v;omega
    exact S.ver x hx
  rw [look_insN (it:=newItem n p u) hl]
  show Option.map (fun x:Item=>x.f1) (if k=n then Option.some (newItem n p u) else look t k)=_
  unfold updA;by_cases c:k=n
  · rw [if_pos c,if_pos c];rfl
  rw [if_neg c,if_neg c];exact S.par k
theorem st_limit {t:List Item} {v m:Nat} {A:ByteArray→Option ByteArray} (S:St t v m A) {n p0:ByteArray} {u:Vec} (h2:MayP u) (h3:A n=Option.some p0) (hv:v<1000000) (p:ByteArray):
    (doR t 2 n p u (-1)).2=0∧St (doR t 2 n p u (-1)).1 (v+1) m A:=by
  obtain ⟨x,hx,hxp⟩:=S.some h3;obtain ⟨hm,hn⟩:=look_mem hx;have i:=S.idle x hm;have b:=S.ver x hm
  have e:doR t 2 n p u (-1)=(t.map (limG n u),0):=by
    unfold doR limR;rw [if_neg (by omega),if_pos rfl,if_neg (fun q=>q h2),oldR_some hx,if_neg (by rw [if_neg (by omega)];simp)];simp only [hx];rw [if_neg (by omega),if_pos (by rw [i.2];exact zero_le h2)]
  have hr:RightP (doR t 2 n p u (-1)).1:=do_right S.right (by rw [e]);rw [e] at hr ⊢;have hf: ∀y,(limG n u y).f0=y.f0:=fun y=>by unfold limG;split<;>rfl
  refine ⟨rfl,hr,fun y hy=> ?_,fun y hy=> ?_,by rw [List.length_map];exact S.len,fun k=> ?_⟩
  · obtain ⟨z, hz, rfl⟩ := List.mem_map.1 hy
    unfold limG
    split<;>exact S.idle z hz
  · obtain ⟨z, hz, rfl⟩ := List.mem_map.1 hy
    have:=S.ver z hz
    unfold limG
    split
    · show z.f5+1≤_;omega
    show z.f5≤_;omega
  rw [look_map hf,Option.map_map,←S.par k]
  congr 1
  funext y
  show (limG n u y).f1=y.f1
  unfold limG
  split<;>rfl
theorem st_move {t:List Item} {v m:Nat} {A:ByteArray→Option ByteArray} (S:St t v m A) {n p p0:ByteArray} (h3:A n=Option.some p0) (h4:p=⟨#[]⟩∨ ∃q,A p=Option.some q) (h5:n ∉ up t p) (hv:v<1000000) (u:Vec):
    (doR t 3 n p u (-1)).2=0∧St (doR t 3 n p u (-1)).1 (v+1) m (updA A n (Option.some p)):=by
  obtain ⟨x,hx,hxp⟩:=S.some h3;obtain ⟨hm,hn⟩:=look_mem hx;have i:=S.idle x hm;have b:=S.ver x hm
  have hp: ¬(p≠⟨#[]⟩∧(look t p).isNone=true):=by
    rintro ⟨a,b⟩
    rcases h4 with h4|⟨q,h4⟩
    · exact a h4
    obtain ⟨x,hx,_⟩:=S.some h4;rw [hx] at b;cases b
  have hB:movB t x p=true:=by
    unfold movB;rw [List.all_eq_true];intro s hs;obtain ⟨y,hy⟩:=mv_in S.right hs;rw [hy,Bool.or_eq_true]
    right
    have k:=S.idle y (look_mem hy).1;have g:=(S.right.ok y (look_mem hy).1).lim;dsimp only;rw [k.2,i.2];exact decide_eq_true (show LeP (⟨0+0,0+0,0+0⟩:Vec) y.f2 from zero_le g)
  have e:doR t 3 n p u (-1)=(movL t n p x,0):=by
    unfold doR;rw [if_neg (by omega),if_neg (by omega),if_pos rfl,movR_eq (by rw [oldR_some hx,if_neg (by omega)]) hx hp h5,if_neg (by omega),if_pos hB]
  have hr:RightP (doR t 3 n p u (-1)).1:=do_right S.right (by rw [e]);rw [e] at hr ⊢;refine ⟨rfl,hr,fun y hy=> ?_,fun y hy=> ?_,by unfold movL;rw [List.length_map];exact S.len,fun k=> ?_⟩
  · obtain ⟨z, hz, rfl⟩ := List.mem_map.1 hy
    have q:=S.idle z hz
    refine ⟨q.1, ?_⟩
    show mvS _ _ x.f4 z=_
    unfold mvS
    rw [q.2,i.2]
    split<;>split<;>rfl
  · obtain ⟨z, hz, rfl⟩ := List.mem_map.1 hy
    have:=S.ver z hz
    show (if z.f0=n then z.f5+1 else z.f5)≤_
    split<;>omega
  unfold movL;rw [look_map (f:=movG n p (up t x.f1) (up t p) x.f4) (fun y=>rfl),Option.map_map];unfold updA;by_cases c:k=n
  · rw [if_pos c, c, hx]
    show Option.some (if x.f0=n then p else x.f1)=_
    rw [if_pos hn]
  rw [if_neg c,←S.par k]
  cases q:look t k with
  |none=>rfl
  | some y =>
    show Option.some (if y.f0=n then p else y.f1)=Option.some y.f1
    rw [if_neg (by rw [(look_mem q).2];exact c)]
theorem st_delete {t:List Item} {v m:Nat} {A:ByteArray→Option ByteArray} (S:St t v m A) {n p0:ByteArray} (h3:A n=Option.some p0) (h4: ∀y,A y≠Option.some n) (p:ByteArray) (u:Vec):
    (doR t 4 n p u (-1)).2=0∧St (doR t 4 n p u (-1)).1 v m (updA A n Option.none):=by
  obtain ⟨x,hx,hxp⟩:=S.some h3;obtain ⟨hm,hn⟩:=look_mem hx;have i:=S.idle x hm
  have hk: ¬0<(kids t n).length:=fun q=>by
    obtain ⟨s,hs⟩:=List.exists_mem_of_length_pos q;obtain ⟨y,hy,hy1,rfl⟩:=kids_mem.1 hs;have:=S.par y.f0
    rw [look_of_mem S.right.nodup hy] at this;exact h4 y.f0 (by rw [←this];exact congrArg Option.some hy1)
  have e:doR t 4 n p u (-1)=(delL t n,0):=by
    unfold doR delR;rw [if_neg (by omega),if_neg (by omega),if_neg (by omega),if_pos rfl,oldR_some hx,if_neg (by rw [if_neg (by omega)];simp),if_neg hk];simp only [hx];rw [if_pos (by rw [i.1];exact ⟨rfl,rfl,rfl⟩)]
  have hr:RightP (doR t 4 n p u (-1)).1:=do_right S.right (by rw [e]);rw [e] at hr ⊢;refine ⟨rfl,hr,fun y hy=>S.idle y (mem_delL.1 hy).1,fun y hy=>S.ver y (mem_delL.1 hy).1,Nat.le_trans (List.length_filter_le _ _) S.len,fun k=> ?_⟩;rw [look_delL];unfold updA;by_cases c:k=n
  · rw [if_pos c,if_pos c];rfl
  rw [if_neg c,if_neg c];exact S.par k
def Run (t:List Item) (ss:List Step) (t':List Item):Prop:=(trR t 0 ss).2.2=0∧(trR t 0 ss).1=t'
theorem run_nil (t:List Item):Run t [] t:=⟨rfl,rfl⟩
theorem run_one {t:List Item} {s:Step} (h:(doR t s.f0 s.f1 s.f2 s.f3 (-1)).2=0):Run t [s] (doR t s.f0 s.f1 s.f2 s.f3 (-1)).1:=by
 unfold Run;rw [trR_cons,if_pos h];exact ⟨rfl,rfl⟩
theorem run_append {t t1 t2:List Item} {s1 s2:List Step} (h:Run t s1 t1) (k:Run t1 s2 t2):Run t (s1++s2) t2:=by
 obtain ⟨a,b⟩:=h;obtain ⟨c,d⟩:=k;unfold Run;rw [trR_append s1 s2 t 0 a,trR_shift s2,b];exact ⟨c,d⟩
structure TopOK (top:List Want):Prop where
 nodup:(top.map (·.f0)).Nodup
 par: ∀(pre post:List Want) (w:Want),top=pre++w::post→w.f1=⟨#[]⟩∨ ∃u∈pre,u.f0=w.f1
 may: ∀w∈top,(w.f0≠⟨#[]⟩∧w.f0.size≤24)∧MayP w.f2
theorem top_par {l:List Want} (ht:TreeW l) {i:Nat} (hi:i<(topR l).length) (hp:(topR l)[i].f1≠⟨#[]⟩): ∃k,k<i∧ ∃h:k<(topR l).length,(topR l)[k].f0=(topR l)[i].f1:=by
  have hw:(topR l)[i]∈l:=(topR_perm l).mem_iff.1 (List.getElem_mem hi);obtain ⟨x,hx⟩:=ht.par.2 _ hw hp;obtain ⟨hm,hf⟩:=lookW_mem hx;obtain ⟨k,hk,e⟩:=List.getElem_of_mem ((topR_perm l).mem_iff.2 hm);have hd:=depR_some ht.par (lookW_self ht.nodup hw) (by have:=ht.dep _ hw;omega);have hd1:depR l (topR l)[k].f0=depR l (topR l)[i].f1:=by rw [e,hf]
  refine ⟨k, ?_,hk,by rw [e,hf]⟩;by_cases c:k<i
  · exact c
  by_cases c2:k=i
  · subst c2;omega
  have:=List.pairwise_iff_getElem.1 (topR_sorted ht.nodup) i k hi hk (by omega)
  rw [bef_iff] at this
  omega
theorem topOK {ws:List Want} (T:TreeW ws):TopOK (topR ws) where
  nodup:=((topR_perm ws).map (·.f0)).nodup_iff.2 T.nodup
  par:=fun pre post w e=>by
    have hi:pre.length<(topR ws).length:=by rw [e];simp
    have hw:(topR ws)[pre.length]=w:=by simp [e]
    by_cases c:w.f1=⟨#[]⟩
    · exact .inl c
    obtain ⟨k,h1,h2,h3⟩:=top_par T hi (by rw [hw];exact c);refine .inr ⟨(topR ws)[k], ?_,by rw [h3,hw]⟩
    have:(topR ws)[k]=pre[k]:=by
      have:(pre++w::post)[k]'(by rw [←e];exact h2)=pre[k]:=List.getElem_append_left h1
      rw [←this]
      congr 1
    rw [this];exact List.getElem_mem _
  may:=fun w hw=>mayW_iff.1 (T.may w ((topR_perm ws).mem_iff.1 hw))
theorem lookW_snoc (pre:List Want) (w:Want) (n:ByteArray):lookW (pre++ [w]) n=match lookW pre n with
    |some u=>some u
    |none=>if w.f0=n then some w else none:=by
  unfold lookW;rw [List.find?_append]
  cases pre.find? (fun x=>decide (x.f0=n)) with
  |some u=>rfl
  | none =>
    show (none:Option Want).or _=_
    rw [Option.none_or,List.find?_cons];by_cases c:w.f0=n
    · rw [decide_eq_true c,if_pos c]
    rw [decide_eq_false c,if_neg c];rfl
theorem lookW_fresh {top pre post:List Want} {w:Want} (hn:(top.map (·.f0)).Nodup) (e:top=pre++w::post):lookW pre w.f0=none:=lookW_none.2 fun u hu q=>by
 rw [e,List.map_append,List.map_cons,List.nodup_append] at hn;exact hn.2.2 u.f0 (List.mem_map_of_mem hu) w.f0 (by simp) q
theorem lookW_has {xs:List Want} {n:ByteArray} (h: ∃u∈xs,u.f0=n): ∃u,lookW xs n=some u:=by
  cases e:lookW xs n with
  |some u=>exact ⟨u,rfl⟩
  | none =>
    obtain ⟨u,hu,q⟩:=h;exact absurd q (lookW_none.1 e u hu)
def A0 (l:List Item) (n:ByteArray):Option ByteArray:=(look l n).map (·.f1)
def AR (l:List Item) (pre:List Want) (n:ByteArray):Option ByteArray:=match A0 l n with
 |some p=>some p
 |none=>(lookW pre n).map (·.f1)
def AM (l:List Item) (top pre:List Want) (n:ByteArray):Option ByteArray:=match lookW pre n with
 |some u=>some u.f1
 |none=>AR l top n
theorem may_mx {a b:Vec} (ha:MayP a) (hb:MayP b):MayP (⟨mx a.f0 b.f0,mx a.f1 b.f1,mx a.f2 b.f2⟩:Vec):=by
 obtain ⟨a0,a1,a2⟩:=a;obtain ⟨b0,b1,b2⟩:=b;rw [mayP_iff] at ha hb ⊢;dsimp only;unfold mx;refine ⟨?_, ?_, ?_⟩<;>split<;>omega
theorem up_may {l:List Item} (hl:RightP l) (wide:Bool) {w:Want} (hw:MayP w.f2):MayP (upV l wide w):=by
  unfold upV
  cases wide with
  |true=>rw [if_pos rfl,mayP_iff];omega
  | false =>
    rw [if_neg (by simp)]
    cases h:look l w.f0 with
    |none=>exact hw
    | some x =>
      have k:=(hl.ok x (look_mem h).1).lim;exact may_mx k hw
section
variable {l:List Item} {top:List Want}
theorem phase_raise (hl:RightP l) (O:TopOK top) (wide:Bool): ∀(post pre:List Want) (t:List Item) (v m:Nat),top=pre++post→St t v m (AR l pre)→m+post.length≤120→1≤v→v+post.length≤1000→
    ∃t',Run t (post.flatMap (raiseS l wide)) t'∧St t' (v+post.length) (m+post.length) (AR l top)
  | [], pre, t, v, m, e, S, _, _, _ => by
    rw [List.append_nil] at e;subst e;exact ⟨t,run_nil t,S⟩
  | w :: post, pre, t, v, m, e, S, hm, h1, hv => by
    rw [List.length_cons] at hm hv;have hw:w∈top:=by rw [e];simp
    have mw:=O.may w hw;have e2:top=(pre++ [w])++post:=by rw [e];simp
    have fr:=lookW_fresh O.nodup e
    have step: ∃t1,Run t (raiseS l wide w) t1∧St t1 (v+1) (m+1) (AR l (pre++ [w])):=by
      cases h:look l w.f0 with
      | none =>
        have a0:A0 l w.f0=none:=by unfold A0;rw [h];rfl
        have hp:w.f1=⟨#[]⟩∨ ∃q,AR l pre w.f1=some q:=by
          rcases O.par pre post w e with q|q
          · exact .inl q
          right
          obtain ⟨u,hu⟩:=lookW_has q;unfold AR
          cases A0 l w.f1 with
          |some p=>exact ⟨p,rfl⟩
          |none=>exact ⟨u.f1,by rw [hu];rfl⟩
        obtain ⟨q1,q2⟩:=st_create S (n:=w.f0) (p:=w.f1) (u:=upV l wide w) mw.1 (up_may hl wide mw.2) (by unfold AR;rw [a0,fr];rfl) hp (by omega) h1;refine ⟨_, ?_,(q2.le (Nat.le_succ v) (Nat.le_refl _)).congr fun n=> ?_⟩
        · rw [show raiseS l wide w = [⟨1, w.f0, w.f1, upV l wide w⟩] by unfold raiseS; rw [h]]
          exact run_one (s:=⟨1,w.f0,w.f1,upV l wide w⟩) q1
        unfold updA AR;rw [lookW_snoc];by_cases c:n=w.f0
        · subst c
          rw [if_pos rfl,a0,fr,if_pos rfl];rfl
        rw [if_neg c]
        cases A0 l n with
        |some p=>rfl
        | none =>
          cases lookW pre n with
          |some u=>rfl
          |none=>rw [if_neg (fun q=>c q.symm)]
      | some x =>
        have a0:A0 l w.f0=some x.f1:=by unfold A0;rw [h];rfl
        have eq: ∀n,AR l pre n=AR l (pre++ [w]) n:=fun n=>by
          unfold AR;rw [lookW_snoc];by_cases c:n=w.f0
          · subst c;rw [a0]
          cases A0 l n with
          |some p=>rfl
          | none =>
            cases lookW pre n with
            |some u=>rfl
            |none=>rw [if_neg (fun q=>c q.symm)]
        by_cases c:neV x.f2 (upV l wide w)=true
        · obtain ⟨q1, q2⟩ := st_limit S (n := w.f0) (u := upV l wide w) (up_may hl wide mw.2) (show AR l pre w.f0 = some x.f1 by unfold AR; rw [a0]) (by omega) ⟨#[]⟩
          refine ⟨_, ?_,(q2.le (Nat.le_refl _) (Nat.le_succ m)).congr eq⟩
          rw [show raiseS l wide w=[⟨2,w.f0,⟨#[]⟩,upV l wide w⟩] by unfold raiseS;rw [h];exact if_pos c]
          exact run_one (s:=⟨2,w.f0,⟨#[]⟩,upV l wide w⟩) q1
        refine ⟨t, ?_,(S.le (Nat.le_succ v) (Nat.le_succ m)).congr eq⟩;rw [show raiseS l wide w=[] by unfold raiseS;rw [h];exact if_neg c];exact run_nil t
    obtain ⟨t1,r1,S1⟩:=step;obtain ⟨t',r2,S2⟩:=phase_raise hl O wide post (pre++ [w]) t1 (v+1) (m+1) e2 S1 (by omega) (by omega) (by omega);refine ⟨t', ?_,S2.le (by rw [List.length_cons];omega) (by rw [List.length_cons];omega)⟩;rw [List.flatMap_cons];exact run_append r1 r2
theorem chain_in {t:List Item} {v m:Nat} {pre:List Want} (S:St t v m (AM l top pre)) (hp: ∀u∈pre,u.f0≠⟨#[]⟩∧(u.f1=⟨#[]⟩∨ ∃y∈pre,y.f0=u.f1)): ∀{n:ByteArray} {us:List ByteArray},Chain t n us→(n=⟨#[]⟩∨ ∃u∈pre,u.f0=n)→ ∀s∈us,∃u∈pre,u.f0=s:=by
  intro n us h
  induction h with
  |nil _=>intro _ s hs;cases hs
  | @cons n x us hx _ ih =>
    intro hn s hs
    have hn': ∃u∈pre,u.f0=n:=by
      rcases hn with rfl|hn
      · exact absurd (look_mem hx).2 (S.right.ok x (look_mem hx).1).name
      exact hn
    rcases List.mem_cons.1 hs with rfl|hs
    · exact hn'
    obtain ⟨u,hu⟩:=lookW_has hn'
    have q:=S.par n
    rw [hx] at q
    unfold AM at q
    rw [hu] at q
    have q1:x.f1=u.f1:=Option.some.inj q
    exact ih (by rw [q1];exact (hp u (lookW_mem hu).1).2) s hs
theorem phase_move (O:TopOK top): ∀(post pre:List Want) (t:List Item) (v m:Nat),top=pre++post→St t v m (AM l top pre)→v+post.length≤1000→
    ∃t',Run t (post.flatMap (moveS l)) t'∧St t' (v+post.length) m (AM l top top)
  | [], pre, t, v, m, e, S, _ => by
    rw [List.append_nil] at e;subst e;exact ⟨t,run_nil t,S⟩
  | w :: post, pre, t, v, m, e, S, hv => by
    rw [List.length_cons] at hv;have hw:w∈top:=by rw [e];simp
    have e2:top=(pre++ [w])++post:=by rw [e];simp
    have fr:=lookW_fresh O.nodup e;obtain ⟨y,hy⟩:=lookW_has (xs:=top) (n:=w.f0) ⟨w,hw,rfl⟩
    have hyw:y=w:=by
      have:=lookW_self O.nodup hw
      rw [hy] at this;exact Option.some.inj this
    subst hyw
    have closed: ∀u∈pre,u.f0≠⟨#[]⟩∧(u.f1=⟨#[]⟩∨ ∃z∈pre,z.f0=u.f1):=fun u hu=>by
      refine ⟨(O.may u (by rw [e];simp [hu])).1.1, ?_⟩;obtain ⟨a,b,q⟩:=List.append_of_mem hu
      rcases O.par a (b++y::post) u (by rw [e,q];simp) with r|⟨z,hz,r⟩
      · exact .inl r
      exact .inr ⟨z,by rw [q];simp [hz],r⟩
    have keep:A0 l y.f0=none∨A0 l y.f0=some y.f1→ ∀n,AM l top pre n=AM l top (pre++ [y]) n:=fun q n=>by
      unfold AM;rw [lookW_snoc]
      cases h:lookW pre n with
      |some u=>rfl
      | none =>
        by_cases c:y.f0=n;rotate_left
        · rw [if_neg c]
        subst c;rw [if_pos rfl];dsimp only;unfold AR
        rcases q with q|q
        · rw [q,hy];rfl
        rw [q]
    have step: ∃t1,Run t (moveS l y) t1∧St t1 (v+1) m (AM l top (pre++ [y])):=by
      cases h:look l y.f0 with
      | none =>
        refine ⟨t, ?_,(S.le (Nat.le_succ v) (Nat.le_refl m)).congr (keep (.inl (by unfold A0;rw [h];rfl)))⟩;rw [show moveS l y=[] by unfold moveS;rw [h]];exact run_nil t
      | some x =>
        have a0:A0 l y.f0=some x.f1:=by unfold A0;rw [h];rfl
        by_cases c:x.f1=y.f1
        · refine ⟨t, ?_, (S.le (Nat.le_succ v) (Nat.le_refl m)).congr (keep (.inr (by rw [a0, c])))⟩
          rw [show moveS l y=[] by unfold moveS;rw [h];exact if_pos c]
          exact run_nil t
        have hn:AM l top pre y.f0=some x.f1:=by
          unfold AM;rw [fr];dsimp only;unfold AR;rw [a0]
        have hpar:=O.par pre post y e
        have hp:y.f1=⟨#[]⟩∨ ∃q,AM l top pre y.f1=some q:=by
          rcases hpar with q|q
          · exact .inl q
          obtain ⟨u,hu⟩:=lookW_has q;exact .inr ⟨u.f1,by unfold AM;rw [hu]⟩
        have hup:y.f0 ∉ up t y.f1:=fun q=>by
          obtain ⟨u,hu,r⟩:=chain_in S closed (S.right.chainAll y.f1) hpar y.f0 q;exact lookW_none.1 fr u hu r
        obtain ⟨q1,q2⟩:=st_move S (n:=y.f0) (p:=y.f1) hn hp hup (by omega) ⟨0,0,0⟩;refine ⟨_, ?_,q2.congr fun n=> ?_⟩
        · rw [show moveS l y = [⟨3, y.f0, y.f1, ⟨0, 0, 0⟩⟩] by unfold moveS; rw [h]; exact if_neg c]
          exact run_one (s:=⟨3,y.f0,y.f1,⟨0,0,0⟩⟩) q1
        unfold updA AM;rw [lookW_snoc];by_cases d:n=y.f0
        · subst d
          rw [if_pos rfl,fr,if_pos rfl]
        rw [if_neg d]
        cases lookW pre n with
        |some u=>rfl
        |none=>rw [if_neg (fun q=>d q.symm)]
    obtain ⟨t1,r1,S1⟩:=step;obtain ⟨t',r2,S2⟩:=phase_move O post (pre++ [y]) t1 (v+1) m e2 S1 (by omega);refine ⟨t', ?_,S2.le (by rw [List.length_cons];omega) (Nat.le_refl m)⟩;rw [List.flatMap_cons];exact run_append r1 r2
theorem phase_lower {A:ByteArray→Option ByteArray} (wide:Bool): ∀(xs:List Want) (t:List Item) (v m:Nat),(∀w∈xs,(∃p,A w.f0=some p)∧MayP w.f2)→St t v m A→v+xs.length≤1000→ ∃t',Run t (xs.flatMap (lowerS l wide)) t'∧St t' (v+xs.length) m A
  |[],t,v,m,_,S,_=>⟨t,run_nil t,S⟩
  | w :: xs, t, v, m, h, S, hv => by
    rw [List.length_cons] at hv;obtain ⟨⟨p,hp⟩,mw⟩:=h w (by simp)
    have step: ∃t1,Run t (lowerS l wide w) t1∧St t1 (v+1) m A:=by
      by_cases c:neV (upV l wide w) w.f2=true
      · obtain ⟨q1, q2⟩ := st_limit S (n := w.f0) (u := w.f2) mw hp (by omega) ⟨#[]⟩
        refine ⟨_, ?_,q2⟩
        rw [show lowerS l wide w=[⟨2,w.f0,⟨#[]⟩,w.f2⟩] from if_pos c]
        exact run_one (s:=⟨2,w.f0,⟨#[]⟩,w.f2⟩) q1
      refine ⟨t, ?_,S.le (Nat.le_succ v) (Nat.le_refl m)⟩;rw [show lowerS l wide w=[] from if_neg c];exact run_nil t
    obtain ⟨t1,r1,S1⟩:=step;obtain ⟨t',r2,S2⟩:=phase_lower wide xs t1 (v+1) m (fun u hu=>h u (by simp [hu])) S1 (by omega);refine ⟨t', ?_,S2.le (by rw [List.length_cons];omega) (Nat.le_refl m)⟩;rw [List.flatMap_cons];exact run_append r1 r2
end
theorem befG_iff {l:List Item} {n a:ByteArray}:befG l n a=true↔depU l n<depU l a∨(depU l a=depU l n∧lt a n=true):=by unfold befG;simp
theorem befG_trans {l:List Item} {a b c:ByteArray} (h:befG l b a=true) (k:befG l c b=true):befG l c a=true:=by
  rw [befG_iff] at h k ⊢
  rcases h with h|⟨h,h'⟩<;>rcases k with k|⟨k,k'⟩
  · exact .inl (by omega)
  · exact .inl (by omega)
  · exact .inl (by omega)
  exact .inr ⟨by omega,lt_trans h' k'⟩
theorem befG_total {l:List Item} {a n:ByteArray} (h:befG l n a=false) (hn:a≠n):befG l a n=true:=by
  rw [←Bool.not_eq_true,befG_iff] at h;rw [befG_iff];by_cases e:depU l a=depU l n;rotate_left
  · exact .inl (by have: ¬depU l n<depU l a:=fun q=>h (.inl q);omega)
  refine .inr ⟨e.symm,lt_total ?_ hn⟩;rw [←Bool.not_eq_true];exact fun q=>h (.inr ⟨e,q⟩)
theorem insG_perm (l:List Item) (n:ByteArray) (out:List ByteArray):(insG l n out).Perm (n::out):=by
 unfold insG;have:=List.perm_middle (a:=n) (l₁:=out.takeWhile (befG l n)) (l₂:=out.dropWhile (befG l n))
 rwa [List.takeWhile_append_dropWhile] at this
theorem insG_sorted {l:List Item} {n:ByteArray} {out:List ByteArray} (h:out.Pairwise (fun a b=>befG l b a=true)) (hn:n ∉ out):(insG l n out).Pairwise (fun a b=>befG l b a=true):=by
  induction out with
  |nil=>simp [insG]
  | cons x out ih =>
    rw [List.pairwise_cons] at h;rw [List.mem_cons,not_or] at hn;unfold insG;rw [List.takeWhile_cons,List.dropWhile_cons];by_cases c:befG l n x=true
    · rw [c]
      show (x::insG l n out).Pairwise _
      rw [List.pairwise_cons]
      refine ⟨fun a ha=> ?_,ih h.2 hn.2⟩
      rcases List.mem_cons.1 ((insG_perm l n out).mem_iff.1 ha) with rfl|ha
      · exact c
      exact h.1 a ha
    rw [Bool.eq_false_iff.2 c]
    show (n::x::out).Pairwise _
    have hw:=befG_total (Bool.eq_false_iff.2 c) (fun q=>hn.1 q.symm);rw [List.pairwise_cons,List.pairwise_cons];refine ⟨fun a ha=> ?_,h⟩
    rcases List.mem_cons.1 ha with rfl|ha
    · exact hw
    exact befG_trans hw (h.1 a ha)
def goneN (ws:List Want) (ms:List PMark):List ByteArray:=(ms.filter (fun m=> !isWant ws m.f0)).map (·.f0)
theorem goesGo_perm (ws:List Want) (l:List Item): ∀(ms:List PMark) (out:List ByteArray),(goesGo ws l out ms).Perm (out++goneN ws ms)
  |[],out=>by rw [goesGo];show List.Perm out (out++ []);rw [List.append_nil]
  | m :: ms, out => by
    rw [goesGo];by_cases c:isWant ws m.f0=true
    · rw [if_pos c]
      have:goneN ws (m::ms)=goneN ws ms:=by unfold goneN;rw [List.filter_cons_of_neg (by rw [c];simp)]
      rw [this]
      exact goesGo_perm ws l ms out
    rw [if_neg c];have:goneN ws (m::ms)=m.f0::goneN ws ms:=by unfold goneN;rw [List.filter_cons_of_pos (by rw [Bool.eq_false_iff.2 c];rfl)];rfl
    rw [this];refine (goesGo_perm ws l ms _).trans (((insG_perm l m.f0 out).append_right _).trans ?_);exact List.perm_middle.symm
theorem goesGo_sorted (ws:List Want) (l:List Item): ∀(ms:List PMark) (out:List ByteArray),out.Pairwise (fun a b=>befG l b a=true)→(out++goneN ws ms).Nodup→(goesGo ws l out ms).Pairwise (fun a b=>befG l b a=true)
  |[],out,h,_=>by rw [goesGo];exact h
  | m :: ms, out, h, hn => by
    rw [goesGo];by_cases c:isWant ws m.f0=true
    · rw [if_pos c]
      have:goneN ws (m::ms)=goneN ws ms:=by unfold goneN;rw [List.filter_cons_of_neg (by rw [c];simp)]
      rw [this] at hn
      exact goesGo_sorted ws l ms out h hn
    rw [if_neg c];have:goneN ws (m::ms)=m.f0::goneN ws ms:=by unfold goneN;rw [List.filter_cons_of_pos (by rw [Bool.eq_false_iff.2 c];rfl)];rfl
    rw [this] at hn;have hn2:=hn;rw [List.nodup_append] at hn2;refine goesGo_sorted ws l ms _ (insG_sorted h (fun q=>hn2.2.2 m.f0 q m.f0 (by simp) rfl)) ?_;refine ((insG_perm l m.f0 out).append_right _).nodup_iff.2 ?_;exact (List.perm_middle (a:=m.f0) (l₁:=out) (l₂:=goneN ws ms)).nodup_iff.1 hn
def AD (A:ByteArray→Option ByteArray) (pre:List ByteArray) (n:ByteArray):Option ByteArray:=if n∈pre then none else A n
theorem phase_del {A:ByteArray→Option ByteArray} {gs:List ByteArray} {v m:Nat} (h1: ∀g∈gs,∃p,A g=some p) (h2:gs.Nodup) (h3: ∀pre g post,gs=pre++g::post→ ∀y,A y=some g→y∈pre): ∀(post pre:List ByteArray) (t:List Item),gs=pre++post→St t v m (AD A pre)→ ∃t',Run t (post.map delS) t'∧St t' v m (AD A gs)
  | [], pre, t, e, S => by
    rw [List.append_nil] at e;subst e;exact ⟨t,run_nil t,S⟩
  | g :: post, pre, t, e, S => by
    obtain ⟨p,hp⟩:=h1 g (by rw [e];simp)
    have hg:g ∉ pre:=fun q=>by
      rw [e,List.nodup_append] at h2;exact h2.2.2 g q g (by simp) rfl
    obtain ⟨q1,q2⟩:=st_delete S (n:=g) (p0:=p) (by unfold AD;rw [if_neg hg];exact hp) (fun y hy=>by
      unfold AD at hy;by_cases c:y∈pre
      · rw [if_pos c] at hy;cases hy
      rw [if_neg c] at hy;exact c (h3 pre g post e y hy)) ⟨#[]⟩ ⟨0,0,0⟩
    have r1:=run_one (s:=delS g) (t:=t) q1
    obtain ⟨t',r2,S2⟩:=phase_del h1 h2 h3 post (pre++ [g]) _ (by rw [e];simp) (q2.congr fun n=>by
      unfold updA AD;by_cases c:n=g
      · rw [if_pos c,if_pos (by simp [c])]
      rw [if_neg c];by_cases d:n∈pre
      · rw [if_pos d,if_pos (by simp [d])]
      rw [if_neg d,if_neg (by simp [d,c])])
    exact ⟨t',run_append r1 r2,S2⟩
def looseL (l:List Item):List PMark:=l.map fun x=>⟨x.f0,x.f1,x.f2,x.f5⟩
theorem wide_some (l:List Item): ∀(xs:List Want) (b:Bool),∃wd,wideGo l (looseL l) b xs=some wd
  |[],b=>⟨b,rfl⟩
  | w :: xs, b => by
    rw [wideGo]
    cases h:look l w.f0 with
    |none=>exact wide_some l xs b
    | some x =>
      have: ¬mlook (looseL l) w.f0=none:=fun q=>by
        obtain ⟨hm,hf⟩:=look_mem h;exact mlook_none.1 q _ (List.mem_map_of_mem hm) hf
      dsimp only;rw [if_neg this];exact wide_some l xs _
theorem isWant_false {ws:List Want} {n:ByteArray}:isWant ws n=false↔ ∀w∈ws,w.f0≠n:=by
 unfold isWant
 simp
theorem plan_ok {l:List Item} (hl:RightP l) (hi: ∀x∈l,x.f3=⟨0,0,0⟩∧x.f4=⟨0,0,0⟩) (hv: ∀x∈l,x.f5=1) (h24:l.length≤24) {ws:List Want} (hc:checkR ws=0) (hw:ws.length≤24):
    (planR ws (looseL l) l).2=0∧ ∃t',Run l (planR ws (looseL l) l).1 t':=by
  have T:=checkR_tree (.inl hc);have O:=topOK T;have P:=topR_perm ws;have hlen:(topR ws).length≤24:=by rw [P.length_eq];exact hw
  obtain ⟨wide,hwd⟩:=wide_some l (topR ws) false;unfold planR;rw [if_pos hc,hwd];refine ⟨rfl, ?_⟩
  have S0:St l 1 l.length (AR l []):=⟨hl,hi,fun x hx=>by rw [hv x hx];omega,Nat.le_refl _,fun n=>by
    unfold AR A0
    cases look l n with
    |none=>rfl
    |some x=>rfl⟩
  obtain ⟨t1,r1,S1⟩:=phase_raise hl O wide (topR ws) [] l 1 l.length rfl S0 (by omega) (by omega) (by omega);obtain ⟨t2,r2,S2⟩:=phase_move (l:=l) O (topR ws) [] t1 _ _ rfl (S1.congr fun n=>rfl) (by omega)
  have hin: ∀w∈(topR ws).reverse,(∃p,AM l (topR ws) (topR ws) w.f0=some p)∧MayP w.f2:=fun w hw=>by
    rw [List.mem_reverse] at hw;obtain ⟨u,hu⟩:=lookW_has (xs:=topR ws) (n:=w.f0) ⟨w,hw,rfl⟩;exact ⟨⟨u.f1,by unfold AM;rw [hu]⟩,(O.may w hw).2⟩
  obtain ⟨t3,r3,S3⟩:=phase_lower (l:=l) wide (topR ws).reverse t2 _ _ hin S2 (by rw [List.length_reverse];omega)
  have gn:goneN ws (looseL l)=(l.filter (fun x=> !isWant ws x.f0)).map (·.f0):=by
    unfold goneN looseL;rw [List.filter_map,List.map_map]
    rfl
  have hperm:(goesR ws (looseL l) l).Perm ((l.filter (fun x=> !isWant ws x.f0)).map (·.f0)):=by
    have:=goesGo_perm ws l (looseL l) []
    rw [List.nil_append,gn] at this;exact this
  have hnd:((l.filter (fun x=> !isWant ws x.f0)).map (·.f0)).Nodup:=hl.nodup.sublist (List.filter_sublist.map _);have hsort:(goesR ws (looseL l) l).Pairwise (fun a b=>befG l b a=true):=goesGo_sorted ws l (looseL l) [] (by simp) (by rw [List.nil_append,gn];exact hnd)
  have hmem: ∀g,g∈goesR ws (looseL l) l↔(∃x∈l,x.f0=g)∧isWant ws g=false:=fun g=>by
    rw [hperm.mem_iff,List.mem_map]
    constructor
    · rintro ⟨x, hx, rfl⟩
      rw [List.mem_filter] at hx
      exact ⟨⟨x,hx.1,rfl⟩,by simpa using hx.2⟩
    rintro ⟨⟨x,hx,rfl⟩,q⟩;exact ⟨x,List.mem_filter.2 ⟨hx,by rw [q];rfl⟩,rfl⟩
  have notop: ∀g,isWant ws g=false→lookW (topR ws) g=none:=fun g q=>lookW_none.2 fun u hu=>isWant_false.1 q u (P.mem_iff.1 hu)
  have a1: ∀g,lookW (topR ws) g=none→AM l (topR ws) (topR ws) g=A0 l g:=fun g q=>by
    unfold AM AR;rw [q];dsimp only
    cases A0 l g<;>rfl
  obtain ⟨t4,r4,S4⟩:=phase_del (A:=AM l (topR ws) (topR ws)) (gs:=goesR ws (looseL l) l) (fun g hg=>by
      obtain ⟨⟨x,hx,rfl⟩,q⟩:=(hmem g).1 hg;rw [a1 _ (notop _ q)];unfold A0;rw [look_of_mem hl.nodup hx];exact ⟨x.f1,rfl⟩) (hperm.nodup_iff.2 hnd) (fun pre g post e y hy=>by
      obtain ⟨⟨x,hx,rfl⟩,q⟩:=(hmem g).1 (by rw [e];simp)
      cases hy2:lookW (topR ws) y with
      | some u =>
        unfold AM at hy;rw [hy2] at hy;have hu1:u.f1=x.f0:=Option.some.inj hy;obtain ⟨hu,_⟩:=lookW_mem hy2;obtain ⟨a,b,s⟩:=List.append_of_mem hu
        rcases O.par a b u s with r|⟨z,hz,r⟩
        · rw [hu1] at r;exact absurd r (hl.ok x hx).name
        exact absurd (r.trans hu1) (isWant_false.1 q z (P.mem_iff.1 (by rw [s];simp [hz])))
      | none =>
        rw [a1 y hy2] at hy;unfold A0 at hy
        cases hy3:look l y with
        |none=>rw [hy3] at hy;cases hy
        | some z =>
          rw [hy3] at hy;have hz1:z.f1=x.f0:=Option.some.inj hy;obtain ⟨hz,rfl⟩:=look_mem hy3;have ch:Chain l z.f0 (z.f0::up l x.f0):= .cons hy3 (by rw [hz1];exact hl.chainAll x.f0)
          have hd:depU l z.f0=depU l x.f0+1:=by
            unfold depU;rw [ch.up,List.length_cons]
            omega
          have hzw:isWant ws z.f0=false:=isWant_false.2 fun w hw k=>lookW_none.1 hy2 w (P.mem_iff.2 hw) k
          have hzg:z.f0∈goesR ws (looseL l) l:=(hmem _).2 ⟨⟨z,hz,rfl⟩,hzw⟩;rw [e] at hzg hsort
          rcases List.mem_append.1 hzg with k|k
          · exact k
          rcases List.mem_cons.1 k with k|k
          · rw [k] at hd;omega
          have:=(List.pairwise_cons.1 (List.pairwise_append.1 hsort).2.1).1 _ k
          rw [befG_iff] at this
          omega) (goesR ws (looseL l) l) [] t3 rfl (S3.congr fun n=>by unfold AD;rw [if_neg (by simp)])
  exact ⟨t4,run_append (run_append (run_append r1 r2) r3) r4⟩
end Go.Proofs.Ytahidkjncljkaaa.Print

namespace Go.Proofs.Ytahidkjncljkaaa.Print
open Go.RowKit Go.Proofs.YtahidkjncljkaaaW.PrintWords Go.Proofs.YtahidkjncljkaaaW.PrintLast Go.Proofs.YtahidkjncljkaaaW.PrintMore
theorem raise_kind2 {l:List Item} {wide:Bool} {y:Want} {x:PStep} (h:x∈raiseS l wide y):(x.f0=1∨x.f0=2)∧x.f1=y.f0:=by
  unfold raiseS at h
  split at h
  · rw [List.mem_singleton] at h;subst h;exact ⟨.inl rfl,rfl⟩
  split at h
  · rw [List.mem_singleton] at h;subst h;exact ⟨.inr rfl,rfl⟩
  cases h
theorem move_kind2 {l:List Item} {y:Want} {x:PStep} (h:x∈moveS l y):x.f0=3∧x.f1=y.f0:=by
  unfold moveS at h
  split at h
  · cases h
  split at h
  · cases h
  rw [List.mem_singleton] at h;subst h;exact ⟨rfl,rfl⟩
theorem lower_kind2 {l:List Item} {wide:Bool} {y:Want} {x:PStep} (h:x∈lowerS l wide y):x.f0=2∧x.f1=y.f0:=by
  unfold lowerS at h
  split at h
  · rw [List.mem_singleton] at h;subst h;exact ⟨rfl,rfl⟩
  cases h
theorem flat_lenP {α β:Type} (f:α→List β) (hf: ∀w,(f w).length≤1): ∀xs:List α,(xs.flatMap f).length≤xs.length
 |[]=>Nat.le_refl _
 |x::xs=>by rw [List.flatMap_cons,List.length_append,List.length_cons];have:=hf x;have:=flat_lenP f hf xs;omega
theorem plan_len (ws:List Want) (m:List PMark) (l:List Item) (wd:Bool):((((topR ws).flatMap (raiseS l wd)++(topR ws).flatMap (moveS l))++(topR ws).reverse.flatMap (lowerS l wd))++(goesR ws m l).map delS).length≤3*ws.length+m.length:=by
 have h1: ∀w,(raiseS l wd w).length≤1:=fun w=>by unfold raiseS;split<;>(try split)<;>simp
 have h2: ∀w,(moveS l w).length≤1:=fun w=>by unfold moveS;split<;>(try split)<;>simp
 have h3: ∀w,(lowerS l wd w).length≤1:=fun w=>by unfold lowerS;split<;>simp
 have g1:=flat_lenP _ h1 (topR ws);have g2:=flat_lenP _ h2 (topR ws);have g3:=flat_lenP _ h3 (topR ws).reverse;have g4:(goesR ws m l).length≤m.length:=by have:=len_goesGo ws l m [];rw [List.length_nil,Nat.zero_add] at this;exact this
 have hp:=(topR_perm ws).length_eq;rw [List.length_reverse] at g3;rw [List.length_append,List.length_append,List.length_append,List.length_map]
 omega
abbrev At:=Option (ByteArray×Vec)
def PL (t:List Item) (n:ByteArray):At:=(look t n).map (fun x=>(x.f1,x.f2))
def stp (a:At) (s:PStep):At:=if s.f0=1 then some (s.f2,s.f3) else if s.f0=2 then a.map (fun q=>(q.1,s.f3)) else if s.f0=3 then a.map (fun q=>(s.f2,q.2)) else none
theorem do_pl {t:List Item} {kd:Int} {n p:ByteArray} {u:Vec} (h:(doR t kd n p u (-1)).2=0) (k:ByteArray):PL (doR t kd n p u (-1)).1 k=if k=n then stp (PL t k) ⟨kd,n,p,u⟩ else PL t k:=by
  unfold doR at h ⊢;by_cases h1:kd=1
  · rw [if_pos h1] at h ⊢
    unfold creR at h ⊢
    split at h
    · simp at h
    rename_i c1
    split at h
    · simp at h
    rename_i c2
    split at h
    · simp at h
    rename_i c3
    split at h
    · simp at h
    rename_i c4
    rw [if_neg c1,if_neg c2,if_neg c3,if_neg c4]
    have hl:look t n=none:=by cases e:look t n with
      |none=>rfl
      |some x=>rw [e] at c2;exact absurd rfl c2
    unfold PL
    rw [look_insN (it:=newItem n p u) hl]
    show Option.map _ (if k=n then some (newItem n p u) else look t k)=_
    by_cases c:k=n
    rotate_left
    · rw [if_neg c,if_neg c]
    rw [if_pos c,if_pos c]
    unfold stp
    rw [if_pos h1];rfl
  rw [if_neg h1] at h ⊢;by_cases h2:kd=2
  · rw [if_pos h2] at h ⊢
    unfold limR at h ⊢
    split at h
    · simp at h
    rename_i c1
    split at h
    · rename_i c2;exact absurd h c2
    rename_i c2
    rw [if_neg c1,if_neg c2]
    cases e:look t n with
    |none=>rw [e] at h;simp at h
    | some x =>
      rw [e] at h;dsimp only at h ⊢
      split at h
      · simp at h
      rename_i c3
      split at h
      rotate_left
      · simp at h
      rename_i c4
      rw [if_neg c3,if_pos c4];unfold PL;have hf: ∀y,(limG n u y).f0=y.f0:=fun y=>by unfold limG;split<;>rfl
      rw [look_map hf,Option.map_map];by_cases c:k=n
      · rw [if_pos c, c, e]
        unfold stp
        rw [if_neg h1,if_pos h2]
        show some ((limG n u x).f1,(limG n u x).f2)=some (x.f1,u)
        unfold limG
        rw [if_pos (look_mem e).2]
      rw [if_neg c]
      cases q:look t k with
      |none=>rfl
      | some y =>
        show some ((limG n u y).f1,(limG n u y).f2)=some (y.f1,y.f2)
        unfold limG;rw [if_neg (by rw [(look_mem q).2];exact c)]
  rw [if_neg h2] at h ⊢;by_cases h3:kd=3
  · rw [if_pos h3] at h ⊢
    unfold movR at h ⊢
    split at h
    · rename_i c1;exact absurd h c1
    rename_i c1
    split at h
    · simp at h
    rename_i c2
    split at h
    · simp at h
    rename_i c3
    rw [if_neg c1,if_neg c2,if_neg c3]
    cases e:look t n with
    |none=>rw [e] at h;simp at h
    | some x =>
      rw [e] at h;dsimp only at h ⊢
      split at h
      · simp at h
      rename_i c4
      split at h
      rotate_left
      · simp at h
      rename_i c5
      rw [if_neg c4,if_pos c5];unfold PL movL;rw [look_map (f:=movG n p (up t x.f1) (up t p) x.f4) (fun y=>rfl),Option.map_map];by_cases c:k=n
      · rw [if_pos c, c, e]
        unfold stp
        rw [if_neg h1,if_neg h2,if_pos h3]
        show some (if x.f0=n then p else x.f1,x.f2)=some _
        rw [if_pos (look_mem e).2]
      rw [if_neg c]
      cases q:look t k with
      |none=>rfl
      | some y =>
        show some (if y.f0=n then p else y.f1,y.f2)=some (y.f1,y.f2)
        rw [if_neg (by rw [(look_mem q).2];exact c)]
  rw [if_neg h3] at h ⊢;by_cases h4:kd=4;rotate_left
  · rw [if_neg h4] at h
    simp at h
  rw [if_pos h4] at h ⊢;unfold delR at h ⊢
  split at h
  · rename_i c1;exact absurd h c1
  rename_i c1
  split at h
  · simp at h
  rename_i c2
  rw [if_neg c1,if_neg c2]
  cases e:look t n with
  |none=>rw [e] at h;simp at h
  | some x =>
    rw [e] at h;dsimp only at h ⊢
    split at h
    rotate_left
    · simp at h
    rename_i c3
    rw [if_pos c3];unfold PL;rw [look_delL];by_cases c:k=n;rotate_left
    · rw [if_neg c,if_neg c]
    rw [if_pos c,if_pos c];unfold stp;rw [if_neg h1,if_neg h2,if_neg h3];rfl
theorem run_pl: ∀(ss:List PStep) {t t':List Item},Run t ss t'→ ∀n,PL t' n=(ss.filter (fun s=>decide (s.f1=n))).foldl stp (PL t n)
  | [], t, t', h, n => by
    obtain ⟨_,rfl⟩:=h
    rfl
  | s :: ss, t, t', h, n => by
    unfold Run at h
    rw [trR_cons] at h
    by_cases c:(doR t s.f0 s.f1 s.f2 s.f3 (-1)).2=0
    rotate_left
    · rw [if_neg c] at h
      exact absurd h.1 c
    rw [if_pos c,trR_shift] at h
    have ih:=run_pl ss (t:=(doR t s.f0 s.f1 s.f2 s.f3 (-1)).1) (t':=t') ⟨h.1,h.2⟩ n
    rw [ih,do_pl c]
    by_cases d:s.f1=n
    · rw [List.filter_cons_of_pos (by simpa using d),List.foldl_cons,if_pos d.symm]
    rw [List.filter_cons_of_neg (by simpa using d),if_neg (fun q=>d q.symm)]
theorem run_right: ∀(ss:List PStep) {t t':List Item},Run t ss t'→RightP t→RightP t'
  | ss, t, t', h, hr => by
    obtain ⟨_,rfl⟩:=h;exact trR_right ss 0 hr
theorem flat_name {f:Want→List PStep} (hf: ∀y x,x∈f y→x.f1=y.f0) {n:ByteArray}: ∀{ys:List Want},(ys.map (·.f0)).Nodup→(ys.flatMap f).filter (fun s=>decide (s.f1=n))=(match lookW ys n with|some y=>f y|none=> [])
  |[],_=>rfl
  | y :: ys, hn => by
    rw [List.map_cons,List.nodup_cons] at hn
    rw [List.flatMap_cons,List.filter_append,flat_name hf hn.2]
    unfold lookW
    rw [List.find?_cons]
    by_cases c:y.f0=n
    · rw [decide_eq_true c]
      have h1:(f y).filter (fun s=>decide (s.f1=n))=f y:=List.filter_eq_self.2 fun s hs=>decide_eq_true ((hf y s hs).trans c)
      have h2:ys.find? (fun x=>decide (x.f0=n))=none:=by
        rw [List.find?_eq_none]
        intro z hz q
        exact hn.1 (by rw [c,←of_decide_eq_true q];exact List.mem_map_of_mem hz)
      rw [h1,h2]
      exact List.append_nil _
    rw [decide_eq_false c]
    have h1:(f y).filter (fun s=>decide (s.f1=n))=[]:=by
      rw [List.filter_eq_nil_iff]
      intro s hs q
      exact c ((hf y s hs).symm.trans (of_decide_eq_true q))
    rw [h1]
    exact List.nil_append _
theorem stp_want {l:List Item} (wd:Bool) (w:Want):((raiseS l wd w++moveS l w)++lowerS l wd w).foldl stp (PL l w.f0)=some (w.f1,w.f2):=by
  have low: ∀a:ByteArray,(lowerS l wd w).foldl stp (some (a,upV l wd w))=some (a,w.f2):=fun a=>by
    unfold lowerS;by_cases c:neV (upV l wd w) w.f2=true
    · rw [if_pos c];rfl
    rw [if_neg c];rw [neV_iff] at c
    show some (a,upV l wd w)=_
    rw [Classical.byContradiction c]
  rw [List.foldl_append,List.foldl_append];unfold raiseS moveS PL
  cases e:look l w.f0 with
  |none=>exact low w.f1
  | some x =>
    dsimp only;by_cases c:neV x.f2 (upV l wd w)=true
    · rw [if_pos c]
      by_cases d:x.f1=w.f1
      · rw [if_pos d]
        show List.foldl stp (some (x.f1,upV l wd w)) (lowerS l wd w)=_
        rw [low,d]
      rw [if_neg d]
      exact low w.f1
    rw [if_neg c];rw [neV_iff] at c;have c:=Classical.byContradiction c;by_cases d:x.f1=w.f1
    · rw [if_pos d]
      show List.foldl stp (some (x.f1,x.f2)) (lowerS l wd w)=_
      rw [c,low,d]
    rw [if_neg d]
    show List.foldl stp (some (w.f1,x.f2)) (lowerS l wd w)=_
    rw [c,low]
theorem dels_none: ∀(ss:List PStep) (a:At),(∀s∈ss,s.f0=4)→ss≠ []→ss.foldl stp a=none
  |[],a,_,h=>absurd rfl h
  | [s], a, h, _ => by
    have:=h s (by simp)
    show stp a s=none
    unfold stp;rw [this];rfl
  |s::s2::ss,a,h,_=>dels_none (s2::ss) (stp a s) (fun x hx=>h x (List.mem_cons_of_mem _ hx)) (by simp)
theorem plan_leads {l t':List Item} (hl:RightP l) {ws:List Want} (hc:checkR ws=0) (hr:Run l (planR ws (looseL l) l).1 t'):(∀w∈ws,PL t' w.f0=some (w.f1,w.f2))∧(∀n,n ∉ ws.map (·.f0)→PL t' n=none):=by
  have T:=checkR_tree (.inl hc)
  have P:=topR_perm ws
  have hnd:((topR ws).map (·.f0)).Nodup:=(P.map (·.f0)).nodup_iff.2 T.nodup
  obtain ⟨wd,hwd⟩:=wide_some l (topR ws) false
  have hp:(planR ws (looseL l) l).1=(((topR ws).flatMap (raiseS l wd)++(topR ws).flatMap (moveS l))++(topR ws).reverse.flatMap (lowerS l wd))++(goesR ws (looseL l) l).map delS:=by
    unfold planR
    rw [if_pos hc,hwd]
  rw [hp] at hr
  have key:=run_pl _ hr
  have hg:(goesR ws (looseL l) l).Perm (goneN ws (looseL l)):=by
    have:=goesGo_perm ws l (looseL l) []
    rwa [List.nil_append] at this
  have hgm: ∀g,g∈goesR ws (looseL l) l↔(∃x∈l,x.f0=g)∧isWant ws g=false:=fun g=>by
    rw [hg.mem_iff]
    unfold goneN looseL
    rw [List.mem_map]
    constructor
    rotate_left
    · rintro ⟨⟨x, hx, rfl⟩, q⟩
      exact ⟨_,List.mem_filter.2 ⟨List.mem_map_of_mem hx,by show (!isWant ws x.f0)=true;rw [q];rfl⟩,rfl⟩
    rintro ⟨q,hq,rfl⟩
    rw [List.mem_filter,List.mem_map] at hq
    obtain ⟨⟨x,hx,rfl⟩,hq⟩:=hq
    exact ⟨⟨x,hx,rfl⟩,by simpa using hq⟩
  have rv: ∀n,lookW (topR ws).reverse n=lookW (topR ws) n:=fun n=>by
    cases e:lookW (topR ws) n with
    |none=>exact lookW_none.2 fun u hu=>lookW_none.1 e u (List.mem_reverse.1 hu)
    | some u =>
      obtain ⟨hm,rfl⟩:=lookW_mem e
      exact lookW_self (by rw [List.map_reverse];exact (List.reverse_perm _).nodup_iff.2 hnd) (List.mem_reverse.2 hm)
  have parts: ∀n,PL t' n=((((match lookW (topR ws) n with|some y=>raiseS l wd y|none=> [])++(match lookW (topR ws) n with|some y=>moveS l y|none=> []))++(match lookW (topR ws) n with|some y=>lowerS l wd y|none=> []))++((goesR ws (looseL l) l).map delS).filter (fun s=>decide (s.f1=n))).foldl stp (PL l n):=fun n=>by
    rw [key n,List.filter_append,List.filter_append,List.filter_append,flat_name (fun y x hx=>(raise_kind2 hx).2) hnd,flat_name (fun y x hx=>(move_kind2 hx).2) hnd,flat_name (fun y x hx=>(lower_kind2 hx).2) (by rw [List.map_reverse];exact (List.reverse_perm _).nodup_iff.2 hnd),rv]
  constructor
  · intro w hw
    have hw':=P.mem_iff.2 hw
    have e:=lookW_self hnd hw'
    have hz:((goesR ws (looseL l) l).map delS).filter (fun s=>decide (s.f1=w.f0))=[]:=by
      rw [List.filter_eq_nil_iff]
      intro s hs q
      obtain ⟨g,hg',rfl⟩:=List.mem_map.1 hs
      have q:g=w.f0:=of_decide_eq_true q
      exact isWant_false.1 ((hgm g).1 hg').2 w hw q.symm
    rw [parts,e,hz,List.append_nil]
    exact stp_want wd w
  intro n hn
  have e:lookW (topR ws) n=none:=lookW_none.2 fun u hu q=>hn (by rw [←q];exact List.mem_map_of_mem (P.mem_iff.1 hu))
  rw [parts,e]
  show List.foldl stp (PL l n) (List.filter (fun s=>decide (s.f1=n)) ((goesR ws (looseL l) l).map delS))=none
  by_cases c:n∈goesR ws (looseL l) l
  · refine dels_none _ _ (fun s hs => ?_) ?_
    · obtain ⟨g, _, rfl⟩ := List.mem_map.1 (List.mem_filter.1 hs).1
      rfl
    exact List.ne_nil_of_mem (a:=delS n) (List.mem_filter.2 ⟨List.mem_map_of_mem c,decide_eq_true rfl⟩)
  have hz:((goesR ws (looseL l) l).map delS).filter (fun s=>decide (s.f1=n))=[]:=by
    rw [List.filter_eq_nil_iff]
    intro s hs q
    obtain ⟨g,hg',rfl⟩:=List.mem_map.1 hs
    have q:g=n:=of_decide_eq_true q
    exact c (by rw [←q];exact hg')
  rw [hz]
  show PL l n=none
  unfold PL
  cases h:look l n with
  |none=>rfl
  | some x =>
    obtain ⟨hm,hx⟩:=look_mem h
    exact absurd ((hgm n).2 ⟨⟨x,hm,hx⟩,isWant_false.2 fun w hw q=>hn (by rw [←q];exact List.mem_map_of_mem hw)⟩) c
theorem leads_len {t':List Item} (hr:RightP t') {ws:List Want} (hn:(ws.map (·.f0)).Nodup) (h1: ∀w∈ws,PL t' w.f0=some (w.f1,w.f2)) (h2: ∀n,n ∉ ws.map (·.f0)→PL t' n=none):t'.length=ws.length:=by
  have a:=hr.nodup.length_le_of_subset (l₂:=ws.map (·.f0)) (fun n hq=>by
    obtain ⟨x,hx,rfl⟩:=List.mem_map.1 hq;refine Classical.byContradiction fun c=> ?_
    have:=h2 _ c
    unfold PL at this;rw [look_of_mem hr.nodup hx] at this
    cases this)
  have b:=hn.length_le_of_subset (l₂:=t'.map (·.f0)) (fun n hq=>by
    obtain ⟨w,hw,rfl⟩:=List.mem_map.1 hq;have:=h1 w hw
    unfold PL at this
    cases e:look t' w.f0 with
    |none=>rw [e] at this;cases this
    | some x =>
      obtain ⟨hm,hx⟩:=look_mem e;rw [←hx];exact List.mem_map_of_mem hm)
  rw [List.length_map,List.length_map] at a b
  omega
theorem mx_zero {a:Int} (h:0≤a):mx 0 a=a:=by unfold mx;split<;>omega
theorem mx3 {a b:Int} (h:0≤b):mx (mx 0 a) b=mx a b:=by unfold mx;repeat' split<;>omega
theorem nowG_eq {l:List Item} (wide:Bool) {y:Want} (h:MayP y.f2):nowG wide (goalOf l y)=upV l wide y:=by
  have h0:=(mayP_iff.1 h).1.1;have h1:=(mayP_iff.1 h).2.1.1;have h2:=(mayP_iff.1 h).2.2.1;unfold nowG upV
  cases wide with
  |true=>rfl
  | false =>
    rw [if_neg (by simp),if_neg (by simp)];unfold goalOf
    cases look l y.f0 with
    | none =>
      show (⟨mx (mx 0 0) y.f2.f0,mx (mx 0 0) y.f2.f1,mx (mx 0 0) y.f2.f2⟩:Vec)=y.f2
      rw [mx3 h0,mx3 h1,mx3 h2,mx_zero h0,mx_zero h1,mx_zero h2]
    | some x =>
      show (⟨mx (mx 0 x.f2.f0) y.f2.f0,mx (mx 0 x.f2.f1) y.f2.f1,mx (mx 0 x.f2.f2) y.f2.f2⟩:Vec)=_
      rw [mx3 h0,mx3 h1,mx3 h2]
theorem bq (a b:Int):(a==b)=(b==a):=by
 rw [Bool.eq_iff_iff,beq_iff_eq,beq_iff_eq];exact ⟨Eq.symm,Eq.symm⟩
theorem neG_neV (a b:Vec):neG a b=neV b a:=by
 unfold neG neV;rw [show (a.f0==b.f0)=(b.f0==a.f0) from bq _ _,show (a.f1==b.f1)=(b.f1==a.f1) from bq _ _,show (a.f2==b.f2)=(b.f2==a.f2) from bq _ _]
theorem upG_f (l:List Item) (wide:Bool) (y:Want):(upG wide (goalOf l y)).f0=y∧(upG wide (goalOf l y)).f1=(goalOf l y).f1∧(upG wide (goalOf l y)).f2=(goalOf l y).f2∧(goalOf l y).f0=y:=by
 have:(goalOf l y).f0=y:=by unfold goalOf;split<;>rfl
 exact ⟨this,rfl,rfl,this⟩
theorem raise_eq {l:List Item} (wide:Bool) {y:Want} (h:MayP y.f2):raiseG wide (goalOf l y)=raiseS l wide y:=by
 have e:=nowG_eq (l:=l) wide h;have q: ∀z:PGoal,raiseG wide z=if z.f2=false then [⟨1,z.f0.f0,z.f0.f1,nowG wide z⟩] else if neG (nowG wide z) z.f1.f2=true then [⟨2,z.f0.f0,⟨#[]⟩,nowG wide z⟩] else []:=fun z=>rfl
 rw [q,e,neG_neV,(upG_f l wide y).2.2.2];unfold raiseS goalOf
 cases look l y.f0 with
 |none=>exact if_pos rfl
 |some x=>exact if_neg (by simp)
theorem move_eq {l:List Item} (wide:Bool) (y:Want):moveG (upG wide (goalOf l y))=moveS l y:=by
  have q: ∀z:PGoal,moveG (upG wide z)=if z.f2=true∧z.f1.f1.toList≠z.f0.f1.toList then [⟨3,z.f0.f0,z.f0.f1,⟨0,0,0⟩⟩] else []:=fun z=>rfl
  rw [q,(upG_f l wide y).2.2.2];unfold moveS goalOf
  cases look l y.f0 with
  |none=>exact if_neg (by simp [gzero])
  | some x =>
    dsimp only;by_cases c:x.f1=y.f1
    · rw [if_pos c,if_neg (by rw [c];simp)]
    rw [if_neg c,if_pos ⟨rfl,nm_ne.2 c⟩]
theorem lower_eq {l:List Item} (wide:Bool) {y:Want} (h:MayP y.f2):lowerG (upG wide (goalOf l y))=lowerS l wide y:=by
 have q: ∀z:PGoal,lowerG (upG wide z)=if neG (nowG wide z) z.f0.f2=true then [⟨2,z.f0.f0,⟨#[]⟩,z.f0.f2⟩] else []:=fun z=>rfl
 rw [q,nowG_eq wide h,neG_neV,(upG_f l wide y).2.2.2];unfold lowerS;rw [show neV y.f2 (upV l wide y)=neV (upV l wide y) y.f2 from Bool.eq_iff_iff.2 (by rw [neV_iff,neV_iff];exact ⟨fun a b=>a b.symm,fun a b=>a b.symm⟩)]
theorem wide_eq (l:List Item) (ms:List PMark): ∀(ys:List Want) (b:Bool),wideP l ms b ys=wideGo l ms b ys
  |[],b=>rfl
  | y :: ys, b => by
    have q:(ms.any (fun m=>m.f0.toList==y.f0.toList))=(mlook ms y.f0).isSome:=by
      unfold mlook;rw [List.isSome_find?]
      congr 1
      funext m
      exact nm_beq _ _
    unfold wideP wideGo badW wideOf;rw [q,wide_eq l ms ys]
    cases look l y.f0 with
    |none=>rw [if_neg (by simp)];dsimp only;rw [Bool.or_false]
    | some x =>
      dsimp only
      cases mlook ms y.f0 with
      |none=>rw [if_pos (by simp),if_pos rfl]
      | some m =>
        rw [if_neg (by simp),if_neg (by simp)];rw [show (x.f1.toList !=y.f1.toList)= !decide (x.f1=y.f1) from by unfold bne;rw [nm_beq]]
theorem flat_congr {α β:Type} {f g:α→List β}: ∀{l:List α},(∀x∈l,f x=g x)→l.flatMap f=l.flatMap g
  |[],_=>rfl
  | x :: l, h => by
    rw [List.flatMap_cons,List.flatMap_cons,h x (by simp),flat_congr fun y hy=>h y (List.mem_cons_of_mem _ hy)]
theorem befG_asym {l:List Item} {a b:ByteArray} (h:befG l a b=true):befG l b a=false:=by
  rw [←Bool.not_eq_true]
  intro k
  rw [befG_iff] at h k
  rcases h with h|⟨h,h'⟩<;>rcases k with k|⟨k,k'⟩
  · omega
  · omega
  · omega
  exact absurd (lt_trans h' k') (by rw [lt_irrefl];simp)
theorem befG_neg {l:List Item} {a b c:ByteArray} (h:befG l a b=false) (k:befG l b c=false):befG l a c=false:=by
  rw [←Bool.not_eq_true];intro q;by_cases e:b=a
  · subst e;rw [q] at k;cases k
  have h1:=befG_total h e;have h2:=befG_trans q h1;rw [h2] at k;cases k
theorem insG_weak {l:List Item} {n:ByteArray}: ∀{out:List ByteArray},out.Pairwise (fun a b=>befG l a b=false)→(insG l n out).Pairwise (fun a b=>befG l a b=false)
  |[],h=>by simp [insG]
  | x :: out, h => by
    rw [List.pairwise_cons] at h;unfold insG;rw [List.takeWhile_cons,List.dropWhile_cons];by_cases c:befG l n x=true
    · rw [c]
      show (x::insG l n out).Pairwise _
      rw [List.pairwise_cons]
      refine ⟨fun a ha=> ?_,insG_weak h.2⟩
      rcases List.mem_cons.1 ((insG_perm l n out).mem_iff.1 ha) with rfl|ha
      · exact befG_asym c
      exact h.1 a ha
    rw [Bool.eq_false_iff.2 c]
    show (n::x::out).Pairwise _
    rw [List.pairwise_cons,List.pairwise_cons];refine ⟨fun a ha=> ?_,h⟩
    rcases List.mem_cons.1 ha with rfl|ha
    · exact Bool.eq_false_iff.2 c
    exact befG_neg (Bool.eq_false_iff.2 c) (h.1 a ha)
theorem goesGo_weak (ws:List Want) (l:List Item): ∀(ms:List PMark) (out:List ByteArray),out.Pairwise (fun a b=>befG l a b=false)→(goesGo ws l out ms).Pairwise (fun a b=>befG l a b=false)
  |[],out,h=>by rw [goesGo];exact h
  | m :: ms, out, h => by
    rw [goesGo];by_cases c:isWant ws m.f0=true
    · rw [if_pos c];exact goesGo_weak ws l ms out h
    rw [if_neg c];exact goesGo_weak ws l ms _ (insG_weak h)
theorem drop_eq (l:List Item) (wide:Bool) (ws:List Want): ∀ms:List PMark,dropN (((topR ws).map (goalOf l)).map (upG wide)) ms=goneN ws ms
  |[]=>rfl
  | m :: ms => by
    have q:hasG (((topR ws).map (goalOf l)).map (upG wide)) m=isWant ws m.f0:=by
      unfold hasG isWant;rw [List.any_map,List.any_map,Bool.eq_iff_iff,List.any_eq_true,List.any_eq_true]
      constructor
      · rintro ⟨y, hy, e⟩
        refine ⟨y,(topR_perm ws).mem_iff.1 hy, ?_⟩
        have e2:(y.f0.toList==m.f0.toList)=true:=by rw [←(upG_f l wide y).1];exact e
        rwa [nm_beq] at e2
      rintro ⟨y,hy,e⟩;refine ⟨y,(topR_perm ws).mem_iff.2 hy, ?_⟩
      show ((upG wide (goalOf l y)).f0.f0.toList==m.f0.toList)=true
      rw [(upG_f l wide y).1,nm_beq];exact e
    show (if hasG _ m=true then dropN _ ms else m.f0::dropN _ ms)=_
    rw [q,drop_eq l wide ws ms];unfold goneN;by_cases c:isWant ws m.f0=true
    · rw [if_pos c,List.filter_cons_of_neg (by rw [c];simp)]
    rw [if_neg c,List.filter_cons_of_pos (by rw [Bool.eq_false_iff.2 c];rfl)];rfl
theorem gone_eq {l:List Item} {wide:Bool} {ws:List Want} {ms:List PMark} {ns:List ByteArray} (h:GoneIs (((topR ws).map (goalOf l)).map (upG wide)) ms l ns):ns=goesR ws ms l:=by
  obtain ⟨h1,h2⟩:=h;rw [drop_eq] at h1;have k1:(goesR ws ms l).Perm (goneN ws ms):=(goesGo_perm ws l ms []).trans (by rw [List.nil_append]);have k2:=goesGo_weak ws l ms [] List.Pairwise.nil;refine List.Perm.eq_of_pairwise (le:=fun a b=>befG l a b=false) ?_ ?_ k2 (h1.trans k1.symm)
  · intro a b _ _ hab hba
    by_cases e:a=b
    · exact e
    have:=befG_total hba e
    rw [hab] at this;cases this
  refine h2.imp ?_;intro a b hab;rw [←Bool.not_eq_true];intro q;refine hab (cmpW_neg.2 ?_);rw [befG_iff] at q;unfold depN
  rcases q with q|⟨q,q'⟩
  · exact .inl (by omega)
  exact .inr ⟨by omega,q'⟩
theorem gone_is (l:List Item) (wide:Bool) (ws:List Want) (ms:List PMark):GoneIs (((topR ws).map (goalOf l)).map (upG wide)) ms l (goesR ws ms l):=by
  refine ⟨?_, ?_⟩
  · rw [drop_eq]
    exact (goesGo_perm ws l ms []).trans (by rw [List.nil_append])
  refine (goesGo_weak ws l ms [] List.Pairwise.nil).imp ?_;intro a b hab q;rw [←Bool.not_eq_true] at hab;refine hab (befG_iff.2 ?_);have q:=cmpW_neg.1 q;unfold depN at q
  rcases q with q|⟨q,q'⟩
  · exact .inl (by omega)
  exact .inr ⟨by omega,q'⟩
theorem mayW_may {y:Want} (h:mayW y=true):MayP y.f2:=by
 unfold mayW at h;exact (of_decide_eq_true h).2
theorem plan_is {ws:List Want} {ms:List PMark} {l:List Item} (r:List PStep) (e:Int):PlanIs ws (topR ws) ms l r e↔(r,e)=planR ws ms l:=by
  unfold PlanIs planR;by_cases hz:checkR ws=0;rotate_left
  · rw [if_neg hz, if_neg hz]
    exact ⟨fun ⟨a,b⟩=>by rw [a,b],fun h=>by injection h with a b;exact ⟨a,b⟩⟩
  rw [if_pos hz,if_pos hz,wide_eq];have T:=checkR_tree (.inl hz);have hm: ∀y∈topR ws,MayP y.f2:=fun y hy=>mayW_may (T.may y ((topR_perm ws).mem_iff.1 hy))
  cases wideGo l ms false (topR ws) with
  |none=>exact ⟨fun ⟨a,b⟩=>by rw [a,b],fun h=>by injection h with a b;exact ⟨a,b⟩⟩
  | some wide =>
    dsimp only
    have e1:((topR ws).map (goalOf l)).flatMap (raiseG wide)=(topR ws).flatMap (raiseS l wide):=by
      rw [List.flatMap_map];exact flat_congr fun y hy=>raise_eq wide (hm y hy)
    have e2:(((topR ws).map (goalOf l)).map (upG wide)).flatMap moveG=(topR ws).flatMap (moveS l):=by
      rw [List.flatMap_map,List.flatMap_map];exact flat_congr fun y hy=>move_eq wide y
    have e3:(((topR ws).map (goalOf l)).map (upG wide)).reverse.flatMap lowerG=(topR ws).reverse.flatMap (lowerS l wide):=by
      rw [←List.map_reverse,←List.map_reverse,List.flatMap_map,List.flatMap_map];exact flat_congr fun y hy=>lower_eq wide (hm y (List.mem_reverse.1 hy))
    rw [e1,e2,e3]
    constructor
    · rintro ⟨rfl, ns, hg, rfl⟩
      rw [gone_eq hg]
    intro h;injection h with a b;exact ⟨b,_,gone_is l wide ws ms,a⟩
theorem plan_Steps_ev {ws:List Want} {ms:List PMark} {l:List Item} (hs:smallW ws) (hl:l.length<10000) (hm:ms.length<10000):plan_Steps.f ws ms l=some (planR ws ms l):=by
 have hx:(smallW ws∧l.length<10000∧ms.length<10000)∧ ∃p:List PStep×Int,PlanIs ws (topR ws) ms l p.1 p.2∧ ∀q:List PStep×Int,PlanIs ws (topR ws) ms l q.1 q.2→q=p:=
  ⟨⟨hs,hl,hm⟩,planR ws ms l,(plan_is _ _).2 rfl,fun q hq=>(plan_is q.1 q.2).1 hq⟩
 unfold plan_Steps.f;rw [dif_pos hx];have:=hx.2.choose_spec.1
 rw [plan_is] at this;exact congrArg some this
def creS (w:Want):PStep:=⟨1,w.f0,w.f1,w.f2⟩
theorem wide_nil (ms:List PMark): ∀ys:List Want,wideGo [] ms false ys=some false
 |[]=>rfl
 |y::ys=>wide_nil ms ys
theorem plan_fresh {ws:List Want} (h:checkR ws=0):planR ws [] []=((topR ws).map creS,0):=by
 unfold planR;rw [if_pos h,wide_nil];dsimp only
 have e1:(topR ws).flatMap (raiseS [] false)=(topR ws).map creS:=by
  rw [List.map_eq_flatMap]
  rfl
 have e2:(topR ws).flatMap (moveS [])=[]:=by
  rw [List.flatMap_eq_nil_iff];intro y _
  rfl
 have e3:(topR ws).reverse.flatMap (lowerS [] false)=[]:=by
  rw [List.flatMap_eq_nil_iff];intro y _;exact if_neg (by rw [show upV [] false y=y.f2 from rfl,neV_iff];simp)
 rw [e1,e2,e3]
 show (_++_++_++List.map delS [],0)=_
 rw [List.map_nil,List.append_nil,List.append_nil,List.append_nil]
def exS:List Want:=[⟨⟨#[97]⟩,⟨#[]⟩,⟨0,0,0⟩⟩]
theorem exS_small:smallW exS:=by
 intro w hw;unfold exS at hw;simp only [List.mem_cons,List.not_mem_nil,or_false] at hw;subst hw;exact ⟨by decide,by decide⟩
theorem awake18:law18_awake.f=some true:=by
 have h1:=(plan_Steps_ev (ws:=exS) (ms:=[]) (l:=[]) exS_small (by decide) (by decide)).trans (congrArg some (plan_fresh (ws:=exS) (by decide)));have h2:=(plan_Steps_ev (ws:=[]) (ms:=[]) (l:=[]) nil_small (by decide) (by decide)).trans (congrArg some (plan_fresh (ws:=[]) (by decide)));rw [show topR exS=exS from by kernel_rfl] at h1;rw [show topR []=[] from rfl] at h2;unfold law18_awake.f;rw [show exS=[⟨⟨#[97]⟩,⟨#[]⟩,⟨0,0,0⟩⟩] from rfl] at h1;rw [h1,h2];refine Eq.trans (b:=some true) ?_ rfl
 kernel_rfl
theorem awake18_ev:Ev (fun _=>(law18_awake.f).bind fun t=>some t) true:=by
 rw [awake18];exact Ev.const rfl
end Go.Proofs.Ytahidkjncljkaaa.Print

namespace Go.Proofs.Ytahidkjncljkaaa.Print
open Go.RowKit Go.Proofs.YtahidkjncljkaaaW.PrintWords Go.Proofs.YtahidkjncljkaaaW.PrintLast Go.Proofs.YtahidkjncljkaaaW.PrintMore
attribute [local go_sem] max2_int min2_int max_two min_two max_three min_three max_four min_four

end Go.Proofs.Ytahidkjncljkaaa.Print

namespace Go.Proofs.Ytahidkjncljkaaa.Print
open Go.RowKit Go.Proofs.YtahidkjncljkaaaW.PrintWords Go.Proofs.YtahidkjncljkaaaW.PrintLast Go.Proofs.YtahidkjncljkaaaW.PrintMore
theorem wideP_none (l:List Item) (ms:List PMark): ∀(ys:List Want) (b:Bool),(wideP l ms b ys).isNone=ys.any (badW l ms)
  |[],b=>rfl
  | y :: ys, b => by
    unfold wideP
    rw [List.any_cons]
    cases h:badW l ms y with
    |true=>rw [if_pos rfl];rfl
    |false=>rw [if_neg (by simp),wideP_none l ms ys];rfl
def inQ (y:Want) (q:PMark):Bool:=q.f0.toList==y.f0.toList
def eqW (a b:Vec):Bool:=(a.f0==b.f0 && (a.f1==b.f1 && (a.f2==b.f2)))
theorem eqW_iff {a b:Vec}:eqW a b=true↔a=b:=by
 obtain ⟨a0,a1,a2⟩:=a;obtain ⟨b0,b1,b2⟩:=b;unfold eqW
 simp
def liveW (l:List Item) (y:Want):Bool:=match look l y.f0 with
 |none=>false
 |some x=>if x.f1=y.f1 then eqW x.f2 y.f2 else false
def asW (l:List Item) (m:List PMark) (y:Want):Bool:=liveW l y && m.any (inQ y)
theorem wide_same {l:List Item} {m:List PMark}: ∀(ys:List Want) (b wd:Bool),(∀y∈ys,∀x,look l y.f0=some x→x.f1=y.f1)→wideGo l m b ys=some wd→wd=b
  |[],b,wd,_,h=>(Option.some.inj h).symm
  | y :: ys, b, wd, hs, h => by
    rw [wideGo] at h;have ih:=wide_same (l:=l) (m:=m) ys
    cases e:look l y.f0 with
    |none=>rw [e] at h;exact ih b wd (fun z hz=>hs z (List.mem_cons_of_mem _ hz)) h
    | some x =>
      rw [e] at h;dsimp only at h
      split at h
      · cases h
      rw [decide_eq_true (hs y (by simp) x e)] at h;exact ih b wd (fun z hz=>hs z (List.mem_cons_of_mem _ hz)) (by simpa using h)
theorem mx_self (a:Int):mx a a=a:=by unfold mx;split<;>rfl
theorem flat_nil {α β:Type} {f:α→List β} {xs:List α}:xs.flatMap f=[]↔ ∀x∈xs,f x=[]:=List.flatMap_eq_nil_iff
theorem live_parts {l:List Item} {y:Want} (h:liveW l y=true): ∃x,look l y.f0=some x∧x.f1=y.f1∧x.f2=y.f2:=by
  unfold liveW at h
  cases e:look l y.f0 with
  |none=>rw [e] at h;cases h
  | some x =>
    rw [e] at h;dsimp only at h;by_cases c:x.f1=y.f1
    · rw [if_pos c] at h;exact ⟨x,rfl,c,eqW_iff.1 h⟩
    rw [if_neg c] at h;cases h
theorem any_inQ {m:List PMark} {y:Want}:m.any (inQ y)=true↔y.f0∈m.map (·.f0):=by
 rw [List.any_eq_true,List.mem_map];unfold inQ;exact ⟨fun ⟨q,h,e⟩=>⟨q,h,nm_inj.1 (beq_iff_eq.1 e)⟩,fun ⟨q,h,e⟩=>⟨q,h,beq_iff_eq.2 (by rw [e])⟩⟩
theorem pe_iff {ws:List Want} {m:List PMark} {l:List Item} {wd:Bool} (hn:(m.map (·.f0)).Nodup) (hwn:(ws.map (·.f0)).Nodup) (hwd:wideGo l m false (topR ws)=some wd):
    ((((topR ws).flatMap (raiseS l wd)++(topR ws).flatMap (moveS l))++(topR ws).reverse.flatMap (lowerS l wd))++(goesR ws m l).map delS=[])↔(m.length=ws.length∧ ∀y∈ws,asW l m y=true):=by
  have hp:=topR_perm ws
  have hbad: ∀y∈ws,badW l m y=false:=by
    have q:=wideP_none l m (topR ws) false;rw [wide_eq,hwd] at q;intro y hy;have:=(List.any_eq_false.1 q.symm) y (hp.mem_iff.2 hy)
    simpa using this
  have hg:(goesR ws m l).Perm (goneN ws m):=by
    have:=goesGo_perm ws l m []
    rwa [List.nil_append] at this
  have hgone:(goesR ws m l).map delS=[]↔ ∀q∈m,isWant ws q.f0=true:=by
    rw [List.map_eq_nil_iff]
    constructor
    · intro e q hq
      rw [e] at hg
      have e2:=hg.symm.eq_nil
      unfold goneN at e2
      rw [List.map_eq_nil_iff,List.filter_eq_nil_iff] at e2
      simpa using e2 q hq
    intro h
    have e2:goneN ws m=[]:=by
      unfold goneN;rw [List.map_eq_nil_iff,List.filter_eq_nil_iff];intro q hq
      simp [h q hq]
    rw [e2] at hg;exact hg.eq_nil
  have hwant: ∀n,isWant ws n=true↔n∈ws.map (·.f0):=fun n=>by
    unfold isWant;rw [List.any_eq_true,List.mem_map];exact ⟨fun ⟨y,h,e⟩=>⟨y,h,of_decide_eq_true e⟩,fun ⟨y,h,e⟩=>⟨y,h,decide_eq_true e⟩⟩
  rw [List.append_eq_nil_iff,List.append_eq_nil_iff,List.append_eq_nil_iff,hgone,flat_nil,flat_nil,flat_nil]
  constructor
  · rintro ⟨⟨⟨h1, h2⟩, h3⟩, h4⟩
    have key: ∀y∈ws,asW l m y=true:=by
      intro y hy;have hy':=hp.mem_iff.2 hy;have r:=h1 y hy';have mv:=h2 y hy';have lo:=h3 y (List.mem_reverse.2 hy');have bd:=hbad y hy;unfold raiseS at r;unfold moveS at mv;unfold lowerS at lo;unfold badW at bd
      cases e:look l y.f0 with
      |none=>rw [e] at r;cases r
      | some x =>
        rw [e] at r mv bd;dsimp only at r mv;have r': ¬neV x.f2 (upV l wd y)=true:=fun q=>by rw [if_pos q] at r;cases r
        have m':x.f1=y.f1:=by
          by_cases c:x.f1=y.f1
          · exact c
          rw [if_neg c] at mv;cases mv
        have l': ¬neV (upV l wd y) y.f2=true:=fun q=>by rw [if_pos q] at lo;cases lo
        rw [neV_iff] at r' l';have e2:x.f2=y.f2:=(Classical.byContradiction r').trans (Classical.byContradiction l')
        have b2:m.any (inQ y)=true:=by
          have:(m.any (fun m=>m.f0.toList==y.f0.toList))=true:=by simpa using bd
          exact this
        unfold asW liveW;rw [e,b2];dsimp only;rw [if_pos m',eqW_iff.2 e2]
        rfl
    refine ⟨Nat.le_antisymm ?_ ?_,key⟩
    · have:=hn.length_le_of_subset (l₂:=ws.map (·.f0)) (fun n hq=>by
        obtain ⟨q,hq2,rfl⟩:=List.mem_map.1 hq;exact (hwant _).1 (h4 q hq2))
      rwa [List.length_map,List.length_map] at this
    have:=hwn.length_le_of_subset (l₂:=m.map (·.f0)) (fun n hq=>by
      obtain ⟨y,hy,rfl⟩:=List.mem_map.1 hq;have k:=key y hy;unfold asW at k;rw [Bool.and_eq_true] at k;exact any_inQ.1 k.2)
    rwa [List.length_map,List.length_map] at this
  rintro ⟨hlen,key⟩
  have lp: ∀y∈ws,∃x,look l y.f0=some x∧x.f1=y.f1∧x.f2=y.f2:=fun y hy=>by
    have k:=key y hy;unfold asW at k;rw [Bool.and_eq_true] at k;exact live_parts k.1
  have hw0:wd=false:=wide_same (topR ws) false wd (fun y hy x e=>by
    obtain ⟨x',e',h1,_⟩:=lp y (hp.mem_iff.1 hy);rw [e] at e';obtain rfl:=Option.some.inj e';exact h1) hwd
  subst hw0
  have up: ∀y∈ws,∀x,look l y.f0=some x→x.f2=y.f2→upV l false y=y.f2:=fun y hy x e e2=>by
    unfold upV;rw [if_neg (by decide),e];dsimp only;rw [e2,mx_self,mx_self,mx_self]
  refine ⟨⟨⟨fun y hy=> ?_,fun y hy=> ?_⟩,fun y hy=> ?_⟩,fun q hq=> ?_⟩
  · obtain ⟨x, e, h1, h2⟩ := lp y (hp.mem_iff.1 hy)
    unfold raiseS
    rw [e]
    dsimp only
    rw [up y (hp.mem_iff.1 hy) x e h2,if_neg (by rw [neV_iff];simp [h2])]
  · obtain ⟨x, e, h1, h2⟩ := lp y (hp.mem_iff.1 hy)
    unfold moveS
    rw [e]
    dsimp only
    rw [if_pos h1]
  · have hy := hp.mem_iff.1 (List.mem_reverse.1 hy)
    obtain ⟨x,e,h1,h2⟩:=lp y hy
    unfold lowerS
    rw [up y hy x e h2,if_neg (by rw [neV_iff];simp)]
  rw [hwant];refine Classical.byContradiction fun hx=> ?_
  have:=(List.nodup_cons.2 ⟨hx,hwn⟩).length_le_of_subset (l₂:=m.map (·.f0)) (fun n hq'=>by
    rcases List.mem_cons.1 hq' with rfl|hq'
    · exact List.mem_map_of_mem hq
    obtain ⟨y,hy,rfl⟩:=List.mem_map.1 hq';have k:=key y hy;unfold asW at k;rw [Bool.and_eq_true] at k;exact any_inQ.1 k.2)
  rw [List.length_cons,List.length_map,List.length_map] at this
  omega
theorem mid_rdI (a b:List Item) (x:Item):rd_T79 (a++x::b) (a.length:Int)=x:=by
 rw [rd_itemN _ (by simp)]
 simp
theorem mid_setI (b:List Item) (x y:Item): ∀a:List Item,(a++x::b).set a.length y=a++y::b
  |[]=>rfl
  | z :: a => by
    show z::(a++x::b).set a.length y=_
    rw [mid_setI b x y a]
    rfl
theorem empty_goI: ∀(b a:List Item),(a++b).length<1000000→Ev (fun k=>law18_Empty.l0 k (a++b) (a.length:Int)) (a++b.map idle)
  | [], a, h => by
    rw [List.map_nil,List.append_nil];exact Ev.step (fun k=>law18_Empty.l0.eq_2 (k:=k) ..) (Ev.congr (fun k=>if_neg (by omega)) (Ev.now _))
  | x :: b, a, h => by
    have hl:a.length<(a++x::b).length:=by simp
    have next:=empty_goI b (a++ [idle x]) (by simpa using h);rw [List.append_assoc,List.singleton_append,List.append_assoc,List.singleton_append,List.length_append,List.length_singleton] at next;refine Ev.step (fun k=>law18_Empty.l0.eq_2 (k:=k) ..) (Ev.congr (fun k=> ?_) next);rw [if_pos (by omega),if_pos (by omega),mid_rdI,Int.toNat_natCast,mid_setI,Option.bind_some,mid_rdI,mid_setI,w64 (by omega) (by omega)]
    rfl
theorem empty_evI {l:List Item} (h:l.length<1000000):Ev (fun k=>law18_Empty.f k l) (l.map idle):=by
 unfold law18_Empty.f;simp only [Option.bind_some,List.nil_append,List.length_nil];refine Ev.congr (fun k=>if_pos (by omega)) ?_;have:=empty_goI l [] (by simpa using h)
 rw [List.nil_append,List.nil_append] at this;exact this
theorem loose_goI: ∀(b a:List Item) (acc:List PMark),(a++b).length<1000000→acc.length≤a.length→Ev (fun k=>law18_Loose.l0 k (a++b) acc (a.length:Int)) (acc++looseL b)
  | [], a, acc, h, hacc => by
    rw [show looseL []=[] from rfl,List.append_nil,List.append_nil];exact Ev.step (fun k=>law18_Loose.l0.eq_2 (k:=k) ..) (Ev.congr (fun k=>if_neg (by omega)) (Ev.now _))
  | x :: b, a, acc, h, hacc => by
    have hl:a.length<(a++x::b).length:=by simp
    have next:=loose_goI b (a++ [x]) (acc++ [⟨x.f0,x.f1,x.f2,x.f5⟩]) (by simpa using h) (by rw [List.length_append,List.length_append,List.length_singleton,List.length_singleton];omega);rw [List.append_assoc,List.singleton_append,List.append_assoc,List.singleton_append,List.length_append,List.length_singleton] at next;refine Ev.step (fun k=>law18_Loose.l0.eq_2 (k:=k) ..) (Ev.congr (fun k=> ?_) next);rw [if_pos (by omega),if_pos (by omega),if_pos (by omega),mid_rdI,w64 (by omega) (by omega)]
    rfl
theorem loose_evI {l:List Item} (h:l.length<1000000):Ev (fun k=>law18_Loose.f k l) (looseL l):=by
 have:=loose_goI l [] [] (by simpa using h) (by simp)
 rw [List.nil_append,List.nil_append] at this;exact this
end Go.Proofs.Ytahidkjncljkaaa.Print

namespace Go.Proofs.Ytahidkjncljkaaa.Print
open Go.RowKit Go.Proofs.YtahidkjncljkaaaW.PrintWords Go.Proofs.YtahidkjncljkaaaW.PrintLast
def upM (p:Nat→Bool):Nat→Bool
 |0=>true
 |n+1=>p n && upM p n
theorem upM_all {p:Nat→Bool}: ∀{n i:Nat},upM p n=true→i<n→p i=true
  | n + 1, i, h, hi => by
    unfold upM at h;rw [Bool.and_eq_true] at h;by_cases e:i=n
    · rw [e];exact h.1
    exact upM_all h.2 (by omega)
def nmM (i:Nat):ByteArray:=⟨#[UInt8.ofNat (97+(i*7) % 24)]⟩
theorem nmM_strs:upM (fun i=>decide (strOfNums [(wrap64 (97+(Int.tmod (wrap64 ((i:Int)*7)) 24))) % 256]=nmM i)) 24=true:=by kernel_rfl
theorem nmM_str {i:Nat} (h:i<24):strOfNums [(wrap64 (97+(Int.tmod (wrap64 ((i:Int)*7)) 24))) % 256]=nmM i:=by
 have:=upM_all nmM_strs h
 rwa [decide_eq_true_iff] at this
theorem nmM_injs:upM (fun i=>upM (fun j=>decide (nmM i≠nmM j∨i=j)) 24) 24=true:=by kernel_rfl
theorem nmM_inj {i j:Nat} (hi:i<24) (hj:j<24) (h:nmM i=nmM j):i=j:=by
 have a:upM (fun j=>decide (nmM i≠nmM j∨i=j)) 24=true:=upM_all (p:=fun i=>upM (fun j=>decide (nmM i≠nmM j∨i=j)) 24) nmM_injs hi;have:=upM_all a hj
 rw [decide_eq_true_iff] at this;exact this.resolve_left (fun q=>q h)
theorem nmM_ne (i:Nat):nmM i≠⟨#[]⟩:=fun h=>by
 have:=congrArg ByteArray.size h
 cases this
theorem nmM_size (i:Nat):(nmM i).size=1:=rfl
theorem sumGo_snoc (n:ByteArray) (w:Want): ∀(l:List Want) (v:Vec),sumGo n (l++ [w]) v=if w.f1=n then vadd (sumGo n l v) w.f2 else sumGo n l v
  |[],v=>by simp only [List.nil_append,sumGo]
  | x :: l, v => by
    rw [List.cons_append];unfold sumGo;exact sumGo_snoc n w l _
theorem sumGo_zero (n:ByteArray): ∀(l:List Want) (v:Vec),(∀x∈l,x.f1≠n)→sumGo n l v=v
  |[],v,_=>rfl
  | x :: l, v, h => by
    unfold sumGo;rw [if_neg (h x (by simp))];exact sumGo_zero n l v (fun y hy=>h y (by simp [hy]))
structure MkI (c:Bool) (l:List Want) (left:List Int):Prop where
 len:left.length=l.length
 n24:l.length≤24
 nm: ∀(i:Nat) (w:Want),l[i]?=some w→w.f0=nmM i
 par: ∀(i:Nat) (w:Want),l[i]?=some w→w.f1=⟨#[]⟩∨ ∃p,p<i∧w.f1=nmM p
 may: ∀w∈l,MayP w.f2
 lo: ∀(i:Nat) (x:Int),left[i]?=some x→0≤x∧x≤8193
 sum:c=false→ ∀(i:Nat) (w:Want) (x:Int),l[i]?=some w→left[i]?=some x→ ∀o:Comp,o.of (sumW l w.f0)+x≤o.of w.f2
theorem mkI_nil (c:Bool):MkI c [] []:=⟨rfl,Nat.zero_le _,(fun i w h=>by simp at h),(fun i w h=>by simp at h),(fun w h=>by simp at h),(fun i x h=>by simp at h),(fun _ i w x h=>by simp at h)⟩
theorem snoc_get {α:Type} {l:List α} {a w:α} {i:Nat} (h:(l++ [a])[i]?=some w):(l[i]?=some w∧i<l.length)∨(i=l.length∧w=a):=by
  by_cases c:i<l.length
  · rw [List.getElem?_append_left c] at h
    exact .inl ⟨h,c⟩
  rw [List.getElem?_append_right (by omega)] at h
  have hi:i - l.length=0:=by
    have:=(List.getElem?_eq_some_iff.1 h).1
    simp only [List.length_singleton] at this
    omega
  rw [hi] at h;simp only [List.getElem?_cons_zero,Option.some.injEq] at h;exact .inr ⟨by omega,h.symm⟩
theorem mk_add {c:Bool} {l:List Want} {left left1:List Int} (I:MkI c l left) (h:l.length<24) {lim b:Int} (hl:0≤lim∧lim≤8193) (hb:b=0∨b=1) {par:ByteArray} (hlen:left1.length=left.length) (hp:par=⟨#[]⟩∨ ∃p,p<l.length∧par=nmM p)
    (hlo: ∀(i:Nat) (x:Int),left1[i]?=some x→0≤x∧x≤8193) (hs:c=false→ ∀(i:Nat) (x1:Int),left1[i]?=some x1→ ∃x,left[i]?=some x∧x1≤x∧(par=nmM i→x1+lim≤x)):MkI c (l++ [⟨nmM l.length,par,⟨lim,lim,lim - lim / 3*b⟩⟩]) (left1++ [lim - lim / 3]) where
  len:=by rw [List.length_append,List.length_append,hlen,I.len];rfl
  n24:=by rw [List.length_append,List.length_singleton];omega
  nm:=fun i w q=>by
    rcases snoc_get q with ⟨q,_⟩|⟨rfl,rfl⟩
    · exact I.nm i w q
    rfl
  par:=fun i w q=>by
    rcases snoc_get q with ⟨q,_⟩|⟨rfl,rfl⟩
    · exact I.par i w q
    exact hp
  may:=fun w q=>by
    rcases List.mem_append.1 q with q|q
    · exact I.may w q
    rw [List.mem_singleton] at q;subst q;rw [mayP_iff]
    rcases hb with rfl|rfl<;>omega
  lo:=fun i x q=>by
    rcases snoc_get q with ⟨q,_⟩|⟨rfl,rfl⟩
    · exact hlo i x q
    omega
  sum:=fun hc i w x q1 q2 o=>by
    have e:sumW (l++ [⟨nmM l.length,par,⟨lim,lim,lim - lim / 3*b⟩⟩]) w.f0=if par=w.f0 then vadd (sumW l w.f0) ⟨lim,lim,lim - lim / 3*b⟩ else sumW l w.f0:=sumGo_snoc _ _ _ _
    have hv:o.of (⟨lim,lim,lim - lim / 3*b⟩:Vec)≤lim∧lim - lim / 3≤o.of (⟨lim,lim,lim - lim / 3*b⟩:Vec):=by
      cases o<;>simp only [Comp.of]<;>rcases hb with rfl|rfl<;>omega
    rcases snoc_get q1 with ⟨q1,hi⟩|⟨rfl,rfl⟩
    · rcases snoc_get q2 with ⟨q2, _⟩ | ⟨rfl, _⟩
      rotate_left
      · rw [hlen,I.len] at hi;omega
      obtain ⟨x0,g1,g2,g3⟩:=hs hc i x q2
      have g:=I.sum hc i w x0 q1 g1 o
      rw [e]
      by_cases d:par=w.f0
      rotate_left
      · rw [if_neg d];omega
      have:=g3 (by rw [d];exact I.nm i w q1)
      rw [if_pos d,of_vadd]
      omega
    rcases snoc_get q2 with ⟨q2,hi⟩|⟨_,rfl⟩
    · rw [hlen,I.len] at hi;omega
    have z:sumW l (nmM l.length)=⟨0,0,0⟩:=sumGo_zero _ _ _ (fun y hy=>by
      obtain ⟨i,hi,rfl⟩:=List.getElem_of_mem hy
      rcases I.par i l[i] (List.getElem?_eq_getElem hi) with q|⟨p,hp,q⟩
      · rw [q];exact fun k=>nmM_ne _ k.symm
      rw [q];exact fun k=>by have:=nmM_inj (by omega) (by omega) k;omega)
    have e2: ¬par=nmM l.length:=fun k=>by
      rcases hp with q|⟨p,hp,q⟩
      · rw [q] at k;exact nmM_ne _ k.symm
      rw [q] at k;have:=nmM_inj (by omega) (by omega) k;omega
    rw [e]
    show o.of (if par=nmM l.length then _ else sumW l (nmM l.length))+_≤_
    rw [if_neg e2,z];have:o.of (⟨0,0,0⟩:Vec)=0:=by cases o<;>rfl
    show _≤o.of (⟨lim,lim,lim - lim / 3*b⟩:Vec)
    omega
theorem mk_root {c:Bool} {l:List Want} {left:List Int} (I:MkI c l left) (h:l.length<24) {lim b:Int} (hl:0≤lim∧lim≤8193) (hb:b=0∨b=1):MkI c (l++ [⟨nmM l.length,⟨#[]⟩,⟨lim,lim,lim - lim / 3*b⟩⟩]) (left++ [lim - lim / 3]):=
 mk_add I h hl hb rfl (.inl rfl) I.lo (fun _ i x q=>⟨x,q,Int.le_refl _,fun k=>absurd k.symm (nmM_ne i)⟩)
theorem mk_kid {c:Bool} {l:List Want} {left:List Int} (I:MkI c l left) (h:l.length<24) {lim b:Int} (hl:0≤lim∧lim≤8193) (hb:b=0∨b=1) {p:Nat} (hp:p<l.length) {x q:Int} (hx:left[p]?=some x) (hq:0≤q∧q≤x) (hc:c=false→lim=q):
    MkI c (l++ [⟨nmM l.length,nmM p,⟨lim,lim,lim - lim / 3*b⟩⟩]) (left.set p (x - q)++ [lim - lim / 3]):=by
  have hpl:p<left.length:=by rw [I.len];exact hp
  have g:=I.lo p x hx;refine mk_add I h hl hb (List.length_set ..) (.inr ⟨p,hp,rfl⟩) (fun i y hy=> ?_) (fun hc' i y hy=> ?_)
  · rw [List.getElem?_set] at hy
    by_cases e:p=i
    · rw [if_pos e, if_pos hpl] at hy
      obtain rfl:=Option.some.inj hy
      omega
    rw [if_neg e] at hy
    exact I.lo i y hy
  rw [List.getElem?_set] at hy;by_cases e:p=i
  · rw [if_pos e, if_pos hpl] at hy
    obtain rfl:=Option.some.inj hy
    subst e
    have:=hc hc'
    exact ⟨x,hx,by omega,fun _=>by omega⟩
  rw [if_neg e] at hy;refine ⟨y,hy,Int.le_refl _,fun k=> ?_⟩;have hi:=(List.getElem?_eq_some_iff.1 hy).1;exact absurd (nmM_inj (by omega) (by rw [I.len] at hi;omega) k) e
theorem mk_look {c:Bool} {l:List Want} {left:List Int} (I:MkI c l left) {i:Nat} {w:Want} (h:l[i]?=some w):lookW l (nmM i)=some w:=by
  obtain ⟨hi,rfl⟩:=List.getElem?_eq_some_iff.1 h
  have hn:=I.nm i _ h
  cases e:lookW l (nmM i) with
  |none=>exact absurd hn (lookW_none.1 e _ (List.getElem_mem hi))
  | some x =>
    obtain ⟨hm,hf⟩:=lookW_mem e
    obtain ⟨j,hj,rfl⟩:=List.getElem_of_mem hm
    have:=I.nm j _ (List.getElem?_eq_getElem hj)
    rw [this] at hf
    have:=nmM_inj (by have:=I.n24;omega) (by have:=I.n24;omega) hf
    subst this
    rfl
theorem mk_parW {c:Bool} {l:List Want} {left:List Int} (I:MkI c l left):ParW l:=by
  refine ⟨fun w hw=> ?_,fun w hw e=> ?_⟩
  · obtain ⟨i, hi, rfl⟩ := List.getElem_of_mem hw
    rw [I.nm i _ (List.getElem?_eq_getElem hi)]
    exact nmM_ne i
  obtain ⟨i,hi,rfl⟩:=List.getElem_of_mem hw
  rcases I.par i _ (List.getElem?_eq_getElem hi) with q|⟨p,hp,q⟩
  · exact absurd q e
  rw [q];exact ⟨_,mk_look I (List.getElem?_eq_getElem (show p<l.length by omega))⟩
theorem mk_chain {c:Bool} {l:List Want} {left:List Int} (I:MkI c l left): ∀(n i:Nat) (hi:i<l.length),i<n→ ∃us,ChainW l (nmM i) (nmM i::us)
  | n + 1, i, hi, hn => by
    have hl:=mk_look I (List.getElem?_eq_getElem hi)
    rcases I.par i _ (List.getElem?_eq_getElem hi) with q|⟨p,hp,q⟩
    · exact ⟨[],chainW_cons hl (by rw [q];exact chainW_nil (mk_parW I).root)⟩
    obtain ⟨us,k⟩:=mk_chain I n p (by omega) (by omega);exact ⟨_,chainW_cons hl (by rw [q];exact k)⟩
theorem mk_nodup {c:Bool} {l:List Want} {left:List Int} (I:MkI c l left):(l.map (·.f0)).Nodup:=by
 rw [List.nodup_iff_pairwise_ne,List.pairwise_iff_getElem];intro i j hi hj hij;rw [List.length_map] at hi hj;rw [List.getElem_map,List.getElem_map,I.nm i _ (List.getElem?_eq_getElem hi),I.nm j _ (List.getElem?_eq_getElem hj)];have:=I.n24
 exact fun k=>by have:=nmM_inj (by omega) (by omega) k;omega
theorem mk_tree {c:Bool} {l:List Want} {left:List Int} (I:MkI c l left):TreeW l where
 len:=by have:=I.n24;omega
 may:=fun w hw=>mayW_iff.2 ⟨by
  obtain ⟨i,hi,rfl⟩:=List.getElem_of_mem hw;rw [I.nm i _ (List.getElem?_eq_getElem hi)];exact ⟨nmM_ne i,by rw [nmM_size];omega⟩,I.may w hw⟩
 nodup:=mk_nodup I
 par:=mk_parW I
 dep:=fun w hw=>by
  obtain ⟨i,hi,rfl⟩:=List.getElem_of_mem hw;obtain ⟨us,k⟩:=mk_chain I (i+1) i hi (by omega);rw [I.nm i _ (List.getElem?_eq_getElem hi),depR_chain (mk_parW I) k,List.length_cons]
  omega
theorem mk_small {c:Bool} {l:List Want} {left:List Int} (I:MkI c l left):smallW l:=fun w hw=>by
  obtain ⟨i,hi,rfl⟩:=List.getElem_of_mem hw;refine ⟨?_, ?_⟩
  · rw [I.nm i _ (List.getElem?_eq_getElem hi),nmM_size];omega
  rcases I.par i _ (List.getElem?_eq_getElem hi) with q|⟨p,hp,q⟩
  · rw [q];decide
  rw [q,nmM_size];omega
theorem mk_check {l:List Want} {left:List Int} (I:MkI false l left):checkR l=0:=by
 rw [checkR_of (mk_tree I),if_neg];rw [any_false];intro w hw;obtain ⟨i,hi,rfl⟩:=List.getElem_of_mem hw;have h2:i<left.length:=by rw [I.len];exact hi
 have lo:=I.lo i _ (List.getElem?_eq_getElem h2)
 have:LeP (sumW l l[i].f0) l[i].f2:=fun o=>by
  have:=I.sum rfl i _ _ (List.getElem?_eq_getElem hi) (List.getElem?_eq_getElem h2) o
  omega
 rw [decide_eq_true this]
 rfl
theorem lims_eq {lim x:Int} (hl:0≤lim∧lim≤8193) (hx:0≤x∧x≤255): ∃b:Int,(b=0∨b=1)∧wrap64 (lim - (wrap64 ((wrap64 (Int.tdiv lim 3))*(wrap64 (Int.tmod x 2)))))=lim - lim / 3*b∧wrap64 (lim - (wrap64 (Int.tdiv lim 3)))=lim - lim / 3:=by
  have e1:Int.tdiv lim 3=lim / 3:=Int.tdiv_eq_ediv_of_nonneg hl.1
  have e2:Int.tmod x 2=x % 2:=Int.tmod_eq_emod_of_nonneg hx.1
  rw [e1,e2,w64 (n:=lim / 3) (by omega) (by omega),w64 (n:=x % 2) (by omega) (by omega),w64 (n:=lim - lim / 3) (by omega) (by omega)]
  refine ⟨x % 2,by omega, ?_,rfl⟩
  rcases (show x % 2=0∨x % 2=1 by omega) with q|q
  · rw [q,Int.mul_zero,w64 (n:=0) (by omega) (by omega),w64 (by omega) (by omega)]
  rw [q,Int.mul_one,w64 (n:=lim / 3) (by omega) (by omega),w64 (by omega) (by omega)]
theorem rd_nat (l:List Int) {i:Nat} (h:i<l.length):rd l (i:Int)=l[i]:=by
 unfold rd;rw [Int.toNat_natCast,List.getD_eq_getElem?_getD,List.getElem?_eq_getElem h,Option.getD_some]
theorem mkE1:wrap64 ((wrap64 (4096*2))+1)=8193:=by unfold wrap64;rfl
theorem make_go {ns:List Int} {c:Bool} (hns:ns.length≤60) (hb: ∀x∈ns,0≤x∧x≤255): ∀(d j:Nat) (l:List Want) (left:List Int),ns.length - 2*j≤d→2*j≤ns.length+1→MkI c l left→ ∃r left',Ev (fun k=>law11_Make.l0 k ns c l left ((2*j:Nat):Int)) r∧MkI c r left'
  | d, j, l, left, hd, hj, I => by
    have e1:wrap64 (((2*j:Nat):Int)+1)=((2*j+1:Nat):Int):=by rw [w64 (by omega) (by omega)];rfl
    have e3:wrap64 (((2*j:Nat):Int)+2)=((2*(j+1):Nat):Int):=by rw [w64 (by omega) (by omega)];omega
    by_cases h:2*j+1<ns.length∧l.length<24;rotate_left
    · have stop : Ev (fun k => law11_Make.j1 k ns c l left ((2 * j : Nat) : Int) false) l := Ev.step (fun k => law11_Make.j1.eq_2 (k := k) ..) (Ev.congr (fun k => if_neg (by simp)) (Ev.now _))
      refine ⟨l,left,Ev.step (fun k=>law11_Make.l0.eq_2 (k:=k) ..) ?_,I⟩
      by_cases a:2*j+1<ns.length
      · refine Ev.congr (fun k => ?_) stop
        rw [e1,if_pos (show ((2*j+1:Nat):Int)<(ns.length:Int) by omega),decide_eq_false (show¬(l.length:Int)<24 by omega)]
      refine Ev.congr (fun k=> ?_) stop
      rw [e1,if_neg (show¬((2*j+1:Nat):Int)<(ns.length:Int) by omega)]
    obtain ⟨h1,h24⟩:=h
    match d,hd with
    |0,hd=>omega
    |d+1,hd=>
    have IH:=make_go (c:=c) hns hb d (j+1);obtain ⟨x,hx⟩: ∃x,x=ns[2*j]:=⟨_,rfl⟩;obtain ⟨y,hy⟩: ∃y,y=ns[2*j+1]:=⟨_,rfl⟩;have bx:=hb x (by rw [hx];exact List.getElem_mem _);have by':=hb y (by rw [hy];exact List.getElem_mem _);have rx:rd ns ((2*j:Nat):Int)=x:=by rw [rd_nat ns (by omega),hx]
    have ry:rd ns ((2*j+1:Nat):Int)=y:=by rw [rd_nat ns h1,hy]
    have wx:wrap64 x=x:=w64 (by omega) (by omega);have hnm:=nmM_str h24;have hlen:=I.len;have c1:(0:Int)≤((2*j:Nat):Int):=by omega
    have c2:((2*j:Nat):Int)<(ns.length:Int):=by omega
    have c3:(0:Int)≤((2*j+1:Nat):Int):=by omega
    have c4:((2*j+1:Nat):Int)<(ns.length:Int):=by omega
    have g1:l.length<2513169434916:=by omega
    have g2:left.length<17592186044416:=by omega
    have leaf: ∀(L:Int) (par:ByteArray) (left1:List Int),0≤L∧L≤8193→(∀b:Int,(b=0∨b=1)→MkI c (l++ [⟨nmM l.length,par,⟨L,L,L - L / 3*b⟩⟩]) (left1++ [L - L / 3]))→
        ∃r left',Ev (fun k=>law11_Make.l0 k ns c (l++ [⟨nmM l.length,par,⟨L,L,wrap64 (L - (wrap64 ((wrap64 (Int.tdiv L 3))*(wrap64 (Int.tmod y 2)))))⟩⟩]) (left1++ [wrap64 (L - (wrap64 (Int.tdiv L 3)))]) ((2*(j+1):Nat):Int)) r∧MkI c r left':=fun L par left1 hL k=>by
      obtain ⟨b,hbb,q1,q2⟩:=lims_eq hL by'
      rw [q1,q2]
      exact IH _ _ (by omega) (by omega) (k b hbb)
    have root: ∃r left',Ev (fun k=>law11_Make.j2 k ns c l left ((2*j:Nat):Int) (l.length:Int) x 4096 false (nmM l.length) ⟨#[]⟩ 4096 4096 4096) r∧MkI c r left':=by
      have lo:=leaf 4096 ⟨#[]⟩ left (by omega) (fun b hbb=>mk_root I h24 (by omega) hbb);have hi:=leaf 8193 ⟨#[]⟩ left (by omega) (fun b hbb=>mk_root I h24 (by omega) hbb)
      cases hc:c with
      | true =>
        subst hc;by_cases m:Int.tmod y 16=0
        · obtain ⟨r, left', ev, I'⟩ := hi
          refine ⟨r,left',Ev.step (fun k=>law11_Make.j2.eq_2 (k:=k) ..) (Ev.congr (fun k=> ?_) ev),I'⟩
          rw [if_neg (by simp),if_pos rfl,e1,if_pos c3,if_pos c4,ry,if_pos m,if_pos g1,if_pos g2,mkE1,e3]
        obtain ⟨r,left',ev,I'⟩:=lo;refine ⟨r,left',Ev.step (fun k=>law11_Make.j2.eq_2 (k:=k) ..) (Ev.congr (fun k=> ?_) ev),I'⟩;rw [if_neg (by simp),if_pos rfl,e1,if_pos c3,if_pos c4,ry,if_neg m,if_pos g1,if_pos g2,e3]
      | false =>
        subst hc;obtain ⟨r,left',ev,I'⟩:=lo;refine ⟨r,left',Ev.step (fun k=>law11_Make.j2.eq_2 (k:=k) ..) (Ev.congr (fun k=> ?_) ev),I'⟩;rw [if_neg (by simp),if_neg (by simp),e1,if_pos c3,if_pos c4,ry,if_pos g1,if_pos g2,e3]
    have kid:0<l.length→ ∃r left',Ev (fun k=>law11_Make.j2 k ns c l left ((2*j:Nat):Int) (l.length:Int) x 4096 true (nmM l.length) ⟨#[]⟩ 4096 4096 4096) r∧MkI c r left':=fun h0=>by
      obtain ⟨p,hp,hpl⟩: ∃p:Nat,Int.tmod (wrap64 (Int.tdiv x 3)) (l.length:Int)=(p:Int)∧p<l.length:=by
        have q1:Int.tdiv x 3=x / 3:=Int.tdiv_eq_ediv_of_nonneg bx.1;rw [q1,w64 (n:=x / 3) (by omega) (by omega),Int.tmod_eq_emod_of_nonneg (by omega)];have a:=Int.emod_nonneg (x / 3) (show (l.length:Int)≠0 by omega);have b:=Int.emod_lt_of_pos (x / 3) (show (0:Int)<l.length by omega);exact ⟨(x / 3 % (l.length:Int)).toNat,by omega,by omega⟩
      have hpf:p<left.length:=by omega
      obtain ⟨f,hf⟩: ∃f,f=left[p]:=⟨_,rfl⟩;have rf:rd left (p:Int)=f:=by rw [rd_nat left hpf,hf]
      have hg:left[p]?=some f:=by rw [List.getElem?_eq_getElem hpf,hf]
      have bf:=I.lo p f hg;have q1:wrap64 (Int.tdiv f 2)=f / 2:=by rw [Int.tdiv_eq_ediv_of_nonneg bf.1,w64 (by omega) (by omega)]
      have q2:wrap64 (f - f / 2)=f - f / 2:=w64 (by omega) (by omega);have q3:wrap64 (wrap64 (f / 2*2)+1)=f / 2*2+1:=by rw [w64 (n:=f / 2*2) (by omega) (by omega),w64 (by omega) (by omega)]
      have rn:(rd_T39 l (p:Int)).f0=nmM p:=by rw [rd_wantN l hpl];exact I.nm p _ (List.getElem?_eq_getElem hpl)
      have d1: ¬(l.length:Int)=0:=by omega
      have d2:(0:Int)≤(p:Int):=by omega
      have d3:(p:Int)<(l.length:Int):=by omega
      have d4:(p:Int)<(left.length:Int):=by omega
      have g3:(left.set p (f - f / 2)).length<17592186044416:=by rw [List.length_set];exact g2
      have lo:=leaf (f / 2) (nmM p) (left.set p (f - f / 2)) (by omega) (fun b hbb=>mk_kid I h24 (by omega) hbb hpl hg (by omega) (fun _=>rfl))
      cases hc:c with
      | true =>
        have hi:=leaf (f / 2*2+1) (nmM p) (left.set p (f - f / 2)) (by omega) (fun b hbb=>mk_kid I h24 (by omega) hbb hpl hg (by omega) (fun e=>by rw [hc] at e;cases e));subst hc;by_cases m:Int.tmod y 16=0
        · obtain ⟨r, left', ev, I'⟩ := hi
          refine ⟨r,left',Ev.step (fun k=>law11_Make.j2.eq_2 (k:=k) ..) (Ev.congr (fun k=> ?_) ev),I'⟩
          rw [if_pos rfl,if_neg d1,hp,if_pos d2,if_pos d3,if_pos d4,Option.bind_some,if_pos rfl,e1,if_pos c3,if_pos c4,ry,if_pos m,if_pos g1,rf,q1,q2,Int.toNat_natCast,if_pos g3,q3,rn,e3]
        obtain ⟨r,left',ev,I'⟩:=lo;refine ⟨r,left',Ev.step (fun k=>law11_Make.j2.eq_2 (k:=k) ..) (Ev.congr (fun k=> ?_) ev),I'⟩;rw [if_pos rfl,if_neg d1,hp,if_pos d2,if_pos d3,if_pos d4,Option.bind_some,if_pos rfl,e1,if_pos c3,if_pos c4,ry,if_neg m,if_pos g1,rf,q1,q2,Int.toNat_natCast,if_pos g3,rn,e3]
      | false =>
        subst hc;obtain ⟨r,left',ev,I'⟩:=lo;refine ⟨r,left',Ev.step (fun k=>law11_Make.j2.eq_2 (k:=k) ..) (Ev.congr (fun k=> ?_) ev),I'⟩;rw [if_pos rfl,if_neg d1,hp,if_pos d2,if_pos d3,if_pos d4,Option.bind_some,if_neg (by simp),e1,if_pos c3,if_pos c4,ry,if_pos g1,rf,q1,q2,Int.toNat_natCast,if_pos g3,rn,e3]
    have fin: ∃r left',Ev (fun k=>law11_Make.j1 k ns c l left ((2*j:Nat):Int) true) r∧MkI c r left':=by
      by_cases h0:0<l.length;rotate_left
      · obtain ⟨r, left', ev, I'⟩ := root
        refine ⟨r,left',Ev.step (fun k=>law11_Make.j1.eq_2 (k:=k) ..) (Ev.congr (fun k=> ?_) ev),I'⟩
        rw [if_pos rfl,if_pos c1,if_pos c2,Option.bind_some,if_neg (by omega),rx,wx,hnm]
      by_cases t:Int.tmod x 3>0
      · obtain ⟨r, left', ev, I'⟩ := kid h0
        refine ⟨r,left',Ev.step (fun k=>law11_Make.j1.eq_2 (k:=k) ..) (Ev.congr (fun k=> ?_) ev),I'⟩
        rw [if_pos rfl,if_pos c1,if_pos c2,Option.bind_some,if_pos (by omega),rx,wx,hnm,decide_eq_true t]
      obtain ⟨r,left',ev,I'⟩:=root;refine ⟨r,left',Ev.step (fun k=>law11_Make.j1.eq_2 (k:=k) ..) (Ev.congr (fun k=> ?_) ev),I'⟩;rw [if_pos rfl,if_pos c1,if_pos c2,Option.bind_some,if_pos (by omega),rx,wx,hnm,decide_eq_false t]
    obtain ⟨r,left',ev,I'⟩:=fin;refine ⟨r,left',Ev.step (fun k=>law11_Make.l0.eq_2 (k:=k) ..) (Ev.congr (fun k=> ?_) ev),I'⟩;rw [e1,if_pos c4,decide_eq_true (show (l.length:Int)<24 by omega)]
theorem make_ev {ns:List Int} (c:Bool) (hns:ns.length≤60) (hb: ∀x∈ns,0≤x∧x≤255): ∃r left,Ev (fun k=>law11_Make.f k ns c) r∧MkI c r left:=
 make_go hns hb ns.length 0 [] [] (by omega) (by omega) (mkI_nil c)
end Go.Proofs.Ytahidkjncljkaaa.Print

namespace Go.Proofs.Ytahidkjncljkaaa.Print
open Go.RowKit Go.Proofs.YtahidkjncljkaaaW.PrintWords Go.Proofs.YtahidkjncljkaaaW.PrintLast Go.Proofs.YtahidkjncljkaaaW.PrintMore
theorem pl_u8 {x:Int} (h:(Lit.int .u8 x).wf=true):0≤x∧x≤255:=by
 simp only [Lit.wf,Bool.and_eq_true,decide_eq_true_eq] at h;obtain ⟨h1,h2⟩:=h;exact ⟨h1,h2⟩
theorem pl_stepN (s:List PStep) {i:Nat} (h:i<s.length):rd_T76 s (i:Int)=s[i]:=by
 show s.getD (i:Int).toNat _=_
 rw [Int.toNat_natCast,List.getD_eq_getElem?_getD,List.getElem?_eq_getElem h,Option.getD_some]
section
variable {ws:List Want} {t':List Item}
theorem pl_l1 (hr:RightP t') (hw:ws.length≤1000) (h1: ∀w∈ws,PL t' w.f0=some (w.f1,w.f2)) (he:Ev (fun k=>(law18_Loose.f k t').bind fun t31=>((plan_Steps.f ws t31 t').bind fun bt34=>((law1_Num.f bt34.2).bind fun t38=>(if t38=0 then (if (bt34.1.length:Int)=0 then ((law18_awake.f).bind fun t39=>(some t39)) else (none)) else (none))))) true): ∀(d i:Nat),ws.length - i=d→i≤ws.length→Ev (fun k=>law18_PlanLeads.l1 k t' ws (i:Int)) true
  | 0, i, hd, hi => by
    obtain rfl:i=ws.length:=by omega
    exact Ev.step (fun k=>law18_PlanLeads.l1.eq_2 (k:=k) ..) (Ev.congr (fun k=>if_neg (by omega)) he)
  | d + 1, i, hd, hi => by
    have hlt:i<ws.length:=by omega
    have hl:=hr.len
    have e1:wrap64 ((i:Int)+1)=((i+1:Nat):Int):=by rw [w64 (by omega) (by omega)];rfl
    have next:=pl_l1 hr hw h1 he d (i+1) (by omega) (by omega)
    refine Ev.step (fun k=>law18_PlanLeads.l1.eq_2 (k:=k) ..) (Ev.congr (fun k=>by rw [if_pos (by omega),if_pos (by omega),rd_wantN ws hlt,e1]) ?_)
    refine Ev.bind (r10_Find_ev t' ws[i].f0 (by omega)) ?_
    have q:=h1 ws[i] (List.getElem_mem hlt)
    unfold PL at q
    cases e:look t' ws[i].f0 with
    |none=>rw [e] at q;cases q
    | some x =>
      rw [e] at q
      have q:=Option.some.inj q
      injection q with q1 q2
      have a:=fnd_ge.2 ⟨x,e⟩
      have b:=fnd_lt t' ws[i].f0
      refine Ev.congr (fun k=>by rw [if_neg (by omega),if_pos a,if_pos b,fnd_rd e]) ?_
      refine Ev.congr (fun k=>(if_pos (nm_inj.2 q1)).trans (if_neg ?_)) next
      rw [show ws[i].f2=x.f2 from q2.symm]
      simp
theorem pl_l0 (hw:ws.length≤1000) (he:Ev (fun k=>law18_PlanLeads.l1 k t' ws 0) true) (hlen:t'.length=ws.length) {s:List PStep} (hs:s.length≤5000): ∀(d i:Nat) (t:List Item),s.length - i=d→i≤s.length→RightP t→Run t (s.drop i) t'→Ev (fun k=>law18_PlanLeads.l0 k t ws s (i:Int)) true
  | 0, i, t, hd, hi, hr, h => by
    obtain rfl:i=s.length:=by omega
    rw [List.drop_length] at h;obtain ⟨_,rfl⟩:=h;exact Ev.step (fun k=>law18_PlanLeads.l0.eq_2 (k:=k) ..) (Ev.congr (fun k=>(if_neg (by omega)).trans (if_pos (by exact congrArg Int.ofNat hlen))) he)
  | d + 1, i, t, hd, hi, hr, h => by
    have hlt:i<s.length:=by omega
    have e1:wrap64 ((i:Int)+1)=((i+1:Nat):Int):=by rw [w64 (by omega) (by omega)];rfl
    rw [List.drop_eq_getElem_cons hlt] at h;unfold Run at h;rw [trR_cons] at h;by_cases c:(doR t s[i].f0 s[i].f1 s[i].f2 s[i].f3 (-1)).2=0;rotate_left
    · rw [if_neg c] at h
      exact absurd h.1 c
    rw [if_pos c,trR_shift] at h;have next:=pl_l0 hw he hlen hs d (i+1) _ (by omega) (by omega) (do_right hr c) ⟨h.1,h.2⟩;refine Ev.step (fun k=>law18_PlanLeads.l0.eq_2 (k:=k) ..) (Ev.congr (fun k=>by rw [if_pos (by omega),if_pos (by omega),pl_stepN s hlt,e1]) ?_);refine Ev.bind (r10_Do_ev hr _ _ _ _ _) ?_;exact Ev.congr (fun k=>if_pos c) next
end
theorem pl_main {ns wn:List Int} (h1:ns.length≤60) (h2:wn.length≤60) (hb:Bytes ns) (hw: ∀x∈wn,0≤x∧x≤255):Ev (fun k=>law18_PlanLeads.j0 k ns wn false) true:=by
  obtain ⟨l,ev,M⟩:=made_all hb (by omega);obtain ⟨ws,left,evw,I⟩:=make_ev false h2 hw;have hl24:=M.len;have hE:=idle_right M.right;have hEl:(l.map idle).length≤24:=by rw [List.length_map];exact hl24
  have hc:=mk_check I;have hs:=mk_small I;have hwl:=I.n24;obtain ⟨p0,t',p2⟩:=plan_ok hE (fun x hx=>by obtain ⟨y,_,rfl⟩:=List.mem_map.1 hx;exact ⟨rfl,rfl⟩) (fun x hx=>by obtain ⟨y,hy,rfl⟩:=List.mem_map.1 hx;exact M.ver y hy) hEl hc hwl;have hll:(looseL (l.map idle)).length≤24:=by unfold looseL;rw [List.length_map];exact hEl
  have hwn:=(checkR_tree (.inl hc)).nodup;have hrt:=run_right _ p2 hE;have hrl:=hrt.len;obtain ⟨f1,f2⟩:=plan_leads hE hc p2;have flen:=leads_len hrt hwn f1 f2
  have hpl:(planR ws (looseL (l.map idle)) (l.map idle)).1.length≤3*ws.length+(looseL (l.map idle)).length:=by
    obtain ⟨wd,hwd⟩:=wide_some (l.map idle) (topR ws) false;unfold planR;rw [if_pos hc,hwd];exact plan_len ws _ _ wd
  refine Ev.step (fun k=>law18_PlanLeads.j0.eq_2 (k:=k) ..) (Ev.congr (fun k=>if_neg (by simp)) ?_);refine Ev.bind ev (Ev.bind (empty_evI (by omega)) (Ev.bind evw (Ev.bind (loose_evI (by omega)) ?_)));rw [plan_Steps_ev hs (by omega) (by omega)];simp only [Option.bind_some];rw [p0,show law1_Num.f 0=some 0 from rfl];simp only [Option.bind_some];refine Ev.congr (fun k=>if_pos trivial) ?_
  -- the plan from its end is empty
  have hz:planR ws (looseL t') t'=([],0):=by
    obtain ⟨wd,hwd⟩:=wide_some t' (topR ws) false
    have hm:((looseL t').map (·.f0)).Nodup:=by
      unfold looseL;rw [List.map_map];exact hrt.nodup
    have key:=(pe_iff hm hwn hwd).2 ⟨by unfold looseL;rw [List.length_map];exact flen,fun y hy=>by
      have q:=f1 y hy;unfold PL at q
      cases e:look t' y.f0 with
      |none=>rw [e] at q;cases q
      | some x =>
        rw [e] at q;have q:=Option.some.inj q;injection q with q1 q2
        have hin:(looseL t').any (inQ y)=true:=any_inQ.2 (by
          obtain ⟨hx,hxn⟩:=look_mem e;unfold looseL;rw [List.map_map,←hxn];exact List.mem_map_of_mem hx)
        unfold asW liveW;rw [e,hin];dsimp only;rw [if_pos q1,eqW_iff.2 q2]
        rfl⟩
    unfold planR;rw [if_pos hc,hwd];dsimp only;rw [key]
  have hend:Ev (fun k=>(law18_Loose.f k t').bind fun t31=>((plan_Steps.f ws t31 t').bind fun bt34=>((law1_Num.f bt34.2).bind fun t38=>(if t38=0 then (if (bt34.1.length:Int)=0 then ((law18_awake.f).bind fun t39=>(some t39)) else (none)) else (none))))) true:=by
    refine Ev.bind (loose_evI (by omega)) ?_;rw [plan_Steps_ev hs (by omega) (by unfold looseL;rw [List.length_map];omega),hz];simp only [Option.bind_some];rw [show law1_Num.f 0=some 0 from rfl];simp only [Option.bind_some];exact Ev.congr (fun k=>(if_pos trivial).trans (if_pos rfl)) awake18_ev
  refine pl_l0 (by omega) (pl_l1 hrt (by omega) f1 hend ws.length 0 (by omega) (by omega)) flen (by omega) _ 0 _ rfl (by omega) hE ?_;rw [List.drop_zero];exact p2
theorem planLeads_pure:law18_PlanLeads.Pure:=by
  intro ns ns1 _ _ hw _ _ hw1;unfold law18_PlanLeads.f;have hstop:Ev (fun k=>law18_PlanLeads.j0 k ns ns1 true) true:=Ev.step (fun k=>law18_PlanLeads.j0.eq_2 (k:=k) ..) (Ev.congr (fun k=>if_pos rfl) awake18_ev);refine Ev.rounds ?_;by_cases h:(ns.length:Int)>60
  · exact Ev.congr (fun k=>if_pos h) hstop
  refine Ev.congr (fun k=>if_neg h) ?_;by_cases h1:(ns1.length:Int)>60
  · rw [decide_eq_true h1];exact hstop
  rw [decide_eq_false h1];exact pl_main (by omega) (by omega) (fun x hx=>pl_u8 (hw x hx)) (fun x hx=>pl_u8 (hw1 x hx))
end Go.Proofs.Ytahidkjncljkaaa.Print
namespace Go.Proofs.Ytahidkjncljkaaa.Pure
open Go.Proofs.Ytahidkjncljkaaa.Print
theorem PlanLeads:law18_PlanLeads.Pure:=planLeads_pure
end Go.Proofs.Ytahidkjncljkaaa.Pure

namespace Go.Proofs.Ytahidkjncljkaaa.Head
def signs:List Char:=(List.map Char.ofNat [104,97,114,110,101,115,115,32,52,48,100,98,98,98,100,57,102,99,56,49,51,57,52,102,98,101,100,54,48,53,102,48,101,50,51,100,52,101,50,55,97,52,48,52,98,97,49,55,57,48,56,57,54,99,56,100,54,100,100,54,56,102,97,52,102,101,49,48,50,99,55,57,32,99,117,116,32,97,116,32,100,111,111,114,107,101,101,112,101,114,47,100,111,111,114,107,101,101,112,101,114,108,97,119,49,49,46,87,97,110,116,65,108,108,32,100,111,111,114,107,101,101,112,101,114,47,100,111,111,114,107,101,101,112,101,114,108,97,119,49,49,46,87,97,110,116,77,97,100,101,32,100,111,111,114,107,101,101,112,101,114,47,100,111,111,114,107,101,101,112,101,114,108,97,119,49,49,46,87,97,110,116,84,111,112,32,100,111,111,114,107,101,101,112,101,114,47,100,111,111,114,107,101,101,112,101,114,108,97,119,49,49,46,87,97,110,116,67,105,114,99,108,101,32,100,111,111,114,107,101,101,112,101,114,47,100,111,111,114,107,101,101,112,101,114,108,97,119,49,49,46,87,97,110,116,83,117,109,115,32,100,111,111,114,107,101,101,112,101,114,47,100,111,111,114,107,101,101,112,101,114,108,97,119,49,57,46,84,114,105,97,108,67,117,116,115,32,100,111,111,114,107,101,101,112,101,114,47,100,111,111,114,107,101,101,112,101,114,108,97,119,49,56,46,80,108,97,110,65,108,108,32,100,111,111,114,107,101,101,112,101,114,47,100,111,111,114,107,101,101,112,101,114,108,97,119,49,56,46,80,108,97,110,77,97,100,101,32,100,111,111,114,107,101,101,112,101,114,47,100,111,111,114,107,101,101,112,101,114,108,97,119,49,56,46,80,108,97,110,76,101,97,100,115,32,100,111,111,114,107,101,101,112,101,114,47,100,111,111,114,107,101,101,112,101,114,108,97,119,49,56,46,80,108,97,110,69,109,112,116,121,32,100,111,111,114,107,101,101,112,101,114,47,100,111,111,114,107,101,101,112,101,114,108,97,119,49,56,46,80,108,97,110,79,114,100,101,114,32,100,111,111,114,107,101,101,112,101,114,47,100,111,111,114,107,101,101,112,101,114,108,97,119,49,56,46,80,108,97,110,70,114,101,115,104,32,100,111,111,114,107,101,101,112,101,114,47,100,111,111,114,107,101,101,112,101,114,108,97,119,49,56,46,80,108,97,110,78,111,110,101,32,100,111,111,114,107,101,101,112,101,114,47,100,111,111,114,107,101,101,112,101,114,108,97,119,49,56,46,80,108,97,110,67,108,97,115,104,32,100,111,111,114,107,101,101,112,101,114,47,100,111,111,114,107,101,101,112,101,114,108,97,119,49,56,46,80,108,97,110,87,105,100,101,32,100,111,111,114,107,101,101,112,101,114,47,100,111,111,114,107,101,101,112,101,114,108,97,119,50,51,46,65,112,112,108,121,65,108,108,32,100,111,111,114,107,101,101,112,101,114,47,100,111,111,114,107,101,101,112,101,114,108,97,119,50,51,46,65,112,112,108,121,77,97,100,101,32,100,111,111,114,107,101,101,112,101,114,47,100,111,111,114,107,101,101,112,101,114,108,97,119,50,51,46,65,112,112,108,121,65,103,97,105,110,32,100,111,111,114,107,101,101,112,101,114,47,100,111,111,114,107,101,101,112,101,114,108,97,119,50,51,46,65,112,112,108,121,69,110,100,115])
set_option maxRecDepth 100000 in
theorem word:Try.prog.initOrder=String.ofList signs:=by kernel_rfl
theorem list:Try.prog.initOrder.toList=signs:=by rw [word,String.toList_ofList]
theorem words_app: ∀(w r:List Char),(∀c∈w,c≠Char.ofNat 32)→wordsSigns (w++Char.ofNat 32::r)=w::wordsSigns r
  |[],r,_=>rfl
  | c :: w, r, h => by
    have hc:c≠Char.ofNat 32:=h c (by simp);have ih:=words_app w r (fun d hd=>h d (by simp [hd]))
    show wordsSigns (c::(w++Char.ofNat 32::r))=_
    rw [wordsSigns.eq_3 _ _ (fun q=>hc q),ih]
def w1:List Char:=[Char.ofNat 104,Char.ofNat 97,Char.ofNat 114,Char.ofNat 110,Char.ofNat 101,Char.ofNat 115,Char.ofNat 115]
def w2:List Char:=(List.map Char.ofNat [52,48,100,98,98,98,100,57,102,99,56,49,51,57,52,102,98,101,100,54,48,53,102,48,101,50,51,100,52,101,50,55,97,52,48,52,98,97,49,55,57,48,56,57,54,99,56,100,54,100,100,54,56,102,97,52,102,101,49,48,50,99,55,57])
def w3:List Char:=[Char.ofNat 99,Char.ofNat 117,Char.ofNat 116]
def rest:List Char:=(List.map Char.ofNat [97,116,32,100,111,111,114,107,101,101,112,101,114,47,100,111,111,114,107,101,101,112,101,114,108,97,119,49,49,46,87,97,110,116,65,108,108,32,100,111,111,114,107,101,101,112,101,114,47,100,111,111,114,107,101,101,112,101,114,108,97,119,49,49,46,87,97,110,116,77,97,100,101,32,100,111,111,114,107,101,101,112,101,114,47,100,111,111,114,107,101,101,112,101,114,108,97,119,49,49,46,87,97,110,116,84,111,112,32,100,111,111,114,107,101,101,112,101,114,47,100,111,111,114,107,101,101,112,101,114,108,97,119,49,49,46,87,97,110,116,67,105,114,99,108,101,32,100,111,111,114,107,101,101,112,101,114,47,100,111,111,114,107,101,101,112,101,114,108,97,119,49,49,46,87,97,110,116,83,117,109,115,32,100,111,111,114,107,101,101,112,101,114,47,100,111,111,114,107,101,101,112,101,114,108,97,119,49,57,46,84,114,105,97,108,67,117,116,115,32,100,111,111,114,107,101,101,112,101,114,47,100,111,111,114,107,101,101,112,101,114,108,97,119,49,56,46,80,108,97,110,65,108,108,32,100,111,111,114,107,101,101,112,101,114,47,100,111,111,114,107,101,101,112,101,114,108,97,119,49,56,46,80,108,97,110,77,97,100,101,32,100,111,111,114,107,101,101,112,101,114,47,100,111,111,114,107,101,101,112,101,114,108,97,119,49,56,46,80,108,97,110,76,101,97,100,115,32,100,111,111,114,107,101,101,112,101,114,47,100,111,111,114,107,101,101,112,101,114,108,97,119,49,56,46,80,108,97,110,69,109,112,116,121,32,100,111,111,114,107,101,101,112,101,114,47,100,111,111,114,107,101,101,112,101,114,108,97,119,49,56,46,80,108,97,110,79,114,100,101,114,32,100,111,111,114,107,101,101,112,101,114,47,100,111,111,114,107,101,101,112,101,114,108,97,119,49,56,46,80,108,97,110,70,114,101,115,104,32,100,111,111,114,107,101,101,112,101,114,47,100,111,111,114,107,101,101,112,101,114,108,97,119,49,56,46,80,108,97,110,78,111,110,101,32,100,111,111,114,107,101,101,112,101,114,47,100,111,111,114,107,101,101,112,101,114,108,97,119,49,56,46,80,108,97,110,67,108,97,115,104,32,100,111,111,114,107,101,101,112,101,114,47,100,111,111,114,107,101,101,112,101,114,108,97,119,49,56,46,80,108,97,110,87,105,100,101,32,100,111,111,114,107,101,101,112,101,114,47,100,111,111,114,107,101,101,112,101,114,108,97,119,50,51,46,65,112,112,108,121,65,108,108,32,100,111,111,114,107,101,101,112,101,114,47,100,111,111,114,107,101,101,112,101,114,108,97,119,50,51,46,65,112,112,108,121,77,97,100,101,32,100,111,111,114,107,101,101,112,101,114,47,100,111,111,114,107,101,101,112,101,114,108,97,119,50,51,46,65,112,112,108,121,65,103,97,105,110,32,100,111,111,114,107,101,101,112,101,114,47,100,111,111,114,107,101,101,112,101,114,108,97,119,50,51,46,65,112,112,108,121,69,110,100,115])
theorem parts:signs=w1++Char.ofNat 32::(w2++Char.ofNat 32::(w3++Char.ofNat 32::rest)):=by kernel_rfl
theorem behind: ∃r,behindMainWord (wordsSigns Try.prog.initOrder.toList)=w3::r:=by
 refine ⟨wordsSigns rest, ?_⟩;rw [list,parts,words_app w1 _ (by decide),words_app w2 _ (by decide),words_app w3 _ (by decide)];generalize wordsSigns rest=r
 rfl
theorem strip (r:List (List Char)):stripLifts liftWords (w3::r)=([],w3::r):=by kernel_rfl
theorem not_carried (r:List (List Char)):((w3::r).head?==some "carried".toList)=false:=by kernel_rfl
theorem is_cut (r:List (List Char)):((w3::r).head?==some "cut".toList)=true:=by kernel_rfl
theorem not_gc:(w3== "gc".toList||w3== "spec".toList)=false:=by kernel_rfl
theorem cut_:(w3== "cut".toList)=true:=by kernel_rfl
theorem lifts_of {P:Program} {r:List (List Char)} (h:behindMainWord (wordsSigns P.initOrder.toList)=w3::r):P.liftsFinal=false:=by
 unfold Program.liftsFinal Program.headLifts;simp only [h,strip,not_carried,is_cut,if_true,Bool.false_and,Bool.false_or,List.contains_nil]
theorem make_of {P:Program} {r:List (List Char)} (h:behindMainWord (wordsSigns P.initOrder.toList)=w3::r):P.make=some .cut:=by
 unfold Program.make;simp only [h,not_gc,cut_,Bool.true_or,if_true,Bool.false_eq_true,if_false]
theorem lifts:Try.prog.liftsFinal=false:=by obtain ⟨r,h⟩:=behind;exact lifts_of h
theorem make:Try.prog.make=some .cut:=by obtain ⟨r,h⟩:=behind;exact make_of h
theorem later:Try.prog.laysLater=false:=by kernel_rfl
theorem reflects:Try.prog.bearsReflect=false:=by kernel_rfl
theorem door:Try.prog.doorFits []=true:=by kernel_rfl
theorem may_of {P:Program} {r:List (List Char)} (h:behindMainWord (wordsSigns P.initOrder.toList)=w3::r) (h1:P.laysLater=false) (h2:P.bearsReflect=false) (h3:P.doorFits []=true):P.mayEnter=true:=by
 unfold Program.mayEnter;simp only [h,strip,is_cut,h1,h2,h3,List.contains_nil,Bool.not_false,Bool.or_true,Bool.and_true,Bool.and_self]
theorem mayEnter:Try.prog.mayEnter=true:=by obtain ⟨r,h⟩:=behind;exact may_of h later reflects door
theorem stopsHeard:Try.prog.stopsHeard=true:=by kernel_rfl
theorem laidOut:laidOutB Try.prog=true:=by kernel_rfl
theorem mapsRowed:mapsRowed Try.prog=true:=by kernel_rfl
theorem stops:(Try.prog.stops==[])=true:=by kernel_rfl
theorem stopKnobs:(Try.prog.stopKnobs==[])=true:=by kernel_rfl
end Go.Proofs.Ytahidkjncljkaaa.Head

-- PRINTED WORDS (module Derived/Print/Sized.lean): go-gate-2's, for the rows of laws over slices: an AI agent of Go's test side, Tue Nov 17 2026; no person has read it. Lean checks it.
namespace Go.Proofs.YtahidkjncljkaaaW.PrintWords
open Go.ChangeShapes Go.WideShapes
theorem sized_ints {H:Type} {enc:TypeId×Value→H} {P:Program} {W:World} {base:Nat} {spare:Nat→Bool} {held:Bool} {t e:TypeId} {k:IntKind} {a:Option Addr} {len cap:Nat} {d:DataW H} {ps:List MemPlace} {ts:List TypeId} {ds:List (DataW H)} {j:Nat}
    (hsz:(DataW.weightsEach P ts ds).all (· ≤reachBytes)=true) (ht:ts[j]?=some t) (hd:ds[j]?=some d) (hu:P.underlying t=some (.slice e)) (he:P.underlying e=some (.int k)) (hc:P.cellsOf e=1) {B:Nat} (hB:P.bytesOf e=B)
    (h:DataW.Trod enc P W base spare held t (.slice a len cap) d ps):len*B≤140737488351232:=by
  obtain ⟨fuel,hf⟩:=h
  rcases open_ints hu he hc hf with ⟨hcs,_⟩|⟨x,l,c,zs,hcs,_,hl,_,hz,hx,_,_⟩
  · simp [Value.cells] at hcs
    obtain ⟨rfl,rfl,rfl⟩:=hcs
    simp
  · simp [Value.cells] at hcs
    obtain ⟨rfl,rfl,rfl⟩:=hcs
    obtain ⟨hx,_⟩:=Prod.mk.inj hx
    subst hx
    have z:=sized_slice hsz ht hd hu
    rw [hB] at z
    have hl2:len≤zs.length:=by
      rw [hz]
      split
      · exact hl
      · exact Nat.le_refl _
    have h1:(lits (H:=H) k (zs.take len)).length+(lits (H:=H) k (zs.drop len)).length=zs.length:=by
      simp [lits]
      omega
    rw [h1] at z
    exact Nat.le_trans (Nat.mul_le_mul_right _ hl2) z
end Go.Proofs.YtahidkjncljkaaaW.PrintWords
