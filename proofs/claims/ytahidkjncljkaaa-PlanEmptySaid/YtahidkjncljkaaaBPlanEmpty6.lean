/- PlanEmpty: a part -/
import Derived.Test.YtahidkjncljkaaaRows
import Derived.WalkKit
import Derived.ProofKit
import Derived.OpenShut
import Derived.JoinedOf
import Derived.SizedLaws
import Derived.ChangeSlices
import Derived.Test.YtahidkjncljkaaaBPlanEmpty0
import Derived.Test.YtahidkjncljkaaaBPlanEmpty1
import Derived.Test.YtahidkjncljkaaaBPlanEmpty3
import Derived.Test.YtahidkjncljkaaaBPlanEmpty4
import Derived.Test.YtahidkjncljkaaaBPlanEmpty5
set_option linter.unusedVariables false
set_option linter.unusedSimpArgs false
namespace Go.Proofs.Ytahidkjncljkaaa.Print
open Go.RowKit Go.Proofs.YtahidkjncljkaaaW.PrintWords Go.Proofs.YtahidkjncljkaaaW.PrintLast Go.Proofs.YtahidkjncljkaaaW.PrintMore
attribute [local go_sem] max2_int min2_int max_two min_two max_three min_three max_four min_four

attribute [local go_sem high] eqA37
mutual
noncomputable def law18_PlanEmpty.j0:Nat→List Int→List Int→Int→Bool→Bool→Option (Bool)
 |0,_,_,_,_,_=>none
 |k+1,x0,x1,x2,x3,x26=>if x26=true then ((law18_awake.f).bind fun t1=>(some t1)) else ((law18_Live.f k x0 x2).bind fun bt2=>((law11_Make.f k x1 false).bind fun t8=>(if x3=true then ((law18_ready.f k t8).bind fun bt11=>(law18_PlanEmpty.j1 k bt11.1 bt11.2.1 bt11.2.2)) else (law18_PlanEmpty.j1 k bt2.1 bt2.2 t8))))
noncomputable def law18_PlanEmpty.j1:Nat→List (S84)→List (S79)→List (S39)→Option (Bool)
 |0,_,_,_=>none
 |k+1,x9,x10,x11=>(plan_Steps.f x11 x9 x10).bind fun bt20=>((law1_Num.f bt20.2).bind fun t24=>(if t24=0 then (law18_PlanEmpty.l0 k x9 x10 x11 bt20.1 ((x9.length:Int)==(x11.length:Int)) 0) else ((law18_Free.f k x11 x9 x10).bind fun t25=>(if t25=true then (some false) else ((law1_Num.f bt20.2).bind fun t26=>(if t26=3 then ((law18_awake.f).bind fun t27=>(some t27)) else (some false)))))))
noncomputable def law18_PlanEmpty.l0:Nat→List (S84)→List (S79)→List (S39)→List (S76)→Bool→Int→Option (Bool)
 |0,_,_,_,_,_,_=>none
 |k+1,x9,x10,x11,x12,x14,x15=>if x15<(x11.length:Int) then (if 0≤x15 then ((r10_Find.f k x10 ((rd_T39 x11 x15).f0)).bind fun t30=>(if x14=true then (if t30≥0 then (if 0≤t30 then (if t30<(x10.length:Int) then (if ((rd_T79 x10 t30).f1).toList=((rd_T39 x11 x15).f1).toList then (law18_PlanEmpty.j3 k x9 x10 x11 x12 (((rd_T79 x10 t30).f2.f0)==((rd_T39 x11 x15).f2.f0) && (((rd_T79 x10 t30).f2.f1)==((rd_T39 x11 x15).f2.f1) && (((rd_T79 x10 t30).f2.f2)==((rd_T39 x11 x15).f2.f2)))) x15) else (law18_PlanEmpty.j3 k x9 x10 x11 x12 false x15)) else (none)) else (none)) else (law18_PlanEmpty.j3 k x9 x10 x11 x12 false x15)) else (law18_PlanEmpty.j3 k x9 x10 x11 x12 false x15))) else (none)) else (if (((x12.length:Int)==0)==x14)=true then ((law18_awake.f).bind fun t28=>(some t28)) else (some false))
noncomputable def law18_PlanEmpty.j3:Nat→List (S84)→List (S79)→List (S39)→List (S76)→Bool→Int→Option (Bool)
 |0,_,_,_,_,_,_=>none
 |k+1,x9,x10,x11,x12,x14,x15=>law18_PlanEmpty.l1 k x9 x10 x11 x12 x14 x15 false 0
noncomputable def law18_PlanEmpty.l1:Nat→List (S84)→List (S79)→List (S39)→List (S76)→Bool→Int→Bool→Int→Option (Bool)
 |0,_,_,_,_,_,_,_,_=>none
 |k+1,x9,x10,x11,x12,x14,x15,x17,x18=>if x18<(x9.length:Int) then (if x17=true then (law18_PlanEmpty.l1 k x9 x10 x11 x12 x14 x15 true (wrap64 (x18+1))) else (if 0≤x18 then (if 0≤x15 then (if x15<(x11.length:Int) then (law18_PlanEmpty.l1 k x9 x10 x11 x12 x14 x15 (((rd_T84 x9 x18).f0).toList==((rd_T39 x11 x15).f0).toList) (wrap64 (x18+1))) else (none)) else (none)) else (none))) else (if x14=true then (law18_PlanEmpty.l0 k x9 x10 x11 x12 x17 (wrap64 (x15+1))) else (law18_PlanEmpty.l0 k x9 x10 x11 x12 false (wrap64 (x15+1))))
end
noncomputable def law18_PlanEmpty.f (k:Nat) (l0:List Int) (l1:List Int) (a2:Int) (a3:Bool):Option (Bool):=if (l0.length:Int)>60 then (law18_PlanEmpty.j0 k l0 l1 a2 a3 true) else (law18_PlanEmpty.j0 k l0 l1 a2 a3 (decide ((l1.length:Int)>60)))
theorem law18_PlanEmpty.mono_l: ∀k,(∀y0 y1 y2 y3 y4,LeO (law18_PlanEmpty.j0 k y0 y1 y2 y3 y4) (law18_PlanEmpty.j0 (k+1) y0 y1 y2 y3 y4))∧(∀y0 y1 y2,LeO (law18_PlanEmpty.j1 k y0 y1 y2) (law18_PlanEmpty.j1 (k+1) y0 y1 y2))∧(∀y0 y1 y2 y3 y4 y5,LeO (law18_PlanEmpty.l0 k y0 y1 y2 y3 y4 y5) (law18_PlanEmpty.l0 (k+1) y0 y1 y2 y3 y4 y5))∧(∀y0 y1 y2 y3 y4 y5,LeO (law18_PlanEmpty.j3 k y0 y1 y2 y3 y4 y5) (law18_PlanEmpty.j3 (k+1) y0 y1 y2 y3 y4 y5))∧(∀y0 y1 y2 y3 y4 y5 y6 y7,LeO (law18_PlanEmpty.l1 k y0 y1 y2 y3 y4 y5 y6 y7) (law18_PlanEmpty.l1 (k+1) y0 y1 y2 y3 y4 y5 y6 y7))
 |0=>⟨fun _ _ _ _ _ r h=>by simp [law18_PlanEmpty.j0] at h,fun _ _ _ r h=>by simp [law18_PlanEmpty.j1] at h,fun _ _ _ _ _ _ r h=>by simp [law18_PlanEmpty.l0] at h,fun _ _ _ _ _ _ r h=>by simp [law18_PlanEmpty.j3] at h,fun _ _ _ _ _ _ _ _ r h=>by simp [law18_PlanEmpty.l1] at h⟩
 |k+1=>by
  obtain ⟨ih0,ih1,ih2,ih3,ih4⟩:=law18_PlanEmpty.mono_l k;refine ⟨?_, ?_, ?_, ?_, ?_⟩<;>(intros;first|unfold law18_PlanEmpty.j0|unfold law18_PlanEmpty.j1|unfold law18_PlanEmpty.l0|unfold law18_PlanEmpty.j3|unfold law18_PlanEmpty.l1)<;>repeat' with_reducible first|apply ih0|apply ih1|apply ih2|apply ih3|apply ih4|apply law11_Make.mono|apply law18_Free.mono|apply law18_Live.mono|apply law18_ready.mono|apply r10_Find.mono|apply LeO.refl|apply LeO.none|apply LeO.ite|refine LeO.bind ?_ fun _=> ?_
theorem law18_PlanEmpty.mono: ∀a0 a1 a2 a3 k,LeO (law18_PlanEmpty.f k a0 a1 a2 a3) (law18_PlanEmpty.f (k+1) a0 a1 a2 a3):=by
 intro a0 a1 a2 a3 k;obtain ⟨ih0,ih1,ih2,ih3,ih4⟩:=law18_PlanEmpty.mono_l k;unfold law18_PlanEmpty.f
 repeat' with_reducible first|apply ih0|apply ih1|apply ih2|apply ih3|apply ih4|apply law11_Make.mono|apply law18_Free.mono|apply law18_Live.mono|apply law18_ready.mono|apply r10_Find.mono|apply LeO.refl|apply LeO.none|apply LeO.ite|refine LeO.bind ?_ fun _=> ?_
set_option maxHeartbeats 8000000 in
set_option maxRecDepth 100000 in
theorem law18_PlanEmpty.calls (k:Nat) (A0:Option Addr) (c0:Nat) (l0:List Int) (A1:Option Addr) (c1:Nat) (l1:List Int) (a2:Int) (a3:Bool) (r:Bool) (w:World) (hr0:Kd.C (Kd.int .u8) w A0 l0.length l0) (hc0:l0.length≤c0) (hr1:Kd.C (Kd.int .u8) w A1 l1.length l1) (hc1:l1.length≤c1) (h:law18_PlanEmpty.f k l0 l1 a2 a3=some r):
  Calls Try.prog 12 #[.slice A0 l0.length c0, .slice A1 l1.length c1, .int .u8 a2, .bool a3] w fun e w'=>e= .returned (.bool r)∧Below w.heap.size w w':=by
 have hu37:=Try.underlying37;have HR0:=Aside0.mk hr0;have HC0:=Aside0.mk hc0;clear hr0 hc0;have HR1:=Aside0.mk hr1;have HC1:=Aside0.mk hc1;clear hr1 hc1;have HB:=am_ (Below.refl w.heap.size w);have H:(if (l0.length:Int)>60 then (law18_PlanEmpty.j0 k l0 l1 a2 a3 true) else (law18_PlanEmpty.j0 k l0 l1 a2 a3 (decide ((l1.length:Int)>60))))=some r:=h;clear h;have HC5:=Aside0.mk H;clear H;go_enter Try.func12,Try.ntmps12;go_upto_region 1 with (fail)
 repeat (go_quiet (fail);go_upto_region 1 with (fail))
 go_cut [26] (fun v26 wc=> ∃(kq:Nat) (x26_4:Bool),v26= .bool x26_4∧Aside0 (law18_PlanEmpty.j0 kq l0 l1 a2 a3 x26_4=some r)∧Aside0 (kq≤k)∧Aside0 (Below w.heap.size w wc))
 case first=>
  have H:=HC5.out;clear HC5;by_cases c6:(l0.length:Int)>60
  ·rw [if_pos c6] at H;have c6b0:decide (60<(l0.length:Int))=true:=decide_eq_true c6;have c6b1:decide (60<l0.length)=true:=decide_eq_true (by omega);clear c6;(first|rw [c6b0]|(simp only [i64_w,i32_w];rw [c6b0])|skip);have H':=Aside0.mk H;clear H;go_wp2
   repeat (go_quiet (fail);try go_wp2)
   go_meet
   case rel=>exact ⟨_,(true),rf_,H',⟨by first|omega|exact Nat.le_refl _⟩,⟨zl0_ HB⟩⟩
  rw [if_neg c6] at H;have c6b0:decide (60<(l0.length:Int))=false:=decide_eq_false c6;have c6b1:decide (60<l0.length)=false:=decide_eq_false (by omega);clear c6;(first|rw [c6b0]|(simp only [i64_w,i32_w];rw [c6b0])|skip);have H':=Aside0.mk H;clear H;go_wp2
  repeat (go_quiet (fail);try go_wp2)
  go_meet
  case rel=>exact ⟨_,(decide ((l1.length:Int)>60)),rf_,H',⟨by first|omega|exact Nat.le_refl _⟩,⟨zl0_ HB⟩⟩
 case rest=>
  clear HC5;obtain ⟨kq,x26_4,rfl,HA,HJ4,HB⟩:=hcut
  cases kq with
  |zero=>exact absurd HA.out (by simp [law18_PlanEmpty.j0])
  |succ kj4=>
   have H:=HA.out;clear HA;simp only [law18_PlanEmpty.j0] at H;by_cases c7:x26_4=true
   ·subst c7;rw [if_pos rfl] at H;replace H:=zbd_ H;obtain ⟨t1,A8,H⟩:=H;try dsimp only at H
    obtain rfl:=Option.some.inj H;go_wp2_with (first|(go_at_call 47;(with_reducible refine (law18_awake.calls t1 _ A8.out).mono ?_);rintro e w9 ⟨rfl,hb⟩;replace HB:=am_ (below_step (zl0_ HB) hb);(try clear hb)))
    repeat (go_quiet (first|(go_at_call 47;(with_reducible refine (law18_awake.calls t1 _ A8.out).mono ?_);rintro e w9 ⟨rfl,hb⟩;replace HB:=am_ (below_step (zl0_ HB) hb);(try clear hb)));try go_wp2_with (first|(go_at_call 47;(with_reducible refine (law18_awake.calls t1 _ A8.out).mono ?_);rintro e w9 ⟨rfl,hb⟩;replace HB:=am_ (below_step (zl0_ HB) hb);(try clear hb))))
    go_ret
    exact ⟨by first|rfl|(simp [errW_none,errW_some]<;>rfl)|(simp [*,errW_none,errW_some]<;>rfl),zl0_ HB⟩
   replace c7:=Bool.eq_false_iff.mpr c7;subst c7;rw [if_neg (show¬(false=true) by decide)] at H;replace H:=zbd_ H;obtain ⟨⟨t2,t3⟩,A10,H⟩:=H;try dsimp only at H
   replace H:=zbd_ H;obtain ⟨t8,A11,H⟩:=H;try dsimp only at H
   have HC12:=Aside0.mk H;clear H;go_upto_if 36 with (first|(go_at_call 50;(with_reducible refine (law18_Live.calls kj4 _ _ l0 a2 t2 t3 _ ?side1 ?side2 A10.out).mono ?_);(case side1=>exact zc_ (Kd.C_below HR0.out HB.out));(case side2=>exact HC0.out);rintro e w13 ⟨v4,v6,rfl,ho0,ho1,hb⟩;have HO5:=am_ (Kd.R_lower ho0 (below_size (zl0_ HB)));have HO7:=am_ (Kd.R_lower ho1 (below_size (zl0_ HB)));replace HB:=am_ (below_step (zl0_ HB) hb);(try clear hb ho0 ho1))|(go_at_call 32;(with_reducible refine (law11_Make.calls kj4 _ _ l1 false t8 _ ?side1 ?side2 A11.out).mono ?_);(case side1=>exact zc_ (Kd.C_below HR1.out HB.out));(case side2=>exact HC1.out);rintro e w14 ⟨v9,rfl,ho0,hb⟩;replace HO5:=ob_ HO5 hb;replace HO7:=ob_ HO7 hb;have HO10:=am_ (Kd.R_lower ho0 (below_size (zl0_ HB)));replace HB:=am_ (below_step (zl0_ HB) hb);(try clear hb ho0)))
   repeat (go_quiet (first|(go_at_call 50;(with_reducible refine (law18_Live.calls kj4 _ _ l0 a2 t2 t3 _ ?side1 ?side2 A10.out).mono ?_);(case side1=>exact zc_ (Kd.C_below HR0.out HB.out));(case side2=>exact HC0.out);rintro e w13 ⟨v4,v6,rfl,ho0,ho1,hb⟩;have HO5:=am_ (Kd.R_lower ho0 (below_size (zl0_ HB)));have HO7:=am_ (Kd.R_lower ho1 (below_size (zl0_ HB)));replace HB:=am_ (below_step (zl0_ HB) hb);(try clear hb ho0 ho1))|(go_at_call 32;(with_reducible refine (law11_Make.calls kj4 _ _ l1 false t8 _ ?side1 ?side2 A11.out).mono ?_);(case side1=>exact zc_ (Kd.C_below HR1.out HB.out));(case side2=>exact HC1.out);rintro e w14 ⟨v9,rfl,ho0,hb⟩;replace HO5:=ob_ HO5 hb;replace HO7:=ob_ HO7 hb;have HO10:=am_ (Kd.R_lower ho0 (below_size (zl0_ HB)));replace HB:=am_ (below_step (zl0_ HB) hb);(try clear hb ho0)));go_upto_if 36 with (first|(go_at_call 50;(with_reducible refine (law18_Live.calls kj4 _ _ l0 a2 t2 t3 _ ?side1 ?side2 A10.out).mono ?_);(case side1=>exact zc_ (Kd.C_below HR0.out HB.out));(case side2=>exact HC0.out);rintro e w13 ⟨v4,v6,rfl,ho0,ho1,hb⟩;have HO5:=am_ (Kd.R_lower ho0 (below_size (zl0_ HB)));have HO7:=am_ (Kd.R_lower ho1 (below_size (zl0_ HB)));replace HB:=am_ (below_step (zl0_ HB) hb);(try clear hb ho0 ho1))|(go_at_call 32;(with_reducible refine (law11_Make.calls kj4 _ _ l1 false t8 _ ?side1 ?side2 A11.out).mono ?_);(case side1=>exact zc_ (Kd.C_below HR1.out HB.out));(case side2=>exact HC1.out);rintro e w14 ⟨v9,rfl,ho0,hb⟩;replace HO5:=ob_ HO5 hb;replace HO7:=ob_ HO7 hb;have HO10:=am_ (Kd.R_lower ho0 (below_size (zl0_ HB)));replace HB:=am_ (below_step (zl0_ HB) hb);(try clear hb ho0))))
   (try simp only [Act.put,List.setIfInBounds_toArray,List.set_cons_zero,List.set_cons_succ]);go_cut [9,10,11] (fun v9 v10 v11 wc=> ∃(kq:Nat) (x9_11:List (S84)) (x10_11:List (S79)) (x11_11:List (S39)),Aside0 (law18_PlanEmpty.j1 kq x9_11 x10_11 x11_11=some r)∧Aside0 (kq≤kj4)∧Aside0 (Kd.R k84 84 wc w.heap.size (fun _=>True) v9 x9_11)∧Aside0 (Kd.R k79 79 wc w.heap.size (fun _=>True) v10 x10_11)∧Aside0 (Kd.R k39 39 wc w.heap.size (fun _=>True) v11 x11_11)∧Aside0 (Below w.heap.size w wc))
   case first=>
    have H:=HC12.out;clear HC12;by_cases c15:a3=true;rotate_left
    ·replace c15:=Bool.eq_false_iff.mpr c15;subst c15;rw [if_neg (show¬(false=true) by decide)] at H;have H':=Aside0.mk H;clear H;go_wp2
     repeat (go_quiet (fail);try go_wp2)
     go_meet
     case rel=>exact ⟨_,(t2),(t3),(t8),H',⟨by have:=HJ4.out;first|omega|exact Nat.le_refl _⟩,am_ (zr_ HO5),am_ (zr_ HO7),am_ (zr_ HO10),⟨zl0_ HB⟩⟩
    subst c15;rw [if_pos rfl] at H;replace H:=zbd_ H;obtain ⟨⟨t11,t14,t17⟩,A16,H⟩:=H;try dsimp only at H
    have H':=Aside0.mk H;clear H;obtain ⟨Ao17,co17,eo17⟩:=Kd.R_slice HO10.out;subst eo17
    go_wp2_with (first|(go_at_call 53;(with_reducible refine (law18_ready.calls kj4 (fun k_=>some k_=(.slice Ao17 t8.length co17:Value).ownBlock) (.slice Ao17 t8.length co17) t8 t11 t14 t17 w _ ?side1 ?side2 A16.out).mono ?_);(case side1=>repeat (first|(with_reducible first|exact HB.out|apply below_alloc|apply pw_below_drewN|apply below_drew1)|exact HB.out));(case side2=>exact Kd.R_tight rfl HO10.out);rintro e w18 ⟨v12,v15,v18,rfl,ho0,ho1,ho2,hb,hkp⟩;have n0_:=am_ (Kd.R_mono (ok':=fun k_=>some k_≠(v12:Value).ownBlock) (Kd.R_keptB ((Kd.R_apart' HO5.out (Kd.R_typed HO10.out) (by decide))) hkp (fun k_ hk_ hs_=>(hk_.2) hs_)) (fun k_ hk_=>fun e_=>Or.elim (ho0.1 k_ e_.symm) (fun hs_=>hk_.2.1 hs_) (fun hn_=>Nat.not_le.2 hk_.2.2 hn_)));have n1_:=am_ (Kd.R_mono (ok':=fun k_=>some k_≠(v15:Value).ownBlock) (Kd.R_keptB ((Kd.R_apart' HO7.out (Kd.R_typed HO10.out) (by decide))) hkp (fun k_ hk_ hs_=>(hk_.2) hs_)) (fun k_ hk_=>fun e_=>Or.elim (ho1.1 k_ e_.symm) (fun hs_=>hk_.2.1 hs_) (fun hn_=>Nat.not_le.2 hk_.2.2 hn_)));have n2_:=am_ (Kd.R_mono (ok':=fun k_=>some k_≠(v4:Value).ownBlock) ho0 (fun k_ hk_=>Or.elim hk_ (fun hs_=>fun e_=>((((Kd.R_apart' HO5.out (Kd.R_typed HO10.out) (by decide))).1 k_ e_.symm).2) hs_) (fun hn_=>(Kd.fresh' (Kd.R_lt (zr_ HO5)) k_ hn_))));have n3_:=am_ (Kd.R_mono (ok':=fun k_=>some k_≠(v6:Value).ownBlock) ho1 (fun k_ hk_=>Or.elim hk_ (fun hs_=>fun e_=>((((Kd.R_apart' HO7.out (Kd.R_typed HO10.out) (by decide))).1 k_ e_.symm).2) hs_) (fun hn_=>(Kd.fresh' (Kd.R_lt (zr_ HO7)) k_ hn_))));have n4_:=am_ (Kd.R_mono (ok':=fun k_=>True) ho2 (fun k_ hk_=>trivial));have n5_:=am_ (hb);clear HO5;clear HO7;clear HB;clear HO10;have HO5:=n0_;have HO7:=n1_;have HO13:=n2_;have HO16:=n3_;have HO19:=n4_;have HB:=n5_;clear n0_ n1_ n2_ n3_ n4_ n5_;(try clear hb);(try clear hkp);(try clear ho0);(try clear ho1);(try clear ho2)))
    repeat (go_quiet (first|(go_at_call 53;(with_reducible refine (law18_ready.calls kj4 (fun k_=>some k_=(.slice Ao17 t8.length co17:Value).ownBlock) (.slice Ao17 t8.length co17) t8 t11 t14 t17 w _ ?side1 ?side2 A16.out).mono ?_);(case side1=>repeat (first|(with_reducible first|exact HB.out|apply below_alloc|apply pw_below_drewN|apply below_drew1)|exact HB.out));(case side2=>exact Kd.R_tight rfl HO10.out);rintro e w18 ⟨v12,v15,v18,rfl,ho0,ho1,ho2,hb,hkp⟩;have n0_:=am_ (Kd.R_mono (ok':=fun k_=>some k_≠(v12:Value).ownBlock) (Kd.R_keptB ((Kd.R_apart' HO5.out (Kd.R_typed HO10.out) (by decide))) hkp (fun k_ hk_ hs_=>(hk_.2) hs_)) (fun k_ hk_=>fun e_=>Or.elim (ho0.1 k_ e_.symm) (fun hs_=>hk_.2.1 hs_) (fun hn_=>Nat.not_le.2 hk_.2.2 hn_)));have n1_:=am_ (Kd.R_mono (ok':=fun k_=>some k_≠(v15:Value).ownBlock) (Kd.R_keptB ((Kd.R_apart' HO7.out (Kd.R_typed HO10.out) (by decide))) hkp (fun k_ hk_ hs_=>(hk_.2) hs_)) (fun k_ hk_=>fun e_=>Or.elim (ho1.1 k_ e_.symm) (fun hs_=>hk_.2.1 hs_) (fun hn_=>Nat.not_le.2 hk_.2.2 hn_)));have n2_:=am_ (Kd.R_mono (ok':=fun k_=>some k_≠(v4:Value).ownBlock) ho0 (fun k_ hk_=>Or.elim hk_ (fun hs_=>fun e_=>((((Kd.R_apart' HO5.out (Kd.R_typed HO10.out) (by decide))).1 k_ e_.symm).2) hs_) (fun hn_=>(Kd.fresh' (Kd.R_lt (zr_ HO5)) k_ hn_))));have n3_:=am_ (Kd.R_mono (ok':=fun k_=>some k_≠(v6:Value).ownBlock) ho1 (fun k_ hk_=>Or.elim hk_ (fun hs_=>fun e_=>((((Kd.R_apart' HO7.out (Kd.R_typed HO10.out) (by decide))).1 k_ e_.symm).2) hs_) (fun hn_=>(Kd.fresh' (Kd.R_lt (zr_ HO7)) k_ hn_))));have n4_:=am_ (Kd.R_mono (ok':=fun k_=>True) ho2 (fun k_ hk_=>trivial));have n5_:=am_ (hb);clear HO5;clear HO7;clear HB;clear HO10;have HO5:=n0_;have HO7:=n1_;have HO13:=n2_;have HO16:=n3_;have HO19:=n4_;have HB:=n5_;clear n0_ n1_ n2_ n3_ n4_ n5_;(try clear hb);(try clear hkp);(try clear ho0);(try clear ho1);(try clear ho2)));try go_wp2_with (first|(go_at_call 53;(with_reducible refine (law18_ready.calls kj4 (fun k_=>some k_=(.slice Ao17 t8.length co17:Value).ownBlock) (.slice Ao17 t8.length co17) t8 t11 t14 t17 w _ ?side1 ?side2 A16.out).mono ?_);(case side1=>repeat (first|(with_reducible first|exact HB.out|apply below_alloc|apply pw_below_drewN|apply below_drew1)|exact HB.out));(case side2=>exact Kd.R_tight rfl HO10.out);rintro e w18 ⟨v12,v15,v18,rfl,ho0,ho1,ho2,hb,hkp⟩;have n0_:=am_ (Kd.R_mono (ok':=fun k_=>some k_≠(v12:Value).ownBlock) (Kd.R_keptB ((Kd.R_apart' HO5.out (Kd.R_typed HO10.out) (by decide))) hkp (fun k_ hk_ hs_=>(hk_.2) hs_)) (fun k_ hk_=>fun e_=>Or.elim (ho0.1 k_ e_.symm) (fun hs_=>hk_.2.1 hs_) (fun hn_=>Nat.not_le.2 hk_.2.2 hn_)));have n1_:=am_ (Kd.R_mono (ok':=fun k_=>some k_≠(v15:Value).ownBlock) (Kd.R_keptB ((Kd.R_apart' HO7.out (Kd.R_typed HO10.out) (by decide))) hkp (fun k_ hk_ hs_=>(hk_.2) hs_)) (fun k_ hk_=>fun e_=>Or.elim (ho1.1 k_ e_.symm) (fun hs_=>hk_.2.1 hs_) (fun hn_=>Nat.not_le.2 hk_.2.2 hn_)));have n2_:=am_ (Kd.R_mono (ok':=fun k_=>some k_≠(v4:Value).ownBlock) ho0 (fun k_ hk_=>Or.elim hk_ (fun hs_=>fun e_=>((((Kd.R_apart' HO5.out (Kd.R_typed HO10.out) (by decide))).1 k_ e_.symm).2) hs_) (fun hn_=>(Kd.fresh' (Kd.R_lt (zr_ HO5)) k_ hn_))));have n3_:=am_ (Kd.R_mono (ok':=fun k_=>some k_≠(v6:Value).ownBlock) ho1 (fun k_ hk_=>Or.elim hk_ (fun hs_=>fun e_=>((((Kd.R_apart' HO7.out (Kd.R_typed HO10.out) (by decide))).1 k_ e_.symm).2) hs_) (fun hn_=>(Kd.fresh' (Kd.R_lt (zr_ HO7)) k_ hn_))));have n4_:=am_ (Kd.R_mono (ok':=fun k_=>True) ho2 (fun k_ hk_=>trivial));have n5_:=am_ (hb);clear HO5;clear HO7;clear HB;clear HO10;have HO5:=n0_;have HO7:=n1_;have HO13:=n2_;have HO16:=n3_;have HO19:=n4_;have HB:=n5_;clear n0_ n1_ n2_ n3_ n4_ n5_;(try clear hb);(try clear hkp);(try clear ho0);(try clear ho1);(try clear ho2))))
    go_meet
    case rel=>exact ⟨_,(t11),(t14),(t17),H',⟨by have:=HJ4.out;first|omega|exact Nat.le_refl _⟩,⟨by (with_reducible repeat (first|apply Kd.R_alloc|apply Kd.R_drewN|apply Kd.R_drew));exact Kd.R_mono HO13.out (fun _ hk=>trivial)⟩,⟨by (with_reducible repeat (first|apply Kd.R_alloc|apply Kd.R_drewN|apply Kd.R_drew));exact Kd.R_mono HO16.out (fun _ hk=>trivial)⟩,am_ (zr_ HO19),⟨zl0_ HB⟩⟩
   case rest=>
    clear HC12;obtain ⟨kq,x9_11,x10_11,x11_11,HA,HJ11,HO_9,HO_10,HO_11,HB⟩:=hcut
    cases kq with
    |zero=>exact absurd HA.out (by simp [law18_PlanEmpty.j1])
    |succ kj11=>
     have H:=HA.out;clear HA;simp only [law18_PlanEmpty.j1] at H;replace H:=zbd_ H;obtain ⟨⟨t20,t21⟩,A19,H⟩:=H;try dsimp only at H
     replace H:=zbd_ H;obtain ⟨t24,A20,H⟩:=H;try dsimp only at H
     by_cases c21:t24=0;rotate_left
     ·rw [if_neg c21] at H;have c21b0:=beq_eq_false_iff_ne.mpr c21;have c21b1:=bne_iff_ne.mpr c21;replace H:=zbd_ H;obtain ⟨t25,A46,H⟩:=H;try dsimp only at H
      by_cases c47:t25=true
      ·subst c47;rw [if_pos rfl] at H;obtain rfl:=Option.some.inj H;obtain ⟨Ao48,co48,eo48⟩:=Kd.R_slice HO_11.out;subst eo48;obtain ⟨Ao49,co49,eo49⟩:=Kd.R_slice HO_9.out;subst eo49;obtain ⟨Ao50,co50,eo50⟩:=Kd.R_slice HO_10.out;subst eo50
       go_wp2_with (first|(go_at_call 48;(with_reducible refine (plan_Steps.calls _ _ x11_11 _ _ x9_11 _ _ x10_11 t20 t21 _ ?side1 ?side2 ?side3 ?side4 ?side5 ?side6 A19.out).mono ?_);(case side1=>exact zc_ (Kd.R_reads' HO_11.out).2.2);(case side2=>exact (Kd.R_reads' HO_11.out).2.1);(case side3=>exact zc_ (Kd.R_reads' HO_9.out).2.2);(case side4=>exact (Kd.R_reads' HO_9.out).2.1);(case side5=>exact zc_ (Kd.R_reads' HO_10.out).2.2);(case side6=>exact (Kd.R_reads' HO_10.out).2.1);rintro e w51 ⟨v22,rfl,ho0,hb⟩;replace HO_9:=ob_ HO_9 hb;replace HO_10:=ob_ HO_10 hb;replace HO_11:=ob_ HO_11 hb;have HO23:=am_ (Kd.R_lower ho0 (below_size (zl0_ HB)));replace HB:=am_ (below_step (zl0_ HB) hb);(try clear hb ho0))|(go_at_call 25;(with_reducible refine (law1_Num.calls t21 t24 _ A20.out).mono ?_);rintro e w' ⟨rfl,⟨nd,rfl⟩⟩;(try first|exact ⟨rfl,_,World.drewN_drewN _ _ _⟩|exact ⟨rfl,_,Eq.trans (World.drewN_drewN _ _ _) (congrArg (World.drewN _) (Nat.add_assoc _ _ _))⟩))|(go_at_call 54;(with_reducible refine (law18_Free.calls kj11 _ _ x11_11 _ _ x9_11 _ _ x10_11 true _ ?side1 ?side2 ?side3 ?side4 ?side5 ?side6 A46.out).mono ?_);(case side1=>exact zc_ (Kd.R_reads' HO_11.out).2.2);(case side2=>exact (Kd.R_reads' HO_11.out).2.1);(case side3=>exact zc_ (Kd.R_reads' HO_9.out).2.2);(case side4=>exact (Kd.R_reads' HO_9.out).2.1);(case side5=>exact zc_ (Kd.R_reads' HO_10.out).2.2);(case side6=>exact (Kd.R_reads' HO_10.out).2.1);rintro e w' ⟨rfl,⟨nd,rfl⟩⟩;(try first|exact ⟨rfl,_,World.drewN_drewN _ _ _⟩|exact ⟨rfl,_,Eq.trans (World.drewN_drewN _ _ _) (congrArg (World.drewN _) (Nat.add_assoc _ _ _))⟩)))
       repeat (go_quiet (first|(go_at_call 48;(with_reducible refine (plan_Steps.calls _ _ x11_11 _ _ x9_11 _ _ x10_11 t20 t21 _ ?side1 ?side2 ?side3 ?side4 ?side5 ?side6 A19.out).mono ?_);(case side1=>exact zc_ (Kd.R_reads' HO_11.out).2.2);(case side2=>exact (Kd.R_reads' HO_11.out).2.1);(case side3=>exact zc_ (Kd.R_reads' HO_9.out).2.2);(case side4=>exact (Kd.R_reads' HO_9.out).2.1);(case side5=>exact zc_ (Kd.R_reads' HO_10.out).2.2);(case side6=>exact (Kd.R_reads' HO_10.out).2.1);rintro e w51 ⟨v22,rfl,ho0,hb⟩;replace HO_9:=ob_ HO_9 hb;replace HO_10:=ob_ HO_10 hb;replace HO_11:=ob_ HO_11 hb;have HO23:=am_ (Kd.R_lower ho0 (below_size (zl0_ HB)));replace HB:=am_ (below_step (zl0_ HB) hb);(try clear hb ho0))|(go_at_call 25;(with_reducible refine (law1_Num.calls t21 t24 _ A20.out).mono ?_);rintro e w' ⟨rfl,⟨nd,rfl⟩⟩;(try first|exact ⟨rfl,_,World.drewN_drewN _ _ _⟩|exact ⟨rfl,_,Eq.trans (World.drewN_drewN _ _ _) (congrArg (World.drewN _) (Nat.add_assoc _ _ _))⟩))|(go_at_call 54;(with_reducible refine (law18_Free.calls kj11 _ _ x11_11 _ _ x9_11 _ _ x10_11 true _ ?side1 ?side2 ?side3 ?side4 ?side5 ?side6 A46.out).mono ?_);(case side1=>exact zc_ (Kd.R_reads' HO_11.out).2.2);(case side2=>exact (Kd.R_reads' HO_11.out).2.1);(case side3=>exact zc_ (Kd.R_reads' HO_9.out).2.2);(case side4=>exact (Kd.R_reads' HO_9.out).2.1);(case side5=>exact zc_ (Kd.R_reads' HO_10.out).2.2);(case side6=>exact (Kd.R_reads' HO_10.out).2.1);rintro e w' ⟨rfl,⟨nd,rfl⟩⟩;(try first|exact ⟨rfl,_,World.drewN_drewN _ _ _⟩|exact ⟨rfl,_,Eq.trans (World.drewN_drewN _ _ _) (congrArg (World.drewN _) (Nat.add_assoc _ _ _))⟩)));try go_wp2_with (first|(go_at_call 48;(with_reducible refine (plan_Steps.calls _ _ x11_11 _ _ x9_11 _ _ x10_11 t20 t21 _ ?side1 ?side2 ?side3 ?side4 ?side5 ?side6 A19.out).mono ?_);(case side1=>exact zc_ (Kd.R_reads' HO_11.out).2.2);(case side2=>exact (Kd.R_reads' HO_11.out).2.1);(case side3=>exact zc_ (Kd.R_reads' HO_9.out).2.2);(case side4=>exact (Kd.R_reads' HO_9.out).2.1);(case side5=>exact zc_ (Kd.R_reads' HO_10.out).2.2);(case side6=>exact (Kd.R_reads' HO_10.out).2.1);rintro e w51 ⟨v22,rfl,ho0,hb⟩;replace HO_9:=ob_ HO_9 hb;replace HO_10:=ob_ HO_10 hb;replace HO_11:=ob_ HO_11 hb;have HO23:=am_ (Kd.R_lower ho0 (below_size (zl0_ HB)));replace HB:=am_ (below_step (zl0_ HB) hb);(try clear hb ho0))|(go_at_call 25;(with_reducible refine (law1_Num.calls t21 t24 _ A20.out).mono ?_);rintro e w' ⟨rfl,⟨nd,rfl⟩⟩;(try first|exact ⟨rfl,_,World.drewN_drewN _ _ _⟩|exact ⟨rfl,_,Eq.trans (World.drewN_drewN _ _ _) (congrArg (World.drewN _) (Nat.add_assoc _ _ _))⟩))|(go_at_call 54;(with_reducible refine (law18_Free.calls kj11 _ _ x11_11 _ _ x9_11 _ _ x10_11 true _ ?side1 ?side2 ?side3 ?side4 ?side5 ?side6 A46.out).mono ?_);(case side1=>exact zc_ (Kd.R_reads' HO_11.out).2.2);(case side2=>exact (Kd.R_reads' HO_11.out).2.1);(case side3=>exact zc_ (Kd.R_reads' HO_9.out).2.2);(case side4=>exact (Kd.R_reads' HO_9.out).2.1);(case side5=>exact zc_ (Kd.R_reads' HO_10.out).2.2);(case side6=>exact (Kd.R_reads' HO_10.out).2.1);rintro e w' ⟨rfl,⟨nd,rfl⟩⟩;(try first|exact ⟨rfl,_,World.drewN_drewN _ _ _⟩|exact ⟨rfl,_,Eq.trans (World.drewN_drewN _ _ _) (congrArg (World.drewN _) (Nat.add_assoc _ _ _))⟩))))
       go_ret
       exact ⟨by first|rfl|(simp [errW_none,errW_some]<;>rfl)|(simp [*,errW_none,errW_some]<;>rfl),zl0_ HB⟩
      replace c47:=Bool.eq_false_iff.mpr c47;subst c47;rw [if_neg (show¬(false=true) by decide)] at H;replace H:=zbd_ H;obtain ⟨t26,A52,H⟩:=H;try dsimp only at H
      obtain rfl:t24=t26:=Option.some.inj (A20.out.symm.trans A52.out);by_cases c53:t24=3;rotate_left
      ·rw [if_neg c53] at H;have c53b0:=beq_eq_false_iff_ne.mpr c53;have c53b1:=bne_iff_ne.mpr c53;obtain rfl:=Option.some.inj H;obtain ⟨Ao60,co60,eo60⟩:=Kd.R_slice HO_11.out;subst eo60;obtain ⟨Ao61,co61,eo61⟩:=Kd.R_slice HO_9.out;subst eo61;obtain ⟨Ao62,co62,eo62⟩:=Kd.R_slice HO_10.out;subst eo62
       go_wp2_with (first|(go_at_call 48;(with_reducible refine (plan_Steps.calls _ _ x11_11 _ _ x9_11 _ _ x10_11 t20 t21 _ ?side1 ?side2 ?side3 ?side4 ?side5 ?side6 A19.out).mono ?_);(case side1=>exact zc_ (Kd.R_reads' HO_11.out).2.2);(case side2=>exact (Kd.R_reads' HO_11.out).2.1);(case side3=>exact zc_ (Kd.R_reads' HO_9.out).2.2);(case side4=>exact (Kd.R_reads' HO_9.out).2.1);(case side5=>exact zc_ (Kd.R_reads' HO_10.out).2.2);(case side6=>exact (Kd.R_reads' HO_10.out).2.1);rintro e w63 ⟨v22,rfl,ho0,hb⟩;replace HO_9:=ob_ HO_9 hb;replace HO_10:=ob_ HO_10 hb;replace HO_11:=ob_ HO_11 hb;have HO23:=am_ (Kd.R_lower ho0 (below_size (zl0_ HB)));replace HB:=am_ (below_step (zl0_ HB) hb);(try clear hb ho0))|(go_at_call 25;(with_reducible refine (law1_Num.calls t21 t24 _ A20.out).mono ?_);rintro e w' ⟨rfl,⟨nd,rfl⟩⟩;(try first|exact ⟨rfl,_,World.drewN_drewN _ _ _⟩|exact ⟨rfl,_,Eq.trans (World.drewN_drewN _ _ _) (congrArg (World.drewN _) (Nat.add_assoc _ _ _))⟩))|(go_at_call 54;(with_reducible refine (law18_Free.calls kj11 _ _ x11_11 _ _ x9_11 _ _ x10_11 false _ ?side1 ?side2 ?side3 ?side4 ?side5 ?side6 A46.out).mono ?_);(case side1=>exact zc_ (Kd.R_reads' HO_11.out).2.2);(case side2=>exact (Kd.R_reads' HO_11.out).2.1);(case side3=>exact zc_ (Kd.R_reads' HO_9.out).2.2);(case side4=>exact (Kd.R_reads' HO_9.out).2.1);(case side5=>exact zc_ (Kd.R_reads' HO_10.out).2.2);(case side6=>exact (Kd.R_reads' HO_10.out).2.1);rintro e w' ⟨rfl,⟨nd,rfl⟩⟩;(try first|exact ⟨rfl,_,World.drewN_drewN _ _ _⟩|exact ⟨rfl,_,Eq.trans (World.drewN_drewN _ _ _) (congrArg (World.drewN _) (Nat.add_assoc _ _ _))⟩))|(go_at_call 25;(with_reducible refine (law1_Num.calls t21 t24 _ A52.out).mono ?_);rintro e w' ⟨rfl,⟨nd,rfl⟩⟩;(try first|exact ⟨rfl,_,World.drewN_drewN _ _ _⟩|exact ⟨rfl,_,Eq.trans (World.drewN_drewN _ _ _) (congrArg (World.drewN _) (Nat.add_assoc _ _ _))⟩)))
       repeat (go_quiet (first|(go_at_call 48;(with_reducible refine (plan_Steps.calls _ _ x11_11 _ _ x9_11 _ _ x10_11 t20 t21 _ ?side1 ?side2 ?side3 ?side4 ?side5 ?side6 A19.out).mono ?_);(case side1=>exact zc_ (Kd.R_reads' HO_11.out).2.2);(case side2=>exact (Kd.R_reads' HO_11.out).2.1);(case side3=>exact zc_ (Kd.R_reads' HO_9.out).2.2);(case side4=>exact (Kd.R_reads' HO_9.out).2.1);(case side5=>exact zc_ (Kd.R_reads' HO_10.out).2.2);(case side6=>exact (Kd.R_reads' HO_10.out).2.1);rintro e w63 ⟨v22,rfl,ho0,hb⟩;replace HO_9:=ob_ HO_9 hb;replace HO_10:=ob_ HO_10 hb;replace HO_11:=ob_ HO_11 hb;have HO23:=am_ (Kd.R_lower ho0 (below_size (zl0_ HB)));replace HB:=am_ (below_step (zl0_ HB) hb);(try clear hb ho0))|(go_at_call 25;(with_reducible refine (law1_Num.calls t21 t24 _ A20.out).mono ?_);rintro e w' ⟨rfl,⟨nd,rfl⟩⟩;(try first|exact ⟨rfl,_,World.drewN_drewN _ _ _⟩|exact ⟨rfl,_,Eq.trans (World.drewN_drewN _ _ _) (congrArg (World.drewN _) (Nat.add_assoc _ _ _))⟩))|(go_at_call 54;(with_reducible refine (law18_Free.calls kj11 _ _ x11_11 _ _ x9_11 _ _ x10_11 false _ ?side1 ?side2 ?side3 ?side4 ?side5 ?side6 A46.out).mono ?_);(case side1=>exact zc_ (Kd.R_reads' HO_11.out).2.2);(case side2=>exact (Kd.R_reads' HO_11.out).2.1);(case side3=>exact zc_ (Kd.R_reads' HO_9.out).2.2);(case side4=>exact (Kd.R_reads' HO_9.out).2.1);(case side5=>exact zc_ (Kd.R_reads' HO_10.out).2.2);(case side6=>exact (Kd.R_reads' HO_10.out).2.1);rintro e w' ⟨rfl,⟨nd,rfl⟩⟩;(try first|exact ⟨rfl,_,World.drewN_drewN _ _ _⟩|exact ⟨rfl,_,Eq.trans (World.drewN_drewN _ _ _) (congrArg (World.drewN _) (Nat.add_assoc _ _ _))⟩))|(go_at_call 25;(with_reducible refine (law1_Num.calls t21 t24 _ A52.out).mono ?_);rintro e w' ⟨rfl,⟨nd,rfl⟩⟩;(try first|exact ⟨rfl,_,World.drewN_drewN _ _ _⟩|exact ⟨rfl,_,Eq.trans (World.drewN_drewN _ _ _) (congrArg (World.drewN _) (Nat.add_assoc _ _ _))⟩)));try go_wp2_with (first|(go_at_call 48;(with_reducible refine (plan_Steps.calls _ _ x11_11 _ _ x9_11 _ _ x10_11 t20 t21 _ ?side1 ?side2 ?side3 ?side4 ?side5 ?side6 A19.out).mono ?_);(case side1=>exact zc_ (Kd.R_reads' HO_11.out).2.2);(case side2=>exact (Kd.R_reads' HO_11.out).2.1);(case side3=>exact zc_ (Kd.R_reads' HO_9.out).2.2);(case side4=>exact (Kd.R_reads' HO_9.out).2.1);(case side5=>exact zc_ (Kd.R_reads' HO_10.out).2.2);(case side6=>exact (Kd.R_reads' HO_10.out).2.1);rintro e w63 ⟨v22,rfl,ho0,hb⟩;replace HO_9:=ob_ HO_9 hb;replace HO_10:=ob_ HO_10 hb;replace HO_11:=ob_ HO_11 hb;have HO23:=am_ (Kd.R_lower ho0 (below_size (zl0_ HB)));replace HB:=am_ (below_step (zl0_ HB) hb);(try clear hb ho0))|(go_at_call 25;(with_reducible refine (law1_Num.calls t21 t24 _ A20.out).mono ?_);rintro e w' ⟨rfl,⟨nd,rfl⟩⟩;(try first|exact ⟨rfl,_,World.drewN_drewN _ _ _⟩|exact ⟨rfl,_,Eq.trans (World.drewN_drewN _ _ _) (congrArg (World.drewN _) (Nat.add_assoc _ _ _))⟩))|(go_at_call 54;(with_reducible refine (law18_Free.calls kj11 _ _ x11_11 _ _ x9_11 _ _ x10_11 false _ ?side1 ?side2 ?side3 ?side4 ?side5 ?side6 A46.out).mono ?_);(case side1=>exact zc_ (Kd.R_reads' HO_11.out).2.2);(case side2=>exact (Kd.R_reads' HO_11.out).2.1);(case side3=>exact zc_ (Kd.R_reads' HO_9.out).2.2);(case side4=>exact (Kd.R_reads' HO_9.out).2.1);(case side5=>exact zc_ (Kd.R_reads' HO_10.out).2.2);(case side6=>exact (Kd.R_reads' HO_10.out).2.1);rintro e w' ⟨rfl,⟨nd,rfl⟩⟩;(try first|exact ⟨rfl,_,World.drewN_drewN _ _ _⟩|exact ⟨rfl,_,Eq.trans (World.drewN_drewN _ _ _) (congrArg (World.drewN _) (Nat.add_assoc _ _ _))⟩))|(go_at_call 25;(with_reducible refine (law1_Num.calls t21 t24 _ A52.out).mono ?_);rintro e w' ⟨rfl,⟨nd,rfl⟩⟩;(try first|exact ⟨rfl,_,World.drewN_drewN _ _ _⟩|exact ⟨rfl,_,Eq.trans (World.drewN_drewN _ _ _) (congrArg (World.drewN _) (Nat.add_assoc _ _ _))⟩))))
       go_ret
       exact ⟨by first|rfl|(simp [errW_none,errW_some]<;>rfl)|(simp [*,errW_none,errW_some]<;>rfl),zl0_ HB⟩

      rw [if_pos c53] at H;have c53b0:=beq_iff_eq.mpr c53;have c53b1:=bne_eq_false_iff_eq.mpr c53;clear c53;replace H:=zbd_ H;obtain ⟨t27,A54,H⟩:=H;try dsimp only at H
      obtain rfl:=Option.some.inj H;obtain ⟨Ao55,co55,eo55⟩:=Kd.R_slice HO_11.out;subst eo55;obtain ⟨Ao56,co56,eo56⟩:=Kd.R_slice HO_9.out;subst eo56;obtain ⟨Ao57,co57,eo57⟩:=Kd.R_slice HO_10.out;subst eo57
      go_wp2_with (first|(go_at_call 48;(with_reducible refine (plan_Steps.calls _ _ x11_11 _ _ x9_11 _ _ x10_11 t20 t21 _ ?side1 ?side2 ?side3 ?side4 ?side5 ?side6 A19.out).mono ?_);(case side1=>exact zc_ (Kd.R_reads' HO_11.out).2.2);(case side2=>exact (Kd.R_reads' HO_11.out).2.1);(case side3=>exact zc_ (Kd.R_reads' HO_9.out).2.2);(case side4=>exact (Kd.R_reads' HO_9.out).2.1);(case side5=>exact zc_ (Kd.R_reads' HO_10.out).2.2);(case side6=>exact (Kd.R_reads' HO_10.out).2.1);rintro e w58 ⟨v22,rfl,ho0,hb⟩;replace HO_9:=ob_ HO_9 hb;replace HO_10:=ob_ HO_10 hb;replace HO_11:=ob_ HO_11 hb;have HO23:=am_ (Kd.R_lower ho0 (below_size (zl0_ HB)));replace HB:=am_ (below_step (zl0_ HB) hb);(try clear hb ho0))|(go_at_call 25;(with_reducible refine (law1_Num.calls t21 t24 _ A20.out).mono ?_);rintro e w' ⟨rfl,⟨nd,rfl⟩⟩;(try first|exact ⟨rfl,_,World.drewN_drewN _ _ _⟩|exact ⟨rfl,_,Eq.trans (World.drewN_drewN _ _ _) (congrArg (World.drewN _) (Nat.add_assoc _ _ _))⟩))|(go_at_call 54;(with_reducible refine (law18_Free.calls kj11 _ _ x11_11 _ _ x9_11 _ _ x10_11 false _ ?side1 ?side2 ?side3 ?side4 ?side5 ?side6 A46.out).mono ?_);(case side1=>exact zc_ (Kd.R_reads' HO_11.out).2.2);(case side2=>exact (Kd.R_reads' HO_11.out).2.1);(case side3=>exact zc_ (Kd.R_reads' HO_9.out).2.2);(case side4=>exact (Kd.R_reads' HO_9.out).2.1);(case side5=>exact zc_ (Kd.R_reads' HO_10.out).2.2);(case side6=>exact (Kd.R_reads' HO_10.out).2.1);rintro e w' ⟨rfl,⟨nd,rfl⟩⟩;(try first|exact ⟨rfl,_,World.drewN_drewN _ _ _⟩|exact ⟨rfl,_,Eq.trans (World.drewN_drewN _ _ _) (congrArg (World.drewN _) (Nat.add_assoc _ _ _))⟩))|(go_at_call 25;(with_reducible refine (law1_Num.calls t21 t24 _ A52.out).mono ?_);rintro e w' ⟨rfl,⟨nd,rfl⟩⟩;(try first|exact ⟨rfl,_,World.drewN_drewN _ _ _⟩|exact ⟨rfl,_,Eq.trans (World.drewN_drewN _ _ _) (congrArg (World.drewN _) (Nat.add_assoc _ _ _))⟩))|(go_at_call 47;(with_reducible refine (law18_awake.calls t27 _ A54.out).mono ?_);rintro e w59 ⟨rfl,hb⟩;replace HO_9:=ob_ HO_9 hb;replace HO_10:=ob_ HO_10 hb;replace HO_11:=ob_ HO_11 hb;replace HO23:=ob_ HO23 hb;replace HB:=am_ (below_step (zl0_ HB) hb);(try clear hb)))
      repeat (go_quiet (first|(go_at_call 48;(with_reducible refine (plan_Steps.calls _ _ x11_11 _ _ x9_11 _ _ x10_11 t20 t21 _ ?side1 ?side2 ?side3 ?side4 ?side5 ?side6 A19.out).mono ?_);(case side1=>exact zc_ (Kd.R_reads' HO_11.out).2.2);(case side2=>exact (Kd.R_reads' HO_11.out).2.1);(case side3=>exact zc_ (Kd.R_reads' HO_9.out).2.2);(case side4=>exact (Kd.R_reads' HO_9.out).2.1);(case side5=>exact zc_ (Kd.R_reads' HO_10.out).2.2);(case side6=>exact (Kd.R_reads' HO_10.out).2.1);rintro e w58 ⟨v22,rfl,ho0,hb⟩;replace HO_9:=ob_ HO_9 hb;replace HO_10:=ob_ HO_10 hb;replace HO_11:=ob_ HO_11 hb;have HO23:=am_ (Kd.R_lower ho0 (below_size (zl0_ HB)));replace HB:=am_ (below_step (zl0_ HB) hb);(try clear hb ho0))|(go_at_call 25;(with_reducible refine (law1_Num.calls t21 t24 _ A20.out).mono ?_);rintro e w' ⟨rfl,⟨nd,rfl⟩⟩;(try first|exact ⟨rfl,_,World.drewN_drewN _ _ _⟩|exact ⟨rfl,_,Eq.trans (World.drewN_drewN _ _ _) (congrArg (World.drewN _) (Nat.add_assoc _ _ _))⟩))|(go_at_call 54;(with_reducible refine (law18_Free.calls kj11 _ _ x11_11 _ _ x9_11 _ _ x10_11 false _ ?side1 ?side2 ?side3 ?side4 ?side5 ?side6 A46.out).mono ?_);(case side1=>exact zc_ (Kd.R_reads' HO_11.out).2.2);(case side2=>exact (Kd.R_reads' HO_11.out).2.1);(case side3=>exact zc_ (Kd.R_reads' HO_9.out).2.2);(case side4=>exact (Kd.R_reads' HO_9.out).2.1);(case side5=>exact zc_ (Kd.R_reads' HO_10.out).2.2);(case side6=>exact (Kd.R_reads' HO_10.out).2.1);rintro e w' ⟨rfl,⟨nd,rfl⟩⟩;(try first|exact ⟨rfl,_,World.drewN_drewN _ _ _⟩|exact ⟨rfl,_,Eq.trans (World.drewN_drewN _ _ _) (congrArg (World.drewN _) (Nat.add_assoc _ _ _))⟩))|(go_at_call 25;(with_reducible refine (law1_Num.calls t21 t24 _ A52.out).mono ?_);rintro e w' ⟨rfl,⟨nd,rfl⟩⟩;(try first|exact ⟨rfl,_,World.drewN_drewN _ _ _⟩|exact ⟨rfl,_,Eq.trans (World.drewN_drewN _ _ _) (congrArg (World.drewN _) (Nat.add_assoc _ _ _))⟩))|(go_at_call 47;(with_reducible refine (law18_awake.calls t27 _ A54.out).mono ?_);rintro e w59 ⟨rfl,hb⟩;replace HO_9:=ob_ HO_9 hb;replace HO_10:=ob_ HO_10 hb;replace HO_11:=ob_ HO_11 hb;replace HO23:=ob_ HO23 hb;replace HB:=am_ (below_step (zl0_ HB) hb);(try clear hb)));try go_wp2_with (first|(go_at_call 48;(with_reducible refine (plan_Steps.calls _ _ x11_11 _ _ x9_11 _ _ x10_11 t20 t21 _ ?side1 ?side2 ?side3 ?side4 ?side5 ?side6 A19.out).mono ?_);(case side1=>exact zc_ (Kd.R_reads' HO_11.out).2.2);(case side2=>exact (Kd.R_reads' HO_11.out).2.1);(case side3=>exact zc_ (Kd.R_reads' HO_9.out).2.2);(case side4=>exact (Kd.R_reads' HO_9.out).2.1);(case side5=>exact zc_ (Kd.R_reads' HO_10.out).2.2);(case side6=>exact (Kd.R_reads' HO_10.out).2.1);rintro e w58 ⟨v22,rfl,ho0,hb⟩;replace HO_9:=ob_ HO_9 hb;replace HO_10:=ob_ HO_10 hb;replace HO_11:=ob_ HO_11 hb;have HO23:=am_ (Kd.R_lower ho0 (below_size (zl0_ HB)));replace HB:=am_ (below_step (zl0_ HB) hb);(try clear hb ho0))|(go_at_call 25;(with_reducible refine (law1_Num.calls t21 t24 _ A20.out).mono ?_);rintro e w' ⟨rfl,⟨nd,rfl⟩⟩;(try first|exact ⟨rfl,_,World.drewN_drewN _ _ _⟩|exact ⟨rfl,_,Eq.trans (World.drewN_drewN _ _ _) (congrArg (World.drewN _) (Nat.add_assoc _ _ _))⟩))|(go_at_call 54;(with_reducible refine (law18_Free.calls kj11 _ _ x11_11 _ _ x9_11 _ _ x10_11 false _ ?side1 ?side2 ?side3 ?side4 ?side5 ?side6 A46.out).mono ?_);(case side1=>exact zc_ (Kd.R_reads' HO_11.out).2.2);(case side2=>exact (Kd.R_reads' HO_11.out).2.1);(case side3=>exact zc_ (Kd.R_reads' HO_9.out).2.2);(case side4=>exact (Kd.R_reads' HO_9.out).2.1);(case side5=>exact zc_ (Kd.R_reads' HO_10.out).2.2);(case side6=>exact (Kd.R_reads' HO_10.out).2.1);rintro e w' ⟨rfl,⟨nd,rfl⟩⟩;(try first|exact ⟨rfl,_,World.drewN_drewN _ _ _⟩|exact ⟨rfl,_,Eq.trans (World.drewN_drewN _ _ _) (congrArg (World.drewN _) (Nat.add_assoc _ _ _))⟩))|(go_at_call 25;(with_reducible refine (law1_Num.calls t21 t24 _ A52.out).mono ?_);rintro e w' ⟨rfl,⟨nd,rfl⟩⟩;(try first|exact ⟨rfl,_,World.drewN_drewN _ _ _⟩|exact ⟨rfl,_,Eq.trans (World.drewN_drewN _ _ _) (congrArg (World.drewN _) (Nat.add_assoc _ _ _))⟩))|(go_at_call 47;(with_reducible refine (law18_awake.calls t27 _ A54.out).mono ?_);rintro e w59 ⟨rfl,hb⟩;replace HO_9:=ob_ HO_9 hb;replace HO_10:=ob_ HO_10 hb;replace HO_11:=ob_ HO_11 hb;replace HO23:=ob_ HO23 hb;replace HB:=am_ (below_step (zl0_ HB) hb);(try clear hb))))
      go_ret
      exact ⟨by first|rfl|(simp [errW_none,errW_some]<;>rfl)|(simp [*,errW_none,errW_some]<;>rfl),zl0_ HB⟩
     rw [if_pos c21] at H;have c21b0:=beq_iff_eq.mpr c21;have c21b1:=bne_eq_false_iff_eq.mpr c21;clear c21;have H':=Aside0.mk H;clear H;obtain ⟨Ao22,co22,eo22⟩:=Kd.R_slice HO_11.out;subst eo22;obtain ⟨Ao23,co23,eo23⟩:=Kd.R_slice HO_9.out;subst eo23;obtain ⟨Ao24,co24,eo24⟩:=Kd.R_slice HO_10.out;subst eo24;go_wp2_with (first|(go_at_call 48;(with_reducible refine (plan_Steps.calls _ _ x11_11 _ _ x9_11 _ _ x10_11 t20 t21 _ ?side1 ?side2 ?side3 ?side4 ?side5 ?side6 A19.out).mono ?_);(case side1=>exact zc_ (Kd.R_reads' HO_11.out).2.2);(case side2=>exact (Kd.R_reads' HO_11.out).2.1);(case side3=>exact zc_ (Kd.R_reads' HO_9.out).2.2);(case side4=>exact (Kd.R_reads' HO_9.out).2.1);(case side5=>exact zc_ (Kd.R_reads' HO_10.out).2.2);(case side6=>exact (Kd.R_reads' HO_10.out).2.1);rintro e w25 ⟨v22,rfl,ho0,hb⟩;replace HO_9:=ob_ HO_9 hb;replace HO_10:=ob_ HO_10 hb;replace HO_11:=ob_ HO_11 hb;have HO23:=am_ (Kd.R_lower ho0 (below_size (zl0_ HB)));replace HB:=am_ (below_step (zl0_ HB) hb);(try clear hb ho0))|(go_at_call 25;(with_reducible refine (law1_Num.calls t21 t24 _ A20.out).mono ?_);rintro e w' ⟨rfl,⟨nd,rfl⟩⟩;(try first|exact ⟨rfl,_,World.drewN_drewN _ _ _⟩|exact ⟨rfl,_,Eq.trans (World.drewN_drewN _ _ _) (congrArg (World.drewN _) (Nat.add_assoc _ _ _))⟩)))
     repeat (go_quiet (first|(go_at_call 48;(with_reducible refine (plan_Steps.calls _ _ x11_11 _ _ x9_11 _ _ x10_11 t20 t21 _ ?side1 ?side2 ?side3 ?side4 ?side5 ?side6 A19.out).mono ?_);(case side1=>exact zc_ (Kd.R_reads' HO_11.out).2.2);(case side2=>exact (Kd.R_reads' HO_11.out).2.1);(case side3=>exact zc_ (Kd.R_reads' HO_9.out).2.2);(case side4=>exact (Kd.R_reads' HO_9.out).2.1);(case side5=>exact zc_ (Kd.R_reads' HO_10.out).2.2);(case side6=>exact (Kd.R_reads' HO_10.out).2.1);rintro e w25 ⟨v22,rfl,ho0,hb⟩;replace HO_9:=ob_ HO_9 hb;replace HO_10:=ob_ HO_10 hb;replace HO_11:=ob_ HO_11 hb;have HO23:=am_ (Kd.R_lower ho0 (below_size (zl0_ HB)));replace HB:=am_ (below_step (zl0_ HB) hb);(try clear hb ho0))|(go_at_call 25;(with_reducible refine (law1_Num.calls t21 t24 _ A20.out).mono ?_);rintro e w' ⟨rfl,⟨nd,rfl⟩⟩;(try first|exact ⟨rfl,_,World.drewN_drewN _ _ _⟩|exact ⟨rfl,_,Eq.trans (World.drewN_drewN _ _ _) (congrArg (World.drewN _) (Nat.add_assoc _ _ _))⟩)));try go_wp2_with (first|(go_at_call 48;(with_reducible refine (plan_Steps.calls _ _ x11_11 _ _ x9_11 _ _ x10_11 t20 t21 _ ?side1 ?side2 ?side3 ?side4 ?side5 ?side6 A19.out).mono ?_);(case side1=>exact zc_ (Kd.R_reads' HO_11.out).2.2);(case side2=>exact (Kd.R_reads' HO_11.out).2.1);(case side3=>exact zc_ (Kd.R_reads' HO_9.out).2.2);(case side4=>exact (Kd.R_reads' HO_9.out).2.1);(case side5=>exact zc_ (Kd.R_reads' HO_10.out).2.2);(case side6=>exact (Kd.R_reads' HO_10.out).2.1);rintro e w25 ⟨v22,rfl,ho0,hb⟩;replace HO_9:=ob_ HO_9 hb;replace HO_10:=ob_ HO_10 hb;replace HO_11:=ob_ HO_11 hb;have HO23:=am_ (Kd.R_lower ho0 (below_size (zl0_ HB)));replace HB:=am_ (below_step (zl0_ HB) hb);(try clear hb ho0))|(go_at_call 25;(with_reducible refine (law1_Num.calls t21 t24 _ A20.out).mono ?_);rintro e w' ⟨rfl,⟨nd,rfl⟩⟩;(try first|exact ⟨rfl,_,World.drewN_drewN _ _ _⟩|exact ⟨rfl,_,Eq.trans (World.drewN_drewN _ _ _) (congrArg (World.drewN _) (Nat.add_assoc _ _ _))⟩))))
     go_loopg [14,15] kj11 (fun kq v14 v15 w'=> ∃(x14_3:Bool) (x15_3:Int),v14= .bool x14_3∧v15= .int .i64 x15_3∧Aside0 (law18_PlanEmpty.l0 kq x9_11 x10_11 x11_11 t20 x14_3 x15_3=some r)∧Aside0 (kq≤kj11)∧Aside0 (Kd.R k84 84 w' w.heap.size (fun _=>True) (.slice Ao23 x9_11.length co23) x9_11)∧Aside0 (Kd.R k79 79 w' w.heap.size (fun _=>True) (.slice Ao24 x10_11.length co24) x10_11)∧Aside0 (Kd.R k39 39 w' w.heap.size (fun _=>True) (.slice Ao22 x11_11.length co22) x11_11)∧Aside0 (Kd.R k76 76 w' w.heap.size (fun _=>True) v22 t20)∧Aside0 (Below w.heap.size w w'))
     case atStart=>exact ⟨(((x9_11.length:Int)==(x11_11.length:Int))),(0),rf_,rf_,H',⟨Nat.le_refl _⟩,am_ (zr_ HO_9),am_ (zr_ HO_10),am_ (zr_ HO_11),am_ (zr_ HO23),⟨zl0_ HB⟩⟩
     case round=>
      clear H';obtain ⟨x14_3,x15_3,rfl,rfl,HA,HK3,HO_9,HO_10,HO_11,HO_12,HB⟩:=hrel
      cases gk with
      |zero=>exact absurd HA.out (by simp [law18_PlanEmpty.l0])
      |succ k3=>
       have H:=HA.out;clear HA;simp only [law18_PlanEmpty.l0] at H;by_cases c26:x15_3<(x11_11.length:Int);rotate_left
       ·rw [if_neg c26] at H;have c26b0:=decide_eq_false c26;clear c26;by_cases c41:(((t20.length:Int)==0)==x14_3)=true;rotate_left
        ·rw [if_neg c41] at H;have c41b0:(((t20.length:Int)==0)==x14_3)=false:=by simpa using c41
         (try (have c41b1:decide (((t20.length:Int)==0)=x14_3)=false:=by simpa using c41));(try (have c41b2:(((t20.length:Int)==0)==x14_3)=false:=by simpa using c41));(try (have c41b3: ¬(((t20.length:Int)==0)=x14_3):=by simpa using c41));clear c41;obtain rfl:=Option.some.inj H;obtain ⟨Ao45,co45,eo45⟩:=Kd.R_slice HO_12.out;subst eo45;go_wp2
         repeat (go_quiet (fail);try go_wp2)
         go_ret
         exact ⟨by first|rfl|(simp [errW_none,errW_some]<;>rfl)|(simp [*,errW_none,errW_some]<;>rfl),zl0_ HB⟩
        rw [if_pos c41] at H;have c41b0:(((t20.length:Int)==0)==x14_3)=true:=c41;(try (have c41b1:decide (((t20.length:Int)==0)=x14_3)=true:=by simpa using c41));(try (have c41b2:(((t20.length:Int)==0)==x14_3)=true:=by simpa using c41));clear c41;replace H:=zbd_ H;obtain ⟨t28,A42,H⟩:=H;try dsimp only at H
        obtain rfl:=Option.some.inj H;obtain ⟨Ao43,co43,eo43⟩:=Kd.R_slice HO_12.out;subst eo43;go_wp2_with (first|(go_at_call 47;(with_reducible refine (law18_awake.calls t28 _ A42.out).mono ?_);rintro e w44 ⟨rfl,hb⟩;replace HO_9:=ob_ HO_9 hb;replace HO_10:=ob_ HO_10 hb;replace HO_11:=ob_ HO_11 hb;replace HO_12:=ob_ HO_12 hb;replace HB:=am_ (below_step (zl0_ HB) hb);(try clear hb)))
        repeat (go_quiet (first|(go_at_call 47;(with_reducible refine (law18_awake.calls t28 _ A42.out).mono ?_);rintro e w44 ⟨rfl,hb⟩;replace HO_9:=ob_ HO_9 hb;replace HO_10:=ob_ HO_10 hb;replace HO_11:=ob_ HO_11 hb;replace HO_12:=ob_ HO_12 hb;replace HB:=am_ (below_step (zl0_ HB) hb);(try clear hb)));try go_wp2_with (first|(go_at_call 47;(with_reducible refine (law18_awake.calls t28 _ A42.out).mono ?_);rintro e w44 ⟨rfl,hb⟩;replace HO_9:=ob_ HO_9 hb;replace HO_10:=ob_ HO_10 hb;replace HO_11:=ob_ HO_11 hb;replace HO_12:=ob_ HO_12 hb;replace HB:=am_ (below_step (zl0_ HB) hb);(try clear hb))))
        go_ret
        exact ⟨by first|rfl|(simp [errW_none,errW_some]<;>rfl)|(simp [*,errW_none,errW_some]<;>rfl),zl0_ HB⟩
       rw [if_pos c26] at H;have c26b0:=decide_eq_true c26;clear c26;replace H:=zif_ H;obtain ⟨c27,H⟩:=H;have c27b0:=decide_eq_true c27;clear c27;replace H:=zbd_ H;obtain ⟨t30,A28,H⟩:=H;try dsimp only at H
       have HC29:=Aside0.mk H;clear H;obtain ⟨p29,q29,ad29,e29,hx29_0,hx29_1,hx29_2,hx29_3,hx29_4⟩:=zat_ (at_T39 (Kd.R_reads' HO_11.out).2.2 x15_3);cases e29;go_upto_region 15 with (first|(go_at_call 52;(with_reducible refine (r10_Find.calls k3 _ _ x10_11 ((rd_T39 x11_11 x15_3).f0) t30 _ ?side1 ?side2 A28.out).mono ?_);(case side1=>exact zc_ (Kd.R_reads' HO_10.out).2.2);(case side2=>exact (Kd.R_reads' HO_10.out).2.1);rintro e w' ⟨rfl,⟨nd,rfl⟩⟩;(try first|exact ⟨rfl,_,World.drewN_drewN _ _ _⟩|exact ⟨rfl,_,Eq.trans (World.drewN_drewN _ _ _) (congrArg (World.drewN _) (Nat.add_assoc _ _ _))⟩)))
       repeat (go_quiet (first|(go_at_call 52;(with_reducible refine (r10_Find.calls k3 _ _ x10_11 ((rd_T39 x11_11 x15_3).f0) t30 _ ?side1 ?side2 A28.out).mono ?_);(case side1=>exact zc_ (Kd.R_reads' HO_10.out).2.2);(case side2=>exact (Kd.R_reads' HO_10.out).2.1);rintro e w' ⟨rfl,⟨nd,rfl⟩⟩;(try first|exact ⟨rfl,_,World.drewN_drewN _ _ _⟩|exact ⟨rfl,_,Eq.trans (World.drewN_drewN _ _ _) (congrArg (World.drewN _) (Nat.add_assoc _ _ _))⟩)));go_upto_region 15 with (first|(go_at_call 52;(with_reducible refine (r10_Find.calls k3 _ _ x10_11 ((rd_T39 x11_11 x15_3).f0) t30 _ ?side1 ?side2 A28.out).mono ?_);(case side1=>exact zc_ (Kd.R_reads' HO_10.out).2.2);(case side2=>exact (Kd.R_reads' HO_10.out).2.1);rintro e w' ⟨rfl,⟨nd,rfl⟩⟩;(try first|exact ⟨rfl,_,World.drewN_drewN _ _ _⟩|exact ⟨rfl,_,Eq.trans (World.drewN_drewN _ _ _) (congrArg (World.drewN _) (Nat.add_assoc _ _ _))⟩))))
       (try simp only [Act.put,List.setIfInBounds_toArray,List.set_cons_zero,List.set_cons_succ]);go_cut [14] (fun v14 wc=> ∃(kq:Nat) (x14_28:Bool),v14= .bool x14_28∧Aside0 (law18_PlanEmpty.j3 kq x9_11 x10_11 x11_11 t20 x14_28 x15_3=some r)∧Aside0 (kq≤k3)∧Aside0 (Kd.R k84 84 wc w.heap.size (fun _=>True) (.slice Ao23 x9_11.length co23) x9_11)∧Aside0 (Kd.R k79 79 wc w.heap.size (fun _=>True) (.slice Ao24 x10_11.length co24) x10_11)∧Aside0 (Kd.R k39 39 wc w.heap.size (fun _=>True) (.slice (some ad29) x11_11.length co22) x11_11)∧Aside0 (Kd.R k76 76 wc w.heap.size (fun _=>True) v22 t20)∧Aside0 (Below w.heap.size w wc))
       case first=>
        have H:=HC29.out;clear HC29;by_cases c30:x14_3=true;rotate_left
        ·replace c30:=Bool.eq_false_iff.mpr c30;subst c30;rw [if_neg (show¬(false=true) by decide)] at H;have H':=Aside0.mk H;clear H;go_wp2
         repeat (go_quiet (fail);try go_wp2)
         go_meet
         case rel=>exact ⟨_,(false),rf_,H',⟨by have:=HJ4.out;have:=HJ11.out;have:=HK3.out;first|omega|exact Nat.le_refl _⟩,am_ (zr_ HO_9),am_ (zr_ HO_10),am_ (zr_ HO_11),am_ (zr_ HO_12),⟨zl0_ HB⟩⟩
        subst c30;rw [if_pos rfl] at H;by_cases c31:t30≥0;rotate_left
        ·rw [if_neg c31] at H;have c31b0:decide (0≤t30)=false:=decide_eq_false c31;clear c31;(first|rw [c31b0]|(simp only [i64_w,i32_w];rw [c31b0])|skip);have H':=Aside0.mk H;clear H;go_wp2
         repeat (go_quiet (fail);try go_wp2)
         go_meet
         case rel=>exact ⟨_,(false),rf_,H',⟨by have:=HJ4.out;have:=HJ11.out;have:=HK3.out;first|omega|exact Nat.le_refl _⟩,am_ (zr_ HO_9),am_ (zr_ HO_10),am_ (zr_ HO_11),am_ (zr_ HO_12),⟨zl0_ HB⟩⟩
        rw [if_pos c31] at H;have c31b0:decide (0≤t30)=true:=decide_eq_true c31;clear c31;(first|rw [c31b0]|(simp only [i64_w,i32_w];rw [c31b0])|skip);replace H:=zif_ H;obtain ⟨c32,H⟩:=H;have c32b0:=decide_eq_true c32;clear c32;replace H:=zif_ H;obtain ⟨c33,H⟩:=H;have c33b0:=decide_eq_true c33;clear c33;by_cases c34:((rd_T79 x10_11 t30).f1).toList=((rd_T39 x11_11 x15_3).f1).toList;rotate_left
        ·rw [if_neg c34] at H;have c34b0:=beq_eq_false_iff_ne.mpr c34;have c34b1:=bne_iff_ne.mpr c34;have H':=Aside0.mk H;clear H;obtain ⟨p31,q31,ad31,e31,hx31_0,hx31_1,hx31_2,hx31_3,hx31_4,hx31_5,hx31_6,hx31_7,hx31_8,hx31_9,hx31_10,hx31_11⟩:=zat_ (at_T79 (Kd.R_reads' HO_10.out).2.2 t30);cases e31;obtain ⟨p32,q32,ad32,e32,hx32_0,hx32_1,hx32_2,hx32_3,hx32_4⟩:=zat_ (at_T39 (Kd.R_reads' HO_11.out).2.2 x15_3);obtain rfl:ad29=ad32:=(by injection e32);go_wp2
         repeat (go_quiet (fail);try go_wp2)
         go_meet
         case rel=>exact ⟨_,(false),rf_,H',⟨by have:=HJ4.out;have:=HJ11.out;have:=HK3.out;first|omega|exact Nat.le_refl _⟩,am_ (zr_ HO_9),am_ (zr_ HO_10),am_ (zr_ HO_11),am_ (zr_ HO_12),⟨zl0_ HB⟩⟩
        rw [if_pos c34] at H;have c34b0:=beq_iff_eq.mpr c34;have c34b1:=bne_eq_false_iff_eq.mpr c34;clear c34;have H':=Aside0.mk H;clear H;obtain ⟨p31,q31,ad31,e31,hx31_0,hx31_1,hx31_2,hx31_3,hx31_4,hx31_5,hx31_6,hx31_7,hx31_8,hx31_9,hx31_10,hx31_11⟩:=zat_ (at_T79 (Kd.R_reads' HO_10.out).2.2 t30);cases e31;obtain ⟨p32,q32,ad32,e32,hx32_0,hx32_1,hx32_2,hx32_3,hx32_4⟩:=zat_ (at_T39 (Kd.R_reads' HO_11.out).2.2 x15_3);obtain rfl:ad29=ad32:=(by injection e32);obtain ⟨p33,q33,ad33,e33,hx33_0,hx33_1,hx33_2,hx33_3,hx33_4,hx33_5,hx33_6,hx33_7,hx33_8,hx33_9,hx33_10,hx33_11⟩:=zat_ (at_T79 (Kd.R_reads' HO_10.out).2.2 t30);obtain rfl:ad31=ad33:=(by injection e33);obtain ⟨p34,q34,ad34,e34,hx34_0,hx34_1,hx34_2,hx34_3,hx34_4⟩:=zat_ (at_T39 (Kd.R_reads' HO_11.out).2.2 x15_3);obtain rfl:ad29=ad34:=(by injection e34);go_wp2
        repeat (go_quiet (fail);try go_wp2)
        go_meet
        case rel=>exact ⟨_,((((rd_T79 x10_11 t30).f2.f0)==((rd_T39 x11_11 x15_3).f2.f0) && (((rd_T79 x10_11 t30).f2.f1)==((rd_T39 x11_11 x15_3).f2.f1) && (((rd_T79 x10_11 t30).f2.f2)==((rd_T39 x11_11 x15_3).f2.f2))))),rf_,H',⟨by have:=HJ4.out;have:=HJ11.out;have:=HK3.out;first|omega|exact Nat.le_refl _⟩,am_ (zr_ HO_9),am_ (zr_ HO_10),am_ (zr_ HO_11),am_ (zr_ HO_12),⟨zl0_ HB⟩⟩
       case rest=>
        clear HC29;obtain ⟨kq,x14_28,rfl,HA,HJ28,HO_9,HO_10,HO_11,HO_12,HB⟩:=hcut
        cases kq with
        |zero=>exact absurd HA.out (by simp [law18_PlanEmpty.j3])
        |succ kj28=>
         have H:=HA.out;clear HA;simp only [law18_PlanEmpty.j3] at H;have H':=Aside0.mk H;clear H;go_wp2
         repeat (go_quiet (fail);try go_wp2)
         go_loopg [17,18] kj28 (fun kq v17 v18 w'=> ∃(x17_5:Bool) (x18_5:Int),v17= .bool x17_5∧v18= .int .i64 x18_5∧Aside0 (law18_PlanEmpty.l1 kq x9_11 x10_11 x11_11 t20 x14_28 x15_3 x17_5 x18_5=some r)∧Aside0 (kq≤kj28)∧Aside0 (Kd.R k84 84 w' w.heap.size (fun _=>True) (.slice Ao23 x9_11.length co23) x9_11)∧Aside0 (Kd.R k79 79 w' w.heap.size (fun _=>True) (.slice Ao24 x10_11.length co24) x10_11)∧Aside0 (Kd.R k39 39 w' w.heap.size (fun _=>True) (.slice (some ad29) x11_11.length co22) x11_11)∧Aside0 (Kd.R k76 76 w' w.heap.size (fun _=>True) v22 t20)∧Aside0 (Below w.heap.size w w'))
         case atStart=>exact ⟨(false),(0),rf_,rf_,H',⟨Nat.le_refl _⟩,am_ (zr_ HO_9),am_ (zr_ HO_10),am_ (zr_ HO_11),am_ (zr_ HO_12),⟨zl0_ HB⟩⟩
         case round=>
          clear H';obtain ⟨x17_5,x18_5,rfl,rfl,HA,HK5,HO_9,HO_10,HO_11,HO_12,HB⟩:=hrel
          cases gk with
          |zero=>exact absurd HA.out (by simp [law18_PlanEmpty.l1])
          |succ k5=>
           have H:=HA.out;clear HA;simp only [law18_PlanEmpty.l1] at H;by_cases c35:x18_5<(x9_11.length:Int);rotate_left
           ·rw [if_neg c35] at H;have c35b0:=decide_eq_false c35;clear c35;by_cases c40:x14_28=true
            ·subst c40;rw [if_pos rfl] at H;have H':=Aside0.mk H;clear H;go_wp2
             repeat (go_quiet (fail);try go_wp2)
             go_roundg k5
             case measure=>have:=HJ4.out;have:=HJ11.out;have:=HK3.out;have:=HJ28.out;have:=HK5.out;omega
             case rel=>exact ⟨(x17_5),(wrap64 (x15_3+1)),rf_,rf_,H',⟨by have:=HJ4.out;have:=HJ11.out;have:=HK3.out;have:=HJ28.out;have:=HK5.out;omega⟩,am_ (zr_ HO_9),am_ (zr_ HO_10),am_ (zr_ HO_11),am_ (zr_ HO_12),⟨zl0_ HB⟩⟩
            replace c40:=Bool.eq_false_iff.mpr c40;subst c40;rw [if_neg (show¬(false=true) by decide)] at H;have H':=Aside0.mk H;clear H;go_wp2
            repeat (go_quiet (fail);try go_wp2)
            go_roundg k5
            case measure=>have:=HJ4.out;have:=HJ11.out;have:=HK3.out;have:=HJ28.out;have:=HK5.out;omega
            case rel=>exact ⟨(false),(wrap64 (x15_3+1)),rf_,rf_,H',⟨by have:=HJ4.out;have:=HJ11.out;have:=HK3.out;have:=HJ28.out;have:=HK5.out;omega⟩,am_ (zr_ HO_9),am_ (zr_ HO_10),am_ (zr_ HO_11),am_ (zr_ HO_12),⟨zl0_ HB⟩⟩
           rw [if_pos c35] at H;have c35b0:=decide_eq_true c35;clear c35;by_cases c36:x17_5=true
           ·subst c36;rw [if_pos rfl] at H;have H':=Aside0.mk H;clear H;go_wp2
            repeat (go_quiet (fail);try go_wp2)
            go_roundg k5
            case measure=>have:=HJ4.out;have:=HJ11.out;have:=HK3.out;have:=HJ28.out;have:=HK5.out;omega
            case rel=>exact ⟨(true),(wrap64 (x18_5+1)),rf_,rf_,H',⟨by have:=HJ4.out;have:=HJ11.out;have:=HK3.out;have:=HJ28.out;have:=HK5.out;omega⟩,am_ (zr_ HO_9),am_ (zr_ HO_10),am_ (zr_ HO_11),am_ (zr_ HO_12),⟨zl0_ HB⟩⟩
           replace c36:=Bool.eq_false_iff.mpr c36;subst c36;rw [if_neg (show¬(false=true) by decide)] at H;replace H:=zif_ H;obtain ⟨c37,H⟩:=H;have c37b0:=decide_eq_true c37;clear c37;replace H:=zif_ H;obtain ⟨c38,H⟩:=H;have c38b0:=decide_eq_true c38;clear c38;replace H:=zif_ H;obtain ⟨c39,H⟩:=H;have c39b0:=decide_eq_true c39;clear c39;have H':=Aside0.mk H;clear H;obtain ⟨p35,q35,ad35,e35,hx35_0,hx35_1,hx35_2,hx35_3,hx35_4,hx35_5⟩:=zat_ (at_T84 (Kd.R_reads' HO_9.out).2.2 x18_5);cases e35;obtain ⟨p36,q36,ad36,e36,hx36_0,hx36_1,hx36_2,hx36_3,hx36_4⟩:=zat_ (at_T39 (Kd.R_reads' HO_11.out).2.2 x15_3);obtain rfl:ad29=ad36:=(by injection e36);go_wp2
           repeat (go_quiet (fail);try go_wp2)
           go_roundg k5
           case measure=>have:=HJ4.out;have:=HJ11.out;have:=HK3.out;have:=HJ28.out;have:=HK5.out;omega
           case rel=>exact ⟨((((rd_T84 x9_11 x18_5).f0).toList==((rd_T39 x11_11 x15_3).f0).toList)),(wrap64 (x18_5+1)),rf_,rf_,H',⟨by have:=HJ4.out;have:=HJ11.out;have:=HK3.out;have:=HJ28.out;have:=HK5.out;omega⟩,am_ (zr_ HO_9),am_ (zr_ HO_10),am_ (zr_ HO_11),am_ (zr_ HO_12),⟨zl0_ HB⟩⟩
noncomputable def law18_PlanEmpty.Pure:Prop:= ∀(l0:List Int) (l1:List Int) (a2:Int) (a3:Bool),l0.length≤maxLen→l0.length*1≤140737488351232→(∀x∈l0,(Lit.int .u8 x).wf=true)→l1.length≤maxLen→l1.length*1≤140737488351232→(∀x∈l1,(Lit.int .u8 x).wf=true)→(Lit.int .u8 a2).wf=true→ ∃k,law18_PlanEmpty.f k l0 l1 a2 a3=some true
theorem law18_PlanEmpty.walk (P:law18_PlanEmpty.Pure) (a0:Option Addr) (len0 cap0:Nat) (z0:List Int) (a1:Option Addr) (len1 cap1:Nat) (z1:List Int) (a2:Int) (a3:Bool) (w:World) (w0:(a0=none∧len0=0∧cap0=0∧z0=[])∨ ∃x,a0=some x∧len0≤cap0∧cap0≤maxLen∧z0.length=cap0∧(∀i,i<z0.length→w.cell? (x.add i)=some (.int .u8 (z0.getD i 0)))∧ ∀n∈z0,(Lit.int .u8 n).wf=true) (y0:len0*1≤140737488351232) (w1:(a1=none∧len1=0∧cap1=0∧z1=[])∨ ∃x,a1=some x∧len1≤cap1∧cap1≤maxLen∧z1.length=cap1∧(∀i,i<z1.length→w.cell? (x.add i)=some (.int .u8 (z1.getD i 0)))∧ ∀n∈z1,(Lit.int .u8 n).wf=true) (y1:len1*1≤140737488351232) (w2:(Lit.int .u8 a2).wf=true):
  Calls Try.prog 12 #[.slice a0 len0 cap0, .slice a1 len1 cap1, .int .u8 a2, .bool a3] w fun e w'=>e= .returned (.bool true)∧Below w.heap.size w w':=by
 obtain ⟨l0,rfl,hr0,hm0,hw0,hc0⟩:=ReadsInt.ofRowC w0;obtain ⟨l1,rfl,hr1,hm1,hw1,hc1⟩:=ReadsInt.ofRowC w1;obtain ⟨k,h⟩:=P l0 l1 a2 a3 hm0 y0 hw0 hm1 y1 hw1 w2;refine (law18_PlanEmpty.calls k _ _ l0 _ _ l1 a2 a3 true w (Kd.C_of_reads (d:=(0:Int)) (h1:=fun _=>rfl) hr0) hc0 (Kd.C_of_reads (d:=(0:Int)) (h1:=fun _=>rfl) hr1) hc1 h).mono ?_;rintro e w' ⟨rfl,hd⟩;exact ⟨rfl,hd⟩

theorem eqA79 (d:Nat) (w:World) (x0 y0:ByteArray) (x1 y1:ByteArray) (x2 y2:Int) (x3 y3:Int) (x4 y4:Int) (x5 y5:Int) (x6 y6:Int) (x7 y7:Int) (x8 y8:Int) (x9 y9:Int) (x10 y10:Int) (x11 y11:Int):
  (Op.equalIn (d+3) 79 (.agg #[.string x0, .string x1, .int .i64 x2, .int .i64 x3, .int .i64 x4, .int .i64 x5, .int .i64 x6, .int .i64 x7, .int .i64 x8, .int .i64 x9, .int .i64 x10, .int .i64 x11]) (.agg #[.string y0, .string y1, .int .i64 y2, .int .i64 y3, .int .i64 y4, .int .i64 y5, .int .i64 y6, .int .i64 y7, .int .i64 y8, .int .i64 y9, .int .i64 y10, .int .i64 y11])).run Try.prog w= .ok (x0.toList==y0.toList && (x1.toList==y1.toList && ((x2==y2 && (x3==y3 && (x4==y4))) && ((x5==y5 && (x6==y6 && (x7==y7))) && ((x8==y8 && (x9==y9 && (x10==y10))) && (x11==y11)))))) w:=by
 refine eqA_of Try.underlying79 (by kernel_rfl) ?_;refine eqf_cons (by rfl) (by go_simp;rfl) (by go_simp;rfl) (by go_simp) ?_;refine eqf_cons (by rfl) (by go_simp;rfl) (by go_simp;rfl) (by go_simp) ?_;refine eqf_cons (by rfl) (by go_simp) (by go_simp) (eqA37 (d+0) w _ _ _ _ _ _) ?_;refine eqf_cons (by rfl) (by go_simp) (by go_simp) (eqA37 (d+0) w _ _ _ _ _ _) ?_;refine eqf_cons (by rfl) (by go_simp) (by go_simp) (eqA37 (d+0) w _ _ _ _ _ _) ?_;exact eqf_last (by rfl) (by go_simp;rfl) (by go_simp;rfl) (by go_simp)
attribute [local go_sem high] eqA79
end Go.Proofs.Ytahidkjncljkaaa.Print

namespace Go.Proofs.Ytahidkjncljkaaa.Print
open Go.RowKit Go.Proofs.YtahidkjncljkaaaW.PrintWords Go.Proofs.YtahidkjncljkaaaW.PrintLast Go.Proofs.YtahidkjncljkaaaW.PrintMore
end Go.Proofs.Ytahidkjncljkaaa.Print

namespace Go.Proofs.Ytahidkjncljkaaa.Print
open Go.RowKit Go.Proofs.YtahidkjncljkaaaW.PrintWords Go.Proofs.YtahidkjncljkaaaW.PrintLast Go.Proofs.YtahidkjncljkaaaW.PrintMore
attribute [local go_sem] max2_int min2_int max_two min_two max_three min_three max_four min_four

end Go.Proofs.Ytahidkjncljkaaa.Print

namespace Go.Proofs.Ytahidkjncljkaaa.Print
open Go.RowKit Go.Proofs.YtahidkjncljkaaaW.PrintWords Go.Proofs.YtahidkjncljkaaaW.PrintLast Go.Proofs.YtahidkjncljkaaaW.PrintMore
end Go.Proofs.Ytahidkjncljkaaa.Print

namespace Go.Proofs.Ytahidkjncljkaaa.Print
open Go.RowKit Go.Proofs.YtahidkjncljkaaaW.PrintWords Go.Proofs.YtahidkjncljkaaaW.PrintLast Go.Proofs.YtahidkjncljkaaaW.PrintMore
attribute [local go_sem] max2_int min2_int max_two min_two max_three min_three max_four min_four

end Go.Proofs.Ytahidkjncljkaaa.Print

namespace Go.Proofs.Ytahidkjncljkaaa.Print
open Go.RowKit Go.Proofs.YtahidkjncljkaaaW.PrintWords Go.Proofs.YtahidkjncljkaaaW.PrintLast Go.Proofs.YtahidkjncljkaaaW.PrintMore
end Go.Proofs.Ytahidkjncljkaaa.Print

namespace Go.Proofs.Ytahidkjncljkaaa.Print
open Go.RowKit Go.Proofs.YtahidkjncljkaaaW.PrintWords Go.Proofs.YtahidkjncljkaaaW.PrintLast Go.Proofs.YtahidkjncljkaaaW.PrintMore
attribute [local go_sem] max2_int min2_int max_two min_two max_three min_three max_four min_four

attribute [local go_sem high] eqA37
end Go.Proofs.Ytahidkjncljkaaa.Print

namespace Go.Proofs.Ytahidkjncljkaaa.Print
open Go.RowKit Go.Proofs.YtahidkjncljkaaaW.PrintWords Go.Proofs.YtahidkjncljkaaaW.PrintLast Go.Proofs.YtahidkjncljkaaaW.PrintMore
end Go.Proofs.Ytahidkjncljkaaa.Print

namespace Go.Proofs.Ytahidkjncljkaaa.Print
open Go.RowKit Go.Proofs.YtahidkjncljkaaaW.PrintWords Go.Proofs.YtahidkjncljkaaaW.PrintLast Go.Proofs.YtahidkjncljkaaaW.PrintMore
attribute [local go_sem] max2_int min2_int max_two min_two max_three min_three max_four min_four

end Go.Proofs.Ytahidkjncljkaaa.Print

namespace Go.Proofs.Ytahidkjncljkaaa.Print
open Go.RowKit Go.Proofs.YtahidkjncljkaaaW.PrintWords Go.Proofs.YtahidkjncljkaaaW.PrintLast Go.Proofs.YtahidkjncljkaaaW.PrintMore
end Go.Proofs.Ytahidkjncljkaaa.Print

namespace Go.Proofs.Ytahidkjncljkaaa.Print
open Go.RowKit Go.Proofs.YtahidkjncljkaaaW.PrintWords Go.Proofs.YtahidkjncljkaaaW.PrintLast Go.Proofs.YtahidkjncljkaaaW.PrintMore
attribute [local go_sem] max2_int min2_int max_two min_two max_three min_three max_four min_four

end Go.Proofs.Ytahidkjncljkaaa.Print

namespace Go.Proofs.Ytahidkjncljkaaa.Print
open Go.RowKit Go.Proofs.YtahidkjncljkaaaW.PrintWords Go.Proofs.YtahidkjncljkaaaW.PrintLast Go.Proofs.YtahidkjncljkaaaW.PrintMore
end Go.Proofs.Ytahidkjncljkaaa.Print

namespace Go.Proofs.Ytahidkjncljkaaa.Print
open Go.RowKit Go.Proofs.YtahidkjncljkaaaW.PrintWords Go.Proofs.YtahidkjncljkaaaW.PrintLast Go.Proofs.YtahidkjncljkaaaW.PrintMore
attribute [local go_sem] max2_int min2_int max_two min_two max_three min_three max_four min_four

end Go.Proofs.Ytahidkjncljkaaa.Print

namespace Go.Proofs.Ytahidkjncljkaaa.Print
open Go.RowKit Go.Proofs.YtahidkjncljkaaaW.PrintWords Go.Proofs.YtahidkjncljkaaaW.PrintLast Go.Proofs.YtahidkjncljkaaaW.PrintMore
end Go.Proofs.Ytahidkjncljkaaa.Print

namespace Go.Proofs.Ytahidkjncljkaaa.Print
open Go.RowKit Go.Proofs.YtahidkjncljkaaaW.PrintWords Go.Proofs.YtahidkjncljkaaaW.PrintLast
def idle (x:Item):Item:=⟨x.f0,x.f1,x.f2,⟨0,0,0⟩,⟨0,0,0⟩,x.f5⟩
structure St (t:List Item) (v m:Nat) (A:ByteArray→Option ByteArray):Prop where
 right:RightP t
 idle: ∀x∈t,x.f3=⟨0,0,0⟩∧x.f4=⟨0,0,0⟩
 ver: ∀x∈t,x.f5≤v
 len:t.length≤m
 par: ∀n,(look t n).map (·.f1)=A n
theorem St.some {t:List Item} {v m:Nat} {A:ByteArray→Option ByteArray} (S:St t v m A) {n p:ByteArray} (h:A n=some p): ∃x,look t n=some x∧x.f1=p:=by
  have:=S.par n
  rw [h] at this
  cases e:look t n with
  |none=>rw [e] at this;cases this
  | some x =>
    rw [e] at this;exact ⟨x,rfl,Option.some.inj this⟩
theorem St.none {t:List Item} {v m:Nat} {A:ByteArray→Option ByteArray} (S:St t v m A) {n:ByteArray} (h:A n=none):look t n=none:=by
 have:=S.par n
 rw [h] at this
 cases e:look t n with
 |none=>rfl
 |some x=>rw [e] at this;cases this
theorem St.le {t:List Item} {v m v' m':Nat} {A:ByteArray→Option ByteArray} (S:St t v m A) (h:v≤v') (k:m≤m'):St t v' m' A:=⟨S.right,S.idle,fun x hx=>by have:=S.ver x hx;omega,by have:=S.len;omega,S.par⟩
theorem St.congr {t:List Item} {v m:Nat} {A B:ByteArray→Option ByteArray} (S:St t v m A) (h: ∀n,A n=B n):St t v m B:=⟨S.right,S.idle,S.ver,S.len,fun n=>(S.par n).trans (h n)⟩
theorem zero_le {v:Vec} (h:MayP v):LeP (⟨0,0,0⟩:Vec) v:=by
 obtain ⟨a,b,c⟩:=v;rw [mayP_iff] at h;rw [leP_iff]
 omega
structure TopOK (top:List Want):Prop where
 nodup:(top.map (·.f0)).Nodup
 par: ∀(pre post:List Want) (w:Want),top=pre++w::post→w.f1=⟨#[]⟩∨ ∃u∈pre,u.f0=w.f1
 may: ∀w∈top,(w.f0≠⟨#[]⟩∧w.f0.size≤24)∧MayP w.f2
def A0 (l:List Item) (n:ByteArray):Option ByteArray:=(look l n).map (·.f1)
section
variable {l:List Item} {top:List Want}
end
theorem befG_iff {l:List Item} {n a:ByteArray}:befG l n a=true↔depU l n<depU l a∨(depU l a=depU l n∧lt a n=true):=by unfold befG;simp
theorem befG_trans {l:List Item} {a b c:ByteArray} (h:befG l b a=true) (k:befG l c b=true):befG l c a=true:=by
  rw [befG_iff] at h k ⊢
  rcases h with h|⟨h,h'⟩<;>rcases k with k|⟨k,k'⟩
  · exact .inl (by omega)
  · exact .inl (by omega)
  · exact .inl (by omega)
  exact .inr ⟨by omega,lt_trans h' k'⟩
theorem befG_total {l:List Item} {a n:ByteArray} (h:befG l n a=false) (hn:a≠n):befG l a n=true:=by
  rw [←Bool.not_eq_true,befG_iff] at h;rw [befG_iff];by_cases e:depU l a=depU l n;rotate_left
  · exact .inl (by have: ¬depU l n<depU l a:=fun q=>h (.inl q);omega)
  refine .inr ⟨e.symm,lt_total ?_ hn⟩;rw [←Bool.not_eq_true];exact fun q=>h (.inr ⟨e,q⟩)
theorem insG_perm (l:List Item) (n:ByteArray) (out:List ByteArray):(insG l n out).Perm (n::out):=by
 unfold insG;have:=List.perm_middle (a:=n) (l₁:=out.takeWhile (befG l n)) (l₂:=out.dropWhile (befG l n))
 rwa [List.takeWhile_append_dropWhile] at this
def goneN (ws:List Want) (ms:List PMark):List ByteArray:=(ms.filter (fun m=> !isWant ws m.f0)).map (·.f0)
theorem goesGo_perm (ws:List Want) (l:List Item): ∀(ms:List PMark) (out:List ByteArray),(goesGo ws l out ms).Perm (out++goneN ws ms)
  |[],out=>by rw [goesGo];show List.Perm out (out++ []);rw [List.append_nil]
  | m :: ms, out => by
    rw [goesGo];by_cases c:isWant ws m.f0=true
    · rw [if_pos c]
      have:goneN ws (m::ms)=goneN ws ms:=by unfold goneN;rw [List.filter_cons_of_neg (by rw [c];simp)]
      rw [this]
      exact goesGo_perm ws l ms out
    rw [if_neg c];have:goneN ws (m::ms)=m.f0::goneN ws ms:=by unfold goneN;rw [List.filter_cons_of_pos (by rw [Bool.eq_false_iff.2 c];rfl)];rfl
    rw [this];refine (goesGo_perm ws l ms _).trans (((insG_perm l m.f0 out).append_right _).trans ?_);exact List.perm_middle.symm
end Go.Proofs.Ytahidkjncljkaaa.Print

namespace Go.Proofs.Ytahidkjncljkaaa.Print
open Go.RowKit Go.Proofs.YtahidkjncljkaaaW.PrintWords Go.Proofs.YtahidkjncljkaaaW.PrintLast Go.Proofs.YtahidkjncljkaaaW.PrintMore
theorem mx_zero {a:Int} (h:0≤a):mx 0 a=a:=by unfold mx;split<;>omega
theorem mx3 {a b:Int} (h:0≤b):mx (mx 0 a) b=mx a b:=by unfold mx;repeat' split<;>omega
theorem nowG_eq {l:List Item} (wide:Bool) {y:Want} (h:MayP y.f2):nowG wide (goalOf l y)=upV l wide y:=by
  have h0:=(mayP_iff.1 h).1.1;have h1:=(mayP_iff.1 h).2.1.1;have h2:=(mayP_iff.1 h).2.2.1;unfold nowG upV
  cases wide with
  |true=>rfl
  | false =>
    rw [if_neg (by simp),if_neg (by simp)];unfold goalOf
    cases look l y.f0 with
    | none =>
      show (⟨mx (mx 0 0) y.f2.f0,mx (mx 0 0) y.f2.f1,mx (mx 0 0) y.f2.f2⟩:Vec)=y.f2
      rw [mx3 h0,mx3 h1,mx3 h2,mx_zero h0,mx_zero h1,mx_zero h2]
    | some x =>
      show (⟨mx (mx 0 x.f2.f0) y.f2.f0,mx (mx 0 x.f2.f1) y.f2.f1,mx (mx 0 x.f2.f2) y.f2.f2⟩:Vec)=_
      rw [mx3 h0,mx3 h1,mx3 h2]
theorem bq (a b:Int):(a==b)=(b==a):=by
 rw [Bool.eq_iff_iff,beq_iff_eq,beq_iff_eq];exact ⟨Eq.symm,Eq.symm⟩
theorem neG_neV (a b:Vec):neG a b=neV b a:=by
 unfold neG neV;rw [show (a.f0==b.f0)=(b.f0==a.f0) from bq _ _,show (a.f1==b.f1)=(b.f1==a.f1) from bq _ _,show (a.f2==b.f2)=(b.f2==a.f2) from bq _ _]
theorem upG_f (l:List Item) (wide:Bool) (y:Want):(upG wide (goalOf l y)).f0=y∧(upG wide (goalOf l y)).f1=(goalOf l y).f1∧(upG wide (goalOf l y)).f2=(goalOf l y).f2∧(goalOf l y).f0=y:=by
 have:(goalOf l y).f0=y:=by unfold goalOf;split<;>rfl
 exact ⟨this,rfl,rfl,this⟩
theorem raise_eq {l:List Item} (wide:Bool) {y:Want} (h:MayP y.f2):raiseG wide (goalOf l y)=raiseS l wide y:=by
 have e:=nowG_eq (l:=l) wide h;have q: ∀z:PGoal,raiseG wide z=if z.f2=false then [⟨1,z.f0.f0,z.f0.f1,nowG wide z⟩] else if neG (nowG wide z) z.f1.f2=true then [⟨2,z.f0.f0,⟨#[]⟩,nowG wide z⟩] else []:=fun z=>rfl
 rw [q,e,neG_neV,(upG_f l wide y).2.2.2];unfold raiseS goalOf
 cases look l y.f0 with
 |none=>exact if_pos rfl
 |some x=>exact if_neg (by simp)
theorem move_eq {l:List Item} (wide:Bool) (y:Want):moveG (upG wide (goalOf l y))=moveS l y:=by
  have q: ∀z:PGoal,moveG (upG wide z)=if z.f2=true∧z.f1.f1.toList≠z.f0.f1.toList then [⟨3,z.f0.f0,z.f0.f1,⟨0,0,0⟩⟩] else []:=fun z=>rfl
  rw [q,(upG_f l wide y).2.2.2];unfold moveS goalOf
  cases look l y.f0 with
  |none=>exact if_neg (by simp [gzero])
  | some x =>
    dsimp only;by_cases c:x.f1=y.f1
    · rw [if_pos c,if_neg (by rw [c];simp)]
    rw [if_neg c,if_pos ⟨rfl,nm_ne.2 c⟩]
theorem lower_eq {l:List Item} (wide:Bool) {y:Want} (h:MayP y.f2):lowerG (upG wide (goalOf l y))=lowerS l wide y:=by
 have q: ∀z:PGoal,lowerG (upG wide z)=if neG (nowG wide z) z.f0.f2=true then [⟨2,z.f0.f0,⟨#[]⟩,z.f0.f2⟩] else []:=fun z=>rfl
 rw [q,nowG_eq wide h,neG_neV,(upG_f l wide y).2.2.2];unfold lowerS;rw [show neV y.f2 (upV l wide y)=neV (upV l wide y) y.f2 from Bool.eq_iff_iff.2 (by rw [neV_iff,neV_iff];exact ⟨fun a b=>a b.symm,fun a b=>a b.symm⟩)]
theorem wide_eq (l:List Item) (ms:List PMark): ∀(ys:List Want) (b:Bool),wideP l ms b ys=wideGo l ms b ys
  |[],b=>rfl
  | y :: ys, b => by
    have q:(ms.any (fun m=>m.f0.toList==y.f0.toList))=(mlook ms y.f0).isSome:=by
      unfold mlook;rw [List.isSome_find?]
      congr 1
      funext m
      exact nm_beq _ _
    unfold wideP wideGo badW wideOf;rw [q,wide_eq l ms ys]
    cases look l y.f0 with
    |none=>rw [if_neg (by simp)];dsimp only;rw [Bool.or_false]
    | some x =>
      dsimp only
      cases mlook ms y.f0 with
      |none=>rw [if_pos (by simp),if_pos rfl]
      | some m =>
        rw [if_neg (by simp),if_neg (by simp)];rw [show (x.f1.toList !=y.f1.toList)= !decide (x.f1=y.f1) from by unfold bne;rw [nm_beq]]
theorem flat_congr {α β:Type} {f g:α→List β}: ∀{l:List α},(∀x∈l,f x=g x)→l.flatMap f=l.flatMap g
  |[],_=>rfl
  | x :: l, h => by
    rw [List.flatMap_cons,List.flatMap_cons,h x (by simp),flat_congr fun y hy=>h y (List.mem_cons_of_mem _ hy)]
theorem befG_asym {l:List Item} {a b:ByteArray} (h:befG l a b=true):befG l b a=false:=by
  rw [←Bool.not_eq_true]
  intro k
  rw [befG_iff] at h k
  rcases h with h|⟨h,h'⟩<;>rcases k with k|⟨k,k'⟩
  · omega
  · omega
  · omega
  exact absurd (lt_trans h' k') (by rw [lt_irrefl];simp)
theorem befG_neg {l:List Item} {a b c:ByteArray} (h:befG l a b=false) (k:befG l b c=false):befG l a c=false:=by
  rw [←Bool.not_eq_true];intro q;by_cases e:b=a
  · subst e;rw [q] at k;cases k
  have h1:=befG_total h e;have h2:=befG_trans q h1;rw [h2] at k;cases k
theorem insG_weak {l:List Item} {n:ByteArray}: ∀{out:List ByteArray},out.Pairwise (fun a b=>befG l a b=false)→(insG l n out).Pairwise (fun a b=>befG l a b=false)
  |[],h=>by simp [insG]
  | x :: out, h => by
    rw [List.pairwise_cons] at h;unfold insG;rw [List.takeWhile_cons,List.dropWhile_cons];by_cases c:befG l n x=true
    · rw [c]
      show (x::insG l n out).Pairwise _
      rw [List.pairwise_cons]
      refine ⟨fun a ha=> ?_,insG_weak h.2⟩
      rcases List.mem_cons.1 ((insG_perm l n out).mem_iff.1 ha) with rfl|ha
      · exact befG_asym c
      exact h.1 a ha
    rw [Bool.eq_false_iff.2 c]
    show (n::x::out).Pairwise _
    rw [List.pairwise_cons,List.pairwise_cons];refine ⟨fun a ha=> ?_,h⟩
    rcases List.mem_cons.1 ha with rfl|ha
    · exact Bool.eq_false_iff.2 c
    exact befG_neg (Bool.eq_false_iff.2 c) (h.1 a ha)
theorem goesGo_weak (ws:List Want) (l:List Item): ∀(ms:List PMark) (out:List ByteArray),out.Pairwise (fun a b=>befG l a b=false)→(goesGo ws l out ms).Pairwise (fun a b=>befG l a b=false)
  |[],out,h=>by rw [goesGo];exact h
  | m :: ms, out, h => by
    rw [goesGo];by_cases c:isWant ws m.f0=true
    · rw [if_pos c];exact goesGo_weak ws l ms out h
    rw [if_neg c];exact goesGo_weak ws l ms _ (insG_weak h)
theorem drop_eq (l:List Item) (wide:Bool) (ws:List Want): ∀ms:List PMark,dropN (((topR ws).map (goalOf l)).map (upG wide)) ms=goneN ws ms
  |[]=>rfl
  | m :: ms => by
    have q:hasG (((topR ws).map (goalOf l)).map (upG wide)) m=isWant ws m.f0:=by
      unfold hasG isWant;rw [List.any_map,List.any_map,Bool.eq_iff_iff,List.any_eq_true,List.any_eq_true]
      constructor
      · rintro ⟨y, hy, e⟩
        refine ⟨y,(topR_perm ws).mem_iff.1 hy, ?_⟩
        have e2:(y.f0.toList==m.f0.toList)=true:=by rw [←(upG_f l wide y).1];exact e
        rwa [nm_beq] at e2
      rintro ⟨y,hy,e⟩;refine ⟨y,(topR_perm ws).mem_iff.2 hy, ?_⟩
      show ((upG wide (goalOf l y)).f0.f0.toList==m.f0.toList)=true
      rw [(upG_f l wide y).1,nm_beq];exact e
    show (if hasG _ m=true then dropN _ ms else m.f0::dropN _ ms)=_
    rw [q,drop_eq l wide ws ms];unfold goneN;by_cases c:isWant ws m.f0=true
    · rw [if_pos c,List.filter_cons_of_neg (by rw [c];simp)]
    rw [if_neg c,List.filter_cons_of_pos (by rw [Bool.eq_false_iff.2 c];rfl)];rfl
theorem gone_eq {l:List Item} {wide:Bool} {ws:List Want} {ms:List PMark} {ns:List ByteArray} (h:GoneIs (((topR ws).map (goalOf l)).map (upG wide)) ms l ns):ns=goesR ws ms l:=by
  obtain ⟨h1,h2⟩:=h;rw [drop_eq] at h1;have k1:(goesR ws ms l).Perm (goneN ws ms):=(goesGo_perm ws l ms []).trans (by rw [List.nil_append]);have k2:=goesGo_weak ws l ms [] List.Pairwise.nil;refine List.Perm.eq_of_pairwise (le:=fun a b=>befG l a b=false) ?_ ?_ k2 (h1.trans k1.symm)
  · intro a b _ _ hab hba
    by_cases e:a=b
    · exact e
    have:=befG_total hba e
    rw [hab] at this;cases this
  refine h2.imp ?_;intro a b hab;rw [←Bool.not_eq_true];intro q;refine hab (cmpW_neg.2 ?_);rw [befG_iff] at q;unfold depN
  rcases q with q|⟨q,q'⟩
  · exact .inl (by omega)
  exact .inr ⟨by omega,q'⟩
theorem gone_is (l:List Item) (wide:Bool) (ws:List Want) (ms:List PMark):GoneIs (((topR ws).map (goalOf l)).map (upG wide)) ms l (goesR ws ms l):=by
  refine ⟨?_, ?_⟩
  · rw [drop_eq]
    exact (goesGo_perm ws l ms []).trans (by rw [List.nil_append])
  refine (goesGo_weak ws l ms [] List.Pairwise.nil).imp ?_;intro a b hab q;rw [←Bool.not_eq_true] at hab;refine hab (befG_iff.2 ?_);have q:=cmpW_neg.1 q;unfold depN at q
  rcases q with q|⟨q,q'⟩
  · exact .inl (by omega)
  exact .inr ⟨by omega,q'⟩
theorem mayW_may {y:Want} (h:mayW y=true):MayP y.f2:=by
 unfold mayW at h;exact (of_decide_eq_true h).2
theorem plan_is {ws:List Want} {ms:List PMark} {l:List Item} (r:List PStep) (e:Int):PlanIs ws (topR ws) ms l r e↔(r,e)=planR ws ms l:=by
  unfold PlanIs planR;by_cases hz:checkR ws=0;rotate_left
  · rw [if_neg hz, if_neg hz]
    exact ⟨fun ⟨a,b⟩=>by rw [a,b],fun h=>by injection h with a b;exact ⟨a,b⟩⟩
  rw [if_pos hz,if_pos hz,wide_eq];have T:=checkR_tree (.inl hz);have hm: ∀y∈topR ws,MayP y.f2:=fun y hy=>mayW_may (T.may y ((topR_perm ws).mem_iff.1 hy))
  cases wideGo l ms false (topR ws) with
  |none=>exact ⟨fun ⟨a,b⟩=>by rw [a,b],fun h=>by injection h with a b;exact ⟨a,b⟩⟩
  | some wide =>
    dsimp only
    have e1:((topR ws).map (goalOf l)).flatMap (raiseG wide)=(topR ws).flatMap (raiseS l wide):=by
      rw [List.flatMap_map];exact flat_congr fun y hy=>raise_eq wide (hm y hy)
    have e2:(((topR ws).map (goalOf l)).map (upG wide)).flatMap moveG=(topR ws).flatMap (moveS l):=by
      rw [List.flatMap_map,List.flatMap_map];exact flat_congr fun y hy=>move_eq wide y
    have e3:(((topR ws).map (goalOf l)).map (upG wide)).reverse.flatMap lowerG=(topR ws).reverse.flatMap (lowerS l wide):=by
      rw [←List.map_reverse,←List.map_reverse,List.flatMap_map,List.flatMap_map];exact flat_congr fun y hy=>lower_eq wide (hm y (List.mem_reverse.1 hy))
    rw [e1,e2,e3]
    constructor
    · rintro ⟨rfl, ns, hg, rfl⟩
      rw [gone_eq hg]
    intro h;injection h with a b;exact ⟨b,_,gone_is l wide ws ms,a⟩
theorem plan_Steps_ev {ws:List Want} {ms:List PMark} {l:List Item} (hs:smallW ws) (hl:l.length<10000) (hm:ms.length<10000):plan_Steps.f ws ms l=some (planR ws ms l):=by
 have hx:(smallW ws∧l.length<10000∧ms.length<10000)∧ ∃p:List PStep×Int,PlanIs ws (topR ws) ms l p.1 p.2∧ ∀q:List PStep×Int,PlanIs ws (topR ws) ms l q.1 q.2→q=p:=
  ⟨⟨hs,hl,hm⟩,planR ws ms l,(plan_is _ _).2 rfl,fun q hq=>(plan_is q.1 q.2).1 hq⟩
 unfold plan_Steps.f;rw [dif_pos hx];have:=hx.2.choose_spec.1
 rw [plan_is] at this;exact congrArg some this
def creS (w:Want):PStep:=⟨1,w.f0,w.f1,w.f2⟩
theorem wide_nil (ms:List PMark): ∀ys:List Want,wideGo [] ms false ys=some false
 |[]=>rfl
 |y::ys=>wide_nil ms ys
theorem plan_fresh {ws:List Want} (h:checkR ws=0):planR ws [] []=((topR ws).map creS,0):=by
 unfold planR;rw [if_pos h,wide_nil];dsimp only
 have e1:(topR ws).flatMap (raiseS [] false)=(topR ws).map creS:=by
  rw [List.map_eq_flatMap]
  rfl
 have e2:(topR ws).flatMap (moveS [])=[]:=by
  rw [List.flatMap_eq_nil_iff];intro y _
  rfl
 have e3:(topR ws).reverse.flatMap (lowerS [] false)=[]:=by
  rw [List.flatMap_eq_nil_iff];intro y _;exact if_neg (by rw [show upV [] false y=y.f2 from rfl,neV_iff];simp)
 rw [e1,e2,e3]
 show (_++_++_++List.map delS [],0)=_
 rw [List.map_nil,List.append_nil,List.append_nil,List.append_nil]
def exS:List Want:=[⟨⟨#[97]⟩,⟨#[]⟩,⟨0,0,0⟩⟩]
theorem exS_small:smallW exS:=by
 intro w hw;unfold exS at hw;simp only [List.mem_cons,List.not_mem_nil,or_false] at hw;subst hw;exact ⟨by decide,by decide⟩
theorem awake18:law18_awake.f=some true:=by
 have h1:=(plan_Steps_ev (ws:=exS) (ms:=[]) (l:=[]) exS_small (by decide) (by decide)).trans (congrArg some (plan_fresh (ws:=exS) (by decide)));have h2:=(plan_Steps_ev (ws:=[]) (ms:=[]) (l:=[]) nil_small (by decide) (by decide)).trans (congrArg some (plan_fresh (ws:=[]) (by decide)));rw [show topR exS=exS from by kernel_rfl] at h1;rw [show topR []=[] from rfl] at h2;unfold law18_awake.f;rw [show exS=[⟨⟨#[97]⟩,⟨#[]⟩,⟨0,0,0⟩⟩] from rfl] at h1;rw [h1,h2];refine Eq.trans (b:=some true) ?_ rfl
 kernel_rfl
theorem awake18_ev:Ev (fun _=>(law18_awake.f).bind fun t=>some t) true:=by
 rw [awake18];exact Ev.const rfl
theorem wideP_none (l:List Item) (ms:List PMark): ∀(ys:List Want) (b:Bool),(wideP l ms b ys).isNone=ys.any (badW l ms)
  |[],b=>rfl
  | y :: ys, b => by
    unfold wideP
    rw [List.any_cons]
    cases h:badW l ms y with
    |true=>rw [if_pos rfl];rfl
    |false=>rw [if_neg (by simp),wideP_none l ms ys];rfl
theorem plan_err {ws:List Want} (h:checkR ws=0) (ms:List PMark) (l:List Item):(planR ws ms l).2=if ws.any (badW l ms)=true then 3 else 0:=by
 have hp:(topR ws).any (badW l ms)=ws.any (badW l ms):=by
  rw [Bool.eq_iff_iff,List.any_eq_true,List.any_eq_true];exact ⟨fun ⟨x,a,b⟩=>⟨x,(topR_perm ws).mem_iff.1 a,b⟩,fun ⟨x,a,b⟩=>⟨x,(topR_perm ws).mem_iff.2 a,b⟩⟩
 have hn:=wideP_none l ms (topR ws) false;rw [hp,wide_eq] at hn;unfold planR;rw [if_pos h,←hn]
 cases wideGo l ms false (topR ws)<;>rfl
def zzN:ByteArray:=⟨#[122,122]⟩
def markI (x:Item):PMark:=⟨x.f0,x.f1,x.f2,x.f5⟩
structure LiveM (l:List Item) (m:List PMark):Prop where
 len:m.length≤l.length+1
 nodup:(m.map (·.f0)).Nodup
 mem: ∀x∈m,x.f0=zzN∨ ∃y∈l,x=markI y
theorem live_l0N {l:List Item} (hl:l.length≤1000) (hn:(l.map (·.f0)).Nodup) (hz: ∀x∈l,x.f0≠zzN) (a:Int): ∀(d i:Nat) (m0:List PMark),l.length - i=d→i≤l.length→m0.length≤i→(m0.map (·.f0)).Nodup→(∀x∈m0,∃y∈l.take i,x=markI y)→ ∃m,LiveM l m∧Ev (fun k=>law18_Live.l0 k a l m0 (i:Int)) (m,l)
  | 0, i, m0, hd, hi, hm, h1, h2 => by
    obtain rfl:i=l.length:=by omega
    rw [List.take_length] at h2;by_cases c:Int.tmod a 5=0;rotate_left
    · exact ⟨m0,⟨by omega,h1,fun x hx=> .inr (h2 x hx)⟩,Ev.step (fun k=>law18_Live.l0.eq_2 (k:=k) ..) (Ev.congr (fun k=>by rw [if_neg (by omega),if_neg c]) (Ev.now _))⟩
    refine ⟨m0++ [⟨⟨#[122,122]⟩,⟨#[]⟩,⟨0,0,0⟩,1⟩],⟨by rw [List.length_append,List.length_singleton];omega, ?_, ?_⟩,Ev.step (fun k=>law18_Live.l0.eq_2 (k:=k) ..) (Ev.congr (fun k=>by rw [if_neg (by omega),if_pos c,if_pos (by omega)]) (Ev.now _))⟩;rotate_left
    · intro x hx
      rcases List.mem_append.1 hx with hx|hx
      · exact .inr (h2 x hx)
      rw [List.mem_singleton] at hx
      exact .inl (by rw [hx];rfl)
    rw [List.map_append,List.map_cons,List.map_nil,List.nodup_append];refine ⟨h1,by simp,fun x hx y hy=> ?_⟩;obtain ⟨q,hq,rfl⟩:=List.mem_map.1 hx;obtain ⟨z,hz1,e⟩:=h2 q hq;rw [List.mem_singleton] at hy;rw [hy,e];exact hz z hz1
  | d + 1, i, m0, hd, hi, hm, h1, h2 => by
    have hlt:i<l.length:=by omega
    have e1:wrap64 ((i:Int)+1)=((i+1:Nat):Int):=by rw [w64 (by omega) (by omega)];rfl
    have ht: ∀x∈m0,∃y∈l.take (i+1),x=markI y:=fun x hx=>by
      obtain ⟨y,hy,e⟩:=h2 x hx;exact ⟨y,by rw [List.take_succ_eq_append_getElem hlt];exact List.mem_append_left _ hy,e⟩
    by_cases c:Int.tmod (wrap64 ((i:Int)+wrap64 a)) 4>0;rotate_left
    · obtain ⟨m, k1, k2⟩ := live_l0N hl hn hz a d (i + 1) m0 (by omega) (by omega) (by omega) h1 ht
      exact ⟨m,k1,Ev.step (fun k=>law18_Live.l0.eq_2 (k:=k) ..) (Ev.congr (fun k=>by rw [if_pos (by omega),if_neg c,e1]) k2)⟩
    obtain ⟨m,k1,k2⟩:=live_l0N hl hn hz a d (i+1) (m0++ [markI l[i]]) (by omega) (by omega) (by rw [List.length_append,List.length_singleton];omega) (by
      rw [List.map_append,List.map_cons,List.map_nil,List.nodup_append];refine ⟨h1,by simp,fun x hx y hy=> ?_⟩;obtain ⟨q,hq,rfl⟩:=List.mem_map.1 hx;obtain ⟨z,hz1,e⟩:=h2 q hq;rw [List.mem_singleton] at hy;rw [hy,e];intro q;have q:z.f0=l[i].f0:=q;rw [←List.take_append_drop i l,List.drop_eq_getElem_cons hlt,List.map_append,List.nodup_append] at hn;refine hn.2.2 z.f0 (List.mem_map_of_mem hz1) l[i].f0 ?_ q;rw [List.map_cons];exact List.mem_cons_self) (fun x hx=>by
      rcases List.mem_append.1 hx with hx|hx
      · exact ht x hx
      rw [List.mem_singleton] at hx;exact ⟨l[i],by rw [List.take_succ_eq_append_getElem hlt];exact List.mem_append_right _ (List.mem_singleton.2 rfl),hx⟩)
    refine ⟨m,k1,Ev.step (fun k=>law18_Live.l0.eq_2 (k:=k) ..) (Ev.congr (fun k=>by rw [if_pos (by omega),if_pos c,if_pos (by omega),if_pos (by omega),e1,rd_itemN l hlt];rfl) k2)⟩
theorem liveM_ev {ns:List Int} {l:List Item} (hev:Ev (fun k=>law12_Make.f k ns) l) (M:MadeP l) (a:Int): ∃m,LiveM l m∧Ev (fun k=>law18_Live.f k ns a) (m,l):=by
 have hlen:=M.len
 obtain ⟨m,h1,h2⟩:=live_l0N (l:=l) (by omega) M.right.nodup (fun x hx e=>by
  obtain ⟨c,_,_,h⟩:=M.name x hx;rw [e] at h;have:=congrArg ByteArray.size h
  rw [show (one c).size=1 from strOfNums_size _] at this;exact absurd this (by decide)) a l.length 0 [] (by omega) (by omega) (by simp) (by simp) (by simp)
 refine ⟨m,h1, ?_⟩;unfold law18_Live.f;exact Ev.bind hev h2
end Go.Proofs.Ytahidkjncljkaaa.Print

namespace Go.Proofs.Ytahidkjncljkaaa.Print
open Go.RowKit Go.Proofs.YtahidkjncljkaaaW.PrintWords Go.Proofs.YtahidkjncljkaaaW.PrintLast
def upM (p:Nat→Bool):Nat→Bool
 |0=>true
 |n+1=>p n && upM p n
theorem upM_all {p:Nat→Bool}: ∀{n i:Nat},upM p n=true→i<n→p i=true
  | n + 1, i, h, hi => by
    unfold upM at h;rw [Bool.and_eq_true] at h;by_cases e:i=n
    · rw [e];exact h.1
    exact upM_all h.2 (by omega)
def nmM (i:Nat):ByteArray:=⟨#[UInt8.ofNat (97+(i*7) % 24)]⟩
theorem nmM_strs:upM (fun i=>decide (strOfNums [(wrap64 (97+(Int.tmod (wrap64 ((i:Int)*7)) 24))) % 256]=nmM i)) 24=true:=by kernel_rfl
theorem nmM_str {i:Nat} (h:i<24):strOfNums [(wrap64 (97+(Int.tmod (wrap64 ((i:Int)*7)) 24))) % 256]=nmM i:=by
 have:=upM_all nmM_strs h
 rwa [decide_eq_true_iff] at this
theorem nmM_injs:upM (fun i=>upM (fun j=>decide (nmM i≠nmM j∨i=j)) 24) 24=true:=by kernel_rfl
theorem nmM_inj {i j:Nat} (hi:i<24) (hj:j<24) (h:nmM i=nmM j):i=j:=by
 have a:upM (fun j=>decide (nmM i≠nmM j∨i=j)) 24=true:=upM_all (p:=fun i=>upM (fun j=>decide (nmM i≠nmM j∨i=j)) 24) nmM_injs hi;have:=upM_all a hj
 rw [decide_eq_true_iff] at this;exact this.resolve_left (fun q=>q h)
theorem nmM_ne (i:Nat):nmM i≠⟨#[]⟩:=fun h=>by
 have:=congrArg ByteArray.size h
 cases this
theorem nmM_size (i:Nat):(nmM i).size=1:=rfl
theorem sumGo_snoc (n:ByteArray) (w:Want): ∀(l:List Want) (v:Vec),sumGo n (l++ [w]) v=if w.f1=n then vadd (sumGo n l v) w.f2 else sumGo n l v
  |[],v=>by simp only [List.nil_append,sumGo]
  | x :: l, v => by
    rw [List.cons_append];unfold sumGo;exact sumGo_snoc n w l _
theorem sumGo_zero (n:ByteArray): ∀(l:List Want) (v:Vec),(∀x∈l,x.f1≠n)→sumGo n l v=v
  |[],v,_=>rfl
  | x :: l, v, h => by
    unfold sumGo;rw [if_neg (h x (by simp))];exact sumGo_zero n l v (fun y hy=>h y (by simp [hy]))
structure MkI (c:Bool) (l:List Want) (left:List Int):Prop where
 len:left.length=l.length
 n24:l.length≤24
 nm: ∀(i:Nat) (w:Want),l[i]?=some w→w.f0=nmM i
 par: ∀(i:Nat) (w:Want),l[i]?=some w→w.f1=⟨#[]⟩∨ ∃p,p<i∧w.f1=nmM p
 may: ∀w∈l,MayP w.f2
 lo: ∀(i:Nat) (x:Int),left[i]?=some x→0≤x∧x≤8193
 sum:c=false→ ∀(i:Nat) (w:Want) (x:Int),l[i]?=some w→left[i]?=some x→ ∀o:Comp,o.of (sumW l w.f0)+x≤o.of w.f2
theorem mkI_nil (c:Bool):MkI c [] []:=⟨rfl,Nat.zero_le _,(fun i w h=>by simp at h),(fun i w h=>by simp at h),(fun w h=>by simp at h),(fun i x h=>by simp at h),(fun _ i w x h=>by simp at h)⟩
theorem snoc_get {α:Type} {l:List α} {a w:α} {i:Nat} (h:(l++ [a])[i]?=some w):(l[i]?=some w∧i<l.length)∨(i=l.length∧w=a):=by
  by_cases c:i<l.length
  · rw [List.getElem?_append_left c] at h
    exact .inl ⟨h,c⟩
  rw [List.getElem?_append_right (by omega)] at h
  have hi:i - l.length=0:=by
    have:=(List.getElem?_eq_some_iff.1 h).1
    simp only [List.length_singleton] at this
    omega
  rw [hi] at h;simp only [List.getElem?_cons_zero,Option.some.injEq] at h;exact .inr ⟨by omega,h.symm⟩
theorem mk_add {c:Bool} {l:List Want} {left left1:List Int} (I:MkI c l left) (h:l.length<24) {lim b:Int} (hl:0≤lim∧lim≤8193) (hb:b=0∨b=1) {par:ByteArray} (hlen:left1.length=left.length) (hp:par=⟨#[]⟩∨ ∃p,p<l.length∧par=nmM p)
    (hlo: ∀(i:Nat) (x:Int),left1[i]?=some x→0≤x∧x≤8193) (hs:c=false→ ∀(i:Nat) (x1:Int),left1[i]?=some x1→ ∃x,left[i]?=some x∧x1≤x∧(par=nmM i→x1+lim≤x)):MkI c (l++ [⟨nmM l.length,par,⟨lim,lim,lim - lim / 3*b⟩⟩]) (left1++ [lim - lim / 3]) where
  len:=by rw [List.length_append,List.length_append,hlen,I.len];rfl
  n24:=by rw [List.length_append,List.length_singleton];omega
  nm:=fun i w q=>by
    rcases snoc_get q with ⟨q,_⟩|⟨rfl,rfl⟩
    · exact I.nm i w q
    rfl
  par:=fun i w q=>by
    rcases snoc_get q with ⟨q,_⟩|⟨rfl,rfl⟩
    · exact I.par i w q
    exact hp
  may:=fun w q=>by
    rcases List.mem_append.1 q with q|q
    · exact I.may w q
    rw [List.mem_singleton] at q;subst q;rw [mayP_iff]
    rcases hb with rfl|rfl<;>omega
  lo:=fun i x q=>by
    rcases snoc_get q with ⟨q,_⟩|⟨rfl,rfl⟩
    · exact hlo i x q
    omega
  sum:=fun hc i w x q1 q2 o=>by
    have e:sumW (l++ [⟨nmM l.length,par,⟨lim,lim,lim - lim / 3*b⟩⟩]) w.f0=if par=w.f0 then vadd (sumW l w.f0) ⟨lim,lim,lim - lim / 3*b⟩ else sumW l w.f0:=sumGo_snoc _ _ _ _
    have hv:o.of (⟨lim,lim,lim - lim / 3*b⟩:Vec)≤lim∧lim - lim / 3≤o.of (⟨lim,lim,lim - lim / 3*b⟩:Vec):=by
      cases o<;>simp only [Comp.of]<;>rcases hb with rfl|rfl<;>omega
    rcases snoc_get q1 with ⟨q1,hi⟩|⟨rfl,rfl⟩
    · rcases snoc_get q2 with ⟨q2, _⟩ | ⟨rfl, _⟩
      rotate_left
      · rw [hlen,I.len] at hi;omega
      obtain ⟨x0,g1,g2,g3⟩:=hs hc i x q2
      have g:=I.sum hc i w x0 q1 g1 o
      rw [e]
      by_cases d:par=w.f0
      rotate_left
      · rw [if_neg d];omega
      have:=g3 (by rw [d];exact I.nm i w q1)
      rw [if_pos d,of_vadd]
      omega
    rcases snoc_get q2 with ⟨q2,hi⟩|⟨_,rfl⟩
    · rw [hlen,I.len] at hi;omega
    have z:sumW l (nmM l.length)=⟨0,0,0⟩:=sumGo_zero _ _ _ (fun y hy=>by
      obtain ⟨i,hi,rfl⟩:=List.getElem_of_mem hy
      rcases I.par i l[i] (List.getElem?_eq_getElem hi) with q|⟨p,hp,q⟩
      · rw [q];exact fun k=>nmM_ne _ k.symm
      rw [q];exact fun k=>by have:=nmM_inj (by omega) (by omega) k;omega)
    have e2: ¬par=nmM l.length:=fun k=>by
      rcases hp with q|⟨p,hp,q⟩
      · rw [q] at k;exact nmM_ne _ k.symm
      rw [q] at k;have:=nmM_inj (by omega) (by omega) k;omega
    rw [e]
    show o.of (if par=nmM l.length then _ else sumW l (nmM l.length))+_≤_
    rw [if_neg e2,z];have:o.of (⟨0,0,0⟩:Vec)=0:=by cases o<;>rfl
    show _≤o.of (⟨lim,lim,lim - lim / 3*b⟩:Vec)
    omega
theorem mk_root {c:Bool} {l:List Want} {left:List Int} (I:MkI c l left) (h:l.length<24) {lim b:Int} (hl:0≤lim∧lim≤8193) (hb:b=0∨b=1):MkI c (l++ [⟨nmM l.length,⟨#[]⟩,⟨lim,lim,lim - lim / 3*b⟩⟩]) (left++ [lim - lim / 3]):=
 mk_add I h hl hb rfl (.inl rfl) I.lo (fun _ i x q=>⟨x,q,Int.le_refl _,fun k=>absurd k.symm (nmM_ne i)⟩)
theorem mk_kid {c:Bool} {l:List Want} {left:List Int} (I:MkI c l left) (h:l.length<24) {lim b:Int} (hl:0≤lim∧lim≤8193) (hb:b=0∨b=1) {p:Nat} (hp:p<l.length) {x q:Int} (hx:left[p]?=some x) (hq:0≤q∧q≤x) (hc:c=false→lim=q):
    MkI c (l++ [⟨nmM l.length,nmM p,⟨lim,lim,lim - lim / 3*b⟩⟩]) (left.set p (x - q)++ [lim - lim / 3]):=by
  have hpl:p<left.length:=by rw [I.len];exact hp
  have g:=I.lo p x hx;refine mk_add I h hl hb (List.length_set ..) (.inr ⟨p,hp,rfl⟩) (fun i y hy=> ?_) (fun hc' i y hy=> ?_)
  · rw [List.getElem?_set] at hy
    by_cases e:p=i
    · rw [if_pos e, if_pos hpl] at hy
      obtain rfl:=Option.some.inj hy
      omega
    rw [if_neg e] at hy
    exact I.lo i y hy
  rw [List.getElem?_set] at hy;by_cases e:p=i
  · rw [if_pos e, if_pos hpl] at hy
    obtain rfl:=Option.some.inj hy
    subst e
    have:=hc hc'
    exact ⟨x,hx,by omega,fun _=>by omega⟩
  rw [if_neg e] at hy;refine ⟨y,hy,Int.le_refl _,fun k=> ?_⟩;have hi:=(List.getElem?_eq_some_iff.1 hy).1;exact absurd (nmM_inj (by omega) (by rw [I.len] at hi;omega) k) e
theorem mk_look {c:Bool} {l:List Want} {left:List Int} (I:MkI c l left) {i:Nat} {w:Want} (h:l[i]?=some w):lookW l (nmM i)=some w:=by
  obtain ⟨hi,rfl⟩:=List.getElem?_eq_some_iff.1 h
  have hn:=I.nm i _ h
  cases e:lookW l (nmM i) with
  |none=>exact absurd hn (lookW_none.1 e _ (List.getElem_mem hi))
  | some x =>
    obtain ⟨hm,hf⟩:=lookW_mem e
    obtain ⟨j,hj,rfl⟩:=List.getElem_of_mem hm
    have:=I.nm j _ (List.getElem?_eq_getElem hj)
    rw [this] at hf
    have:=nmM_inj (by have:=I.n24;omega) (by have:=I.n24;omega) hf
    subst this
    rfl
theorem mk_parW {c:Bool} {l:List Want} {left:List Int} (I:MkI c l left):ParW l:=by
  refine ⟨fun w hw=> ?_,fun w hw e=> ?_⟩
  · obtain ⟨i, hi, rfl⟩ := List.getElem_of_mem hw
    rw [I.nm i _ (List.getElem?_eq_getElem hi)]
    exact nmM_ne i
  obtain ⟨i,hi,rfl⟩:=List.getElem_of_mem hw
  rcases I.par i _ (List.getElem?_eq_getElem hi) with q|⟨p,hp,q⟩
  · exact absurd q e
  rw [q];exact ⟨_,mk_look I (List.getElem?_eq_getElem (show p<l.length by omega))⟩
theorem mk_chain {c:Bool} {l:List Want} {left:List Int} (I:MkI c l left): ∀(n i:Nat) (hi:i<l.length),i<n→ ∃us,ChainW l (nmM i) (nmM i::us)
  | n + 1, i, hi, hn => by
    have hl:=mk_look I (List.getElem?_eq_getElem hi)
    rcases I.par i _ (List.getElem?_eq_getElem hi) with q|⟨p,hp,q⟩
    · exact ⟨[],chainW_cons hl (by rw [q];exact chainW_nil (mk_parW I).root)⟩
    obtain ⟨us,k⟩:=mk_chain I n p (by omega) (by omega);exact ⟨_,chainW_cons hl (by rw [q];exact k)⟩
theorem mk_nodup {c:Bool} {l:List Want} {left:List Int} (I:MkI c l left):(l.map (·.f0)).Nodup:=by
 rw [List.nodup_iff_pairwise_ne,List.pairwise_iff_getElem];intro i j hi hj hij;rw [List.length_map] at hi hj;rw [List.getElem_map,List.getElem_map,I.nm i _ (List.getElem?_eq_getElem hi),I.nm j _ (List.getElem?_eq_getElem hj)];have:=I.n24
 exact fun k=>by have:=nmM_inj (by omega) (by omega) k;omega
theorem mk_tree {c:Bool} {l:List Want} {left:List Int} (I:MkI c l left):TreeW l where
 len:=by have:=I.n24;omega
 may:=fun w hw=>mayW_iff.2 ⟨by
  obtain ⟨i,hi,rfl⟩:=List.getElem_of_mem hw;rw [I.nm i _ (List.getElem?_eq_getElem hi)];exact ⟨nmM_ne i,by rw [nmM_size];omega⟩,I.may w hw⟩
 nodup:=mk_nodup I
 par:=mk_parW I
 dep:=fun w hw=>by
  obtain ⟨i,hi,rfl⟩:=List.getElem_of_mem hw;obtain ⟨us,k⟩:=mk_chain I (i+1) i hi (by omega);rw [I.nm i _ (List.getElem?_eq_getElem hi),depR_chain (mk_parW I) k,List.length_cons]
  omega
theorem mk_small {c:Bool} {l:List Want} {left:List Int} (I:MkI c l left):smallW l:=fun w hw=>by
  obtain ⟨i,hi,rfl⟩:=List.getElem_of_mem hw;refine ⟨?_, ?_⟩
  · rw [I.nm i _ (List.getElem?_eq_getElem hi),nmM_size];omega
  rcases I.par i _ (List.getElem?_eq_getElem hi) with q|⟨p,hp,q⟩
  · rw [q];decide
  rw [q,nmM_size];omega
theorem mk_check {l:List Want} {left:List Int} (I:MkI false l left):checkR l=0:=by
 rw [checkR_of (mk_tree I),if_neg];rw [any_false];intro w hw;obtain ⟨i,hi,rfl⟩:=List.getElem_of_mem hw;have h2:i<left.length:=by rw [I.len];exact hi
 have lo:=I.lo i _ (List.getElem?_eq_getElem h2)
 have:LeP (sumW l l[i].f0) l[i].f2:=fun o=>by
  have:=I.sum rfl i _ _ (List.getElem?_eq_getElem hi) (List.getElem?_eq_getElem h2) o
  omega
 rw [decide_eq_true this]
 rfl
theorem lims_eq {lim x:Int} (hl:0≤lim∧lim≤8193) (hx:0≤x∧x≤255): ∃b:Int,(b=0∨b=1)∧wrap64 (lim - (wrap64 ((wrap64 (Int.tdiv lim 3))*(wrap64 (Int.tmod x 2)))))=lim - lim / 3*b∧wrap64 (lim - (wrap64 (Int.tdiv lim 3)))=lim - lim / 3:=by
  have e1:Int.tdiv lim 3=lim / 3:=Int.tdiv_eq_ediv_of_nonneg hl.1
  have e2:Int.tmod x 2=x % 2:=Int.tmod_eq_emod_of_nonneg hx.1
  rw [e1,e2,w64 (n:=lim / 3) (by omega) (by omega),w64 (n:=x % 2) (by omega) (by omega),w64 (n:=lim - lim / 3) (by omega) (by omega)]
  refine ⟨x % 2,by omega, ?_,rfl⟩
  rcases (show x % 2=0∨x % 2=1 by omega) with q|q
  · rw [q,Int.mul_zero,w64 (n:=0) (by omega) (by omega),w64 (by omega) (by omega)]
  rw [q,Int.mul_one,w64 (n:=lim / 3) (by omega) (by omega),w64 (by omega) (by omega)]
theorem rd_nat (l:List Int) {i:Nat} (h:i<l.length):rd l (i:Int)=l[i]:=by
 unfold rd;rw [Int.toNat_natCast,List.getD_eq_getElem?_getD,List.getElem?_eq_getElem h,Option.getD_some]
theorem mkE1:wrap64 ((wrap64 (4096*2))+1)=8193:=by unfold wrap64;rfl
theorem make_go {ns:List Int} {c:Bool} (hns:ns.length≤60) (hb: ∀x∈ns,0≤x∧x≤255): ∀(d j:Nat) (l:List Want) (left:List Int),ns.length - 2*j≤d→2*j≤ns.length+1→MkI c l left→ ∃r left',Ev (fun k=>law11_Make.l0 k ns c l left ((2*j:Nat):Int)) r∧MkI c r left'
  | d, j, l, left, hd, hj, I => by
    have e1:wrap64 (((2*j:Nat):Int)+1)=((2*j+1:Nat):Int):=by rw [w64 (by omega) (by omega)];rfl
    have e3:wrap64 (((2*j:Nat):Int)+2)=((2*(j+1):Nat):Int):=by rw [w64 (by omega) (by omega)];omega
    by_cases h:2*j+1<ns.length∧l.length<24;rotate_left
    · have stop : Ev (fun k => law11_Make.j1 k ns c l left ((2 * j : Nat) : Int) false) l := Ev.step (fun k => law11_Make.j1.eq_2 (k := k) ..) (Ev.congr (fun k => if_neg (by simp)) (Ev.now _))
      refine ⟨l,left,Ev.step (fun k=>law11_Make.l0.eq_2 (k:=k) ..) ?_,I⟩
      by_cases a:2*j+1<ns.length
      · refine Ev.congr (fun k => ?_) stop
        rw [e1,if_pos (show ((2*j+1:Nat):Int)<(ns.length:Int) by omega),decide_eq_false (show¬(l.length:Int)<24 by omega)]
      refine Ev.congr (fun k=> ?_) stop
      rw [e1,if_neg (show¬((2*j+1:Nat):Int)<(ns.length:Int) by omega)]
    obtain ⟨h1,h24⟩:=h
    match d,hd with
    |0,hd=>omega
    |d+1,hd=>
    have IH:=make_go (c:=c) hns hb d (j+1);obtain ⟨x,hx⟩: ∃x,x=ns[2*j]:=⟨_,rfl⟩;obtain ⟨y,hy⟩: ∃y,y=ns[2*j+1]:=⟨_,rfl⟩;have bx:=hb x (by rw [hx];exact List.getElem_mem _);have by':=hb y (by rw [hy];exact List.getElem_mem _);have rx:rd ns ((2*j:Nat):Int)=x:=by rw [rd_nat ns (by omega),hx]
    have ry:rd ns ((2*j+1:Nat):Int)=y:=by rw [rd_nat ns h1,hy]
    have wx:wrap64 x=x:=w64 (by omega) (by omega);have hnm:=nmM_str h24;have hlen:=I.len;have c1:(0:Int)≤((2*j:Nat):Int):=by omega
    have c2:((2*j:Nat):Int)<(ns.length:Int):=by omega
    have c3:(0:Int)≤((2*j+1:Nat):Int):=by omega
    have c4:((2*j+1:Nat):Int)<(ns.length:Int):=by omega
    have g1:l.length<2513169434916:=by omega
    have g2:left.length<17592186044416:=by omega
    have leaf: ∀(L:Int) (par:ByteArray) (left1:List Int),0≤L∧L≤8193→(∀b:Int,(b=0∨b=1)→MkI c (l++ [⟨nmM l.length,par,⟨L,L,L - L / 3*b⟩⟩]) (left1++ [L - L / 3]))→
        ∃r left',Ev (fun k=>law11_Make.l0 k ns c (l++ [⟨nmM l.length,par,⟨L,L,wrap64 (L - (wrap64 ((wrap64 (Int.tdiv L 3))*(wrap64 (Int.tmod y 2)))))⟩⟩]) (left1++ [wrap64 (L - (wrap64 (Int.tdiv L 3)))]) ((2*(j+1):Nat):Int)) r∧MkI c r left':=fun L par left1 hL k=>by
      obtain ⟨b,hbb,q1,q2⟩:=lims_eq hL by'
      rw [q1,q2]
      exact IH _ _ (by omega) (by omega) (k b hbb)
    have root: ∃r left',Ev (fun k=>law11_Make.j2 k ns c l left ((2*j:Nat):Int) (l.length:Int) x 4096 false (nmM l.length) ⟨#[]⟩ 4096 4096 4096) r∧MkI c r left':=by
      have lo:=leaf 4096 ⟨#[]⟩ left (by omega) (fun b hbb=>mk_root I h24 (by omega) hbb);have hi:=leaf 8193 ⟨#[]⟩ left (by omega) (fun b hbb=>mk_root I h24 (by omega) hbb)
      cases hc:c with
      | true =>
        subst hc;by_cases m:Int.tmod y 16=0
        · obtain ⟨r, left', ev, I'⟩ := hi
          refine ⟨r,left',Ev.step (fun k=>law11_Make.j2.eq_2 (k:=k) ..) (Ev.congr (fun k=> ?_) ev),I'⟩
          rw [if_neg (by simp),if_pos rfl,e1,if_pos c3,if_pos c4,ry,if_pos m,if_pos g1,if_pos g2,mkE1,e3]
        obtain ⟨r,left',ev,I'⟩:=lo;refine ⟨r,left',Ev.step (fun k=>law11_Make.j2.eq_2 (k:=k) ..) (Ev.congr (fun k=> ?_) ev),I'⟩;rw [if_neg (by simp),if_pos rfl,e1,if_pos c3,if_pos c4,ry,if_neg m,if_pos g1,if_pos g2,e3]
      | false =>
        subst hc;obtain ⟨r,left',ev,I'⟩:=lo;refine ⟨r,left',Ev.step (fun k=>law11_Make.j2.eq_2 (k:=k) ..) (Ev.congr (fun k=> ?_) ev),I'⟩;rw [if_neg (by simp),if_neg (by simp),e1,if_pos c3,if_pos c4,ry,if_pos g1,if_pos g2,e3]
    have kid:0<l.length→ ∃r left',Ev (fun k=>law11_Make.j2 k ns c l left ((2*j:Nat):Int) (l.length:Int) x 4096 true (nmM l.length) ⟨#[]⟩ 4096 4096 4096) r∧MkI c r left':=fun h0=>by
      obtain ⟨p,hp,hpl⟩: ∃p:Nat,Int.tmod (wrap64 (Int.tdiv x 3)) (l.length:Int)=(p:Int)∧p<l.length:=by
        have q1:Int.tdiv x 3=x / 3:=Int.tdiv_eq_ediv_of_nonneg bx.1;rw [q1,w64 (n:=x / 3) (by omega) (by omega),Int.tmod_eq_emod_of_nonneg (by omega)];have a:=Int.emod_nonneg (x / 3) (show (l.length:Int)≠0 by omega);have b:=Int.emod_lt_of_pos (x / 3) (show (0:Int)<l.length by omega);exact ⟨(x / 3 % (l.length:Int)).toNat,by omega,by omega⟩
      have hpf:p<left.length:=by omega
      obtain ⟨f,hf⟩: ∃f,f=left[p]:=⟨_,rfl⟩;have rf:rd left (p:Int)=f:=by rw [rd_nat left hpf,hf]
      have hg:left[p]?=some f:=by rw [List.getElem?_eq_getElem hpf,hf]
      have bf:=I.lo p f hg;have q1:wrap64 (Int.tdiv f 2)=f / 2:=by rw [Int.tdiv_eq_ediv_of_nonneg bf.1,w64 (by omega) (by omega)]
      have q2:wrap64 (f - f / 2)=f - f / 2:=w64 (by omega) (by omega);have q3:wrap64 (wrap64 (f / 2*2)+1)=f / 2*2+1:=by rw [w64 (n:=f / 2*2) (by omega) (by omega),w64 (by omega) (by omega)]
      have rn:(rd_T39 l (p:Int)).f0=nmM p:=by rw [rd_wantN l hpl];exact I.nm p _ (List.getElem?_eq_getElem hpl)
      have d1: ¬(l.length:Int)=0:=by omega
      have d2:(0:Int)≤(p:Int):=by omega
      have d3:(p:Int)<(l.length:Int):=by omega
      have d4:(p:Int)<(left.length:Int):=by omega
      have g3:(left.set p (f - f / 2)).length<17592186044416:=by rw [List.length_set];exact g2
      have lo:=leaf (f / 2) (nmM p) (left.set p (f - f / 2)) (by omega) (fun b hbb=>mk_kid I h24 (by omega) hbb hpl hg (by omega) (fun _=>rfl))
      cases hc:c with
      | true =>
        have hi:=leaf (f / 2*2+1) (nmM p) (left.set p (f - f / 2)) (by omega) (fun b hbb=>mk_kid I h24 (by omega) hbb hpl hg (by omega) (fun e=>by rw [hc] at e;cases e));subst hc;by_cases m:Int.tmod y 16=0
        · obtain ⟨r, left', ev, I'⟩ := hi
          refine ⟨r,left',Ev.step (fun k=>law11_Make.j2.eq_2 (k:=k) ..) (Ev.congr (fun k=> ?_) ev),I'⟩
          rw [if_pos rfl,if_neg d1,hp,if_pos d2,if_pos d3,if_pos d4,Option.bind_some,if_pos rfl,e1,if_pos c3,if_pos c4,ry,if_pos m,if_pos g1,rf,q1,q2,Int.toNat_natCast,if_pos g3,q3,rn,e3]
        obtain ⟨r,left',ev,I'⟩:=lo;refine ⟨r,left',Ev.step (fun k=>law11_Make.j2.eq_2 (k:=k) ..) (Ev.congr (fun k=> ?_) ev),I'⟩;rw [if_pos rfl,if_neg d1,hp,if_pos d2,if_pos d3,if_pos d4,Option.bind_some,if_pos rfl,e1,if_pos c3,if_pos c4,ry,if_neg m,if_pos g1,rf,q1,q2,Int.toNat_natCast,if_pos g3,rn,e3]
      | false =>
        subst hc;obtain ⟨r,left',ev,I'⟩:=lo;refine ⟨r,left',Ev.step (fun k=>law11_Make.j2.eq_2 (k:=k) ..) (Ev.congr (fun k=> ?_) ev),I'⟩;rw [if_pos rfl,if_neg d1,hp,if_pos d2,if_pos d3,if_pos d4,Option.bind_some,if_neg (by simp),e1,if_pos c3,if_pos c4,ry,if_pos g1,rf,q1,q2,Int.toNat_natCast,if_pos g3,rn,e3]
    have fin: ∃r left',Ev (fun k=>law11_Make.j1 k ns c l left ((2*j:Nat):Int) true) r∧MkI c r left':=by
      by_cases h0:0<l.length;rotate_left
      · obtain ⟨r, left', ev, I'⟩ := root
        refine ⟨r,left',Ev.step (fun k=>law11_Make.j1.eq_2 (k:=k) ..) (Ev.congr (fun k=> ?_) ev),I'⟩
        rw [if_pos rfl,if_pos c1,if_pos c2,Option.bind_some,if_neg (by omega),rx,wx,hnm]
      by_cases t:Int.tmod x 3>0
      · obtain ⟨r, left', ev, I'⟩ := kid h0
        refine ⟨r,left',Ev.step (fun k=>law11_Make.j1.eq_2 (k:=k) ..) (Ev.congr (fun k=> ?_) ev),I'⟩
        rw [if_pos rfl,if_pos c1,if_pos c2,Option.bind_some,if_pos (by omega),rx,wx,hnm,decide_eq_true t]
      obtain ⟨r,left',ev,I'⟩:=root;refine ⟨r,left',Ev.step (fun k=>law11_Make.j1.eq_2 (k:=k) ..) (Ev.congr (fun k=> ?_) ev),I'⟩;rw [if_pos rfl,if_pos c1,if_pos c2,Option.bind_some,if_pos (by omega),rx,wx,hnm,decide_eq_false t]
    obtain ⟨r,left',ev,I'⟩:=fin;refine ⟨r,left',Ev.step (fun k=>law11_Make.l0.eq_2 (k:=k) ..) (Ev.congr (fun k=> ?_) ev),I'⟩;rw [e1,if_pos c4,decide_eq_true (show (l.length:Int)<24 by omega)]
theorem make_ev {ns:List Int} (c:Bool) (hns:ns.length≤60) (hb: ∀x∈ns,0≤x∧x≤255): ∃r left,Ev (fun k=>law11_Make.f k ns c) r∧MkI c r left:=
 make_go hns hb ns.length 0 [] [] (by omega) (by omega) (mkI_nil c)
end Go.Proofs.Ytahidkjncljkaaa.Print

namespace Go.Proofs.Ytahidkjncljkaaa.Print
open Go.RowKit Go.Proofs.YtahidkjncljkaaaW.PrintWords Go.Proofs.YtahidkjncljkaaaW.PrintLast Go.Proofs.YtahidkjncljkaaaW.PrintMore
theorem pe_u8 {x:Int} (h:(Lit.int .u8 x).wf=true):0≤x∧x≤255:=by
 simp only [Lit.wf,Bool.and_eq_true,decide_eq_true_eq] at h;obtain ⟨h1,h2⟩:=h;exact ⟨h1,h2⟩
def looseM (l:List Item):List PMark:=l.map markI
theorem pe_loose_l0 {l:List Item} (hl:l.length≤1000): ∀(d i:Nat),l.length - i=d→i≤l.length→Ev (fun k=>law18_Loose.l0 k l (looseM (l.take i)) (i:Int)) (looseM l)
  | 0, i, hd, hi => by
    obtain rfl:i=l.length:=by omega
    refine Ev.step (fun k=>law18_Loose.l0.eq_2 (k:=k) ..) (Ev.congr (fun k=>if_neg (by omega)) ?_);rw [List.take_length];exact Ev.now _
  | d + 1, i, hd, hi => by
    have hlt:i<l.length:=by omega
    have e1:wrap64 ((i:Int)+1)=((i+1:Nat):Int):=by rw [w64 (by omega) (by omega)];rfl
    have next:=pe_loose_l0 hl d (i+1) (by omega) (by omega);unfold looseM at next;rw [List.take_succ_eq_append_getElem hlt,List.map_append] at next;refine Ev.step (fun k=>law18_Loose.l0.eq_2 (k:=k) ..) (Ev.congr (fun k=>by rw [if_pos (by omega),if_pos (by omega),if_pos (by unfold looseM;rw [List.length_map,List.length_take];omega),rd_itemN l hlt,e1];rfl) next)
theorem pe_loose {l:List Item} (hl:l.length≤1000):Ev (fun k=>law18_Loose.f k l) (looseM l):=by
 unfold law18_Loose.f;have:=pe_loose_l0 hl l.length 0 (by omega) (by omega)
 rw [List.take_zero] at this;exact this
theorem pe_ready_l0 {ws T:List Want} (hT:T.length≤1000): ∀(d i:Nat) (l:List Item),T.length - i=d→i≤T.length→RightP l→ ∃L,RightP L∧Ev (fun k=>law18_ready.l0 k ws l T (i:Int)) (looseM L,L,ws)
  | 0, i, l, hd, hi, hl => by
    obtain rfl:i=T.length:=by omega
    have:=hl.len
    refine ⟨l,hl,Ev.step (fun k=>law18_ready.l0.eq_2 (k:=k) ..) (Ev.congr (fun k=>if_neg (by omega)) ?_)⟩
    exact Ev.bind (pe_loose (by omega)) (Ev.now _)
  | d + 1, i, l, hd, hi, hl => by
    have hlt:i<T.length:=by omega
    have:=hl.len
    have e1:wrap64 ((i:Int)+1)=((i+1:Nat):Int):=by rw [w64 (by omega) (by omega)];rfl
    have hr:RightP (creR l T[i].f0 T[i].f1 T[i].f2).1:=by
      by_cases c:(creR l T[i].f0 T[i].f1 T[i].f2).2=0
      · obtain ⟨e, h, _⟩ := creR_right hl c
        rw [e];exact h
      have:(creR l T[i].f0 T[i].f1 T[i].f2).1=[]:=by
        unfold creR at c ⊢
        split
        · rfl
        split
        · rfl
        split
        · rfl
        split
        · rfl
        rename_i h1 h2 h3 h4
        rw [if_neg h1,if_neg h2,if_neg h3,if_neg h4] at c
        exact absurd rfl c
      rw [this];exact right_nil
    obtain ⟨L,h1,h2⟩:=pe_ready_l0 (ws:=ws) hT d (i+1) _ (by omega) (by omega) hr
    refine ⟨L,h1,Ev.step (fun k=>law18_ready.l0.eq_2 (k:=k) ..) (Ev.congr (fun k=>by rw [if_pos (by omega),if_pos (by omega),rd_wantN T hlt,e1]) ?_)⟩
    exact Ev.bind (r10_Create_ev (by omega) _ _ _) h2
theorem pe_ready {ws:List Want} (hw:ws.length≤500): ∃L,RightP L∧Ev (fun k=>law18_ready.f k ws) (looseM L,L,ws):=by
 have hp:=(topR_perm ws).length_eq;obtain ⟨L,h1,h2⟩:=pe_ready_l0 (ws:=ws) (T:=topR ws) (by omega) (topR ws).length 0 [] (by omega) (by omega) right_nil;refine ⟨L,h1, ?_⟩;unfold law18_ready.f;exact Ev.bind (r10_Top_ev (by omega)) h2
theorem loose_nodup {l:List Item} (h:RightP l):((looseM l).map (·.f0)).Nodup:=by
 unfold looseM;rw [List.map_map];exact h.nodup
def inQ (y:Want) (q:PMark):Bool:=q.f0.toList==y.f0.toList
def eqW (a b:Vec):Bool:=(a.f0==b.f0 && (a.f1==b.f1 && (a.f2==b.f2)))
theorem eqW_iff {a b:Vec}:eqW a b=true↔a=b:=by
 obtain ⟨a0,a1,a2⟩:=a;obtain ⟨b0,b1,b2⟩:=b;unfold eqW
 simp
def liveW (l:List Item) (y:Want):Bool:=match look l y.f0 with
 |none=>false
 |some x=>if x.f1=y.f1 then eqW x.f2 y.f2 else false
def asW (l:List Item) (m:List PMark) (y:Want):Bool:=liveW l y && m.any (inQ y)
section
variable {m:List PMark} {l:List Item} {ws:List Want} {s:List PStep}
theorem pe_l1 {j:Nat} (hj:j<ws.length) (hm:m.length≤1000) (hw:ws.length≤1000) {sa r B:Bool} (hr:Ev (fun k=>law18_PlanEmpty.l0 k m l ws s (sa && B) ((j+1:Nat):Int)) r): ∀(d i:Nat) (b:Bool),m.length - i=d→i≤m.length→(b||(m.drop i).any (inQ ws[j]))=B→Ev (fun k=>law18_PlanEmpty.l1 k m l ws s sa (j:Int) b (i:Int)) r
  | 0, i, b, hd, hi, hb => by
    obtain rfl:i=m.length:=by omega
    rw [List.drop_length,List.any_nil,Bool.or_false] at hb;subst hb;have e1:wrap64 ((j:Int)+1)=((j+1:Nat):Int):=by rw [w64 (by omega) (by omega)];rfl
    refine Ev.step (fun k=>law18_PlanEmpty.l1.eq_2 (k:=k) ..) (Ev.congr (fun k=>by rw [if_neg (by omega),e1]) ?_)
    cases sa with
    |true=>exact Ev.congr (fun k=>if_pos rfl) hr
    |false=>exact Ev.congr (fun k=>if_neg (by decide)) hr
  | d + 1, i, b, hd, hi, hb => by
    have hlt:i<m.length:=by omega
    have e1:wrap64 ((i:Int)+1)=((i+1:Nat):Int):=by rw [w64 (by omega) (by omega)];rfl
    rw [List.drop_eq_getElem_cons hlt,List.any_cons] at hb
    cases b with
    |true=>exact Ev.step (fun k=>law18_PlanEmpty.l1.eq_2 (k:=k) ..) (Ev.congr (fun k=>by rw [if_pos (by omega),if_pos rfl,e1]) (pe_l1 hj hm hw hr d (i+1) true (by omega) (by omega) (by rw [Bool.true_or] at hb ⊢;exact hb)))
    | false =>
      rw [Bool.false_or] at hb;exact Ev.step (fun k=>law18_PlanEmpty.l1.eq_2 (k:=k) ..) (Ev.congr (fun k=>by rw [if_pos (by omega),if_neg (by simp),if_pos (by omega),if_pos (by omega),if_pos (by omega),rd_pmarkN m hlt,rd_wantN ws hj,e1];rfl) (pe_l1 hj hm hw hr d (i+1) (inQ ws[j] m[i]) (by omega) (by omega) hb))
theorem pe_l0 (hl:l.length<1000000) (hm:m.length≤1000) (hw:ws.length≤1000) {V:Bool} (hV:((s.length:Int)==0)=V): ∀(d j:Nat) (sa:Bool),ws.length - j=d→j≤ws.length→(sa && (ws.drop j).all (asW l m))=V→Ev (fun k=>law18_PlanEmpty.l0 k m l ws s sa (j:Int)) true
  | 0, j, sa, hd, hj, h => by
    obtain rfl:j=ws.length:=by omega
    rw [List.drop_length,List.all_nil,Bool.and_true] at h;refine Ev.step (fun k=>law18_PlanEmpty.l0.eq_2 (k:=k) ..) (Ev.congr (fun k=>(if_neg (by omega)).trans (if_pos ?_)) awake18_ev);rw [hV,h]
    simp
  | d + 1, j, sa, hd, hj, h => by
    have hlt:j<ws.length:=by omega
    rw [List.drop_eq_getElem_cons hlt,List.all_cons] at h
    have go: ∀sa':Bool,(sa && liveW l ws[j])=sa'→Ev (fun k=>law18_PlanEmpty.j3 k m l ws s sa' (j:Int)) true:=fun sa' e=>by
      refine Ev.step (fun k=>law18_PlanEmpty.j3.eq_2 (k:=k) ..) ?_;refine pe_l1 (B:=m.any (inQ ws[j])) hlt hm hw ?_ m.length 0 false (by omega) (by omega) (by rw [List.drop_zero,Bool.false_or]);refine pe_l0 hl hm hw hV d (j+1) _ (by omega) (by omega) ?_;rw [←h,←e];unfold asW
      cases sa<;>cases liveW l ws[j]<;>simp
    refine Ev.step (fun k=>law18_PlanEmpty.l0.eq_2 (k:=k) ..) (Ev.congr (fun k=>by rw [if_pos (by omega),if_pos (by omega),rd_wantN ws hlt]) ?_);refine Ev.bind (r10_Find_ev l ws[j].f0 hl) ?_
    cases sa with
    |false=>exact Ev.congr (fun k=>if_neg (by decide)) (go false (by rw [Bool.false_and]))
    | true =>
      refine Ev.congr (fun k=>if_pos rfl) ?_
      cases e:look l ws[j].f0 with
      | none =>
        have a:=fnd_neg.2 e;exact Ev.congr (fun k=>if_neg (by omega)) (go false (by unfold liveW;rw [e];rfl))
      | some x =>
        have a:=fnd_ge.2 ⟨x,e⟩;have b:=fnd_lt l ws[j].f0;refine Ev.congr (fun k=>by rw [if_pos (show fnd l ws[j].f0≥0 from a),if_pos a,if_pos b,fnd_rd e]) ?_;by_cases c:x.f1=ws[j].f1
        · exact Ev.congr (fun k=>if_pos (nm_inj.2 c)) (go _ (by unfold liveW;rw [e];dsimp only;rw [if_pos c,Bool.true_and];rfl))
        exact Ev.congr (fun k=>if_neg (fun q=>c (nm_inj.1 q))) (go false (by unfold liveW;rw [e];dsimp only;rw [if_neg c];rfl))
theorem free_l1 {j:Nat} (hj:j<ws.length) (hl:l.length<1000000) (hm:m.length≤1000) (hw:ws.length≤1000) {r:Bool} (h1:badW l m ws[j]=true→r=false) (h2:badW l m ws[j]=false→Ev (fun k=>law18_Free.l0 k ws m l ((j+1:Nat):Int)) r): ∀(d i:Nat) (b:Bool),m.length - i=d→i≤m.length→(b||(m.drop i).any (inQ ws[j]))=m.any (inQ ws[j])→Ev (fun k=>law18_Free.l1 k ws m l (j:Int) b (i:Int)) r
  | 0, i, b, hd, hi, hb => by
    obtain rfl:i=m.length:=by omega
    rw [List.drop_length,List.any_nil,Bool.or_false] at hb
    have e1:wrap64 ((j:Int)+1)=((j+1:Nat):Int):=by rw [w64 (by omega) (by omega)];rfl
    have hbad:badW l m ws[j]=((look l ws[j].f0).isSome && !b):=by rw [hb];rfl
    refine Ev.step (fun k=>law18_Free.l1.eq_2 (k:=k) ..) (Ev.congr (fun k=>by rw [if_neg (by omega),e1]) ?_)
    cases b with
    |true=>exact Ev.congr (fun k=>if_pos rfl) (h2 (by rw [hbad];simp))
    | false =>
      refine Ev.congr (fun k=>by rw [if_neg (by decide),if_pos (by omega),if_pos (by omega),rd_wantN ws hj]) (Ev.bind (r10_Find_ev l ws[j].f0 hl) ?_)
      cases e:look l ws[j].f0 with
      | none =>
        have a:=fnd_neg.2 e
        exact Ev.congr (fun k=>if_neg (by omega)) (h2 (by rw [hbad,e];rfl))
      | some x =>
        have a:=fnd_ge.2 ⟨x,e⟩
        rw [h1 (by rw [hbad,e];rfl)]
        exact Ev.congr (fun k=>if_pos a) (Ev.now _)
  | d + 1, i, b, hd, hi, hb => by
    have hlt:i<m.length:=by omega
    have e1:wrap64 ((i:Int)+1)=((i+1:Nat):Int):=by rw [w64 (by omega) (by omega)];rfl
    rw [List.drop_eq_getElem_cons hlt,List.any_cons] at hb
    cases b with
    |true=>exact Ev.step (fun k=>law18_Free.l1.eq_2 (k:=k) ..) (Ev.congr (fun k=>by rw [if_pos (by omega),if_pos rfl,e1]) (free_l1 hj hl hm hw h1 h2 d (i+1) true (by omega) (by omega) (by rw [Bool.true_or] at hb ⊢;exact hb)))
    | false =>
      rw [Bool.false_or] at hb
      exact Ev.step (fun k=>law18_Free.l1.eq_2 (k:=k) ..) (Ev.congr (fun k=>by rw [if_pos (by omega),if_neg (by simp),if_pos (by omega),if_pos (by omega),if_pos (by omega),rd_pmarkN m hlt,rd_wantN ws hj,e1];rfl) (free_l1 hj hl hm hw h1 h2 d (i+1) (inQ ws[j] m[i]) (by omega) (by omega) hb))
theorem free_l0 (hl:l.length<1000000) (hm:m.length≤1000) (hw:ws.length≤1000): ∀(d j:Nat),ws.length - j=d→j≤ws.length→Ev (fun k=>law18_Free.l0 k ws m l (j:Int)) (!(ws.drop j).any (badW l m))
  | 0, j, hd, hj => by
    obtain rfl:j=ws.length:=by omega
    rw [List.drop_length];exact Ev.step (fun k=>law18_Free.l0.eq_2 (k:=k) ..) (Ev.congr (fun k=>if_neg (by omega)) (Ev.now _))
  | d + 1, j, hd, hj => by
    have hlt:j<ws.length:=by omega
    rw [List.drop_eq_getElem_cons hlt,List.any_cons];refine Ev.step (fun k=>law18_Free.l0.eq_2 (k:=k) ..) (Ev.congr (fun k=>if_pos (by omega)) ?_);refine free_l1 hlt hl hm hw (fun q=>by rw [q];rfl) (fun q=> ?_) m.length 0 false (by omega) (by omega) (by rw [List.drop_zero,Bool.false_or]);rw [q,Bool.false_or];exact free_l0 hl hm hw d (j+1) (by omega) (by omega)
theorem free_ev (hl:l.length<1000000) (hm:m.length≤1000) (hw:ws.length≤1000):Ev (fun k=>law18_Free.f k ws m l) (!ws.any (badW l m)):=by
 unfold law18_Free.f;have:=free_l0 hl hm hw ws.length 0 (by omega) (by omega)
 rw [List.drop_zero] at this;exact this
end
theorem wide_same {l:List Item} {m:List PMark}: ∀(ys:List Want) (b wd:Bool),(∀y∈ys,∀x,look l y.f0=some x→x.f1=y.f1)→wideGo l m b ys=some wd→wd=b
  |[],b,wd,_,h=>(Option.some.inj h).symm
  | y :: ys, b, wd, hs, h => by
    rw [wideGo] at h;have ih:=wide_same (l:=l) (m:=m) ys
    cases e:look l y.f0 with
    |none=>rw [e] at h;exact ih b wd (fun z hz=>hs z (List.mem_cons_of_mem _ hz)) h
    | some x =>
      rw [e] at h;dsimp only at h
      split at h
      · cases h
      rw [decide_eq_true (hs y (by simp) x e)] at h;exact ih b wd (fun z hz=>hs z (List.mem_cons_of_mem _ hz)) (by simpa using h)
theorem mx_self (a:Int):mx a a=a:=by unfold mx;split<;>rfl
theorem flat_nil {α β:Type} {f:α→List β} {xs:List α}:xs.flatMap f=[]↔ ∀x∈xs,f x=[]:=List.flatMap_eq_nil_iff
theorem live_parts {l:List Item} {y:Want} (h:liveW l y=true): ∃x,look l y.f0=some x∧x.f1=y.f1∧x.f2=y.f2:=by
  unfold liveW at h
  cases e:look l y.f0 with
  |none=>rw [e] at h;cases h
  | some x =>
    rw [e] at h;dsimp only at h;by_cases c:x.f1=y.f1
    · rw [if_pos c] at h;exact ⟨x,rfl,c,eqW_iff.1 h⟩
    rw [if_neg c] at h;cases h
theorem any_inQ {m:List PMark} {y:Want}:m.any (inQ y)=true↔y.f0∈m.map (·.f0):=by
 rw [List.any_eq_true,List.mem_map];unfold inQ;exact ⟨fun ⟨q,h,e⟩=>⟨q,h,nm_inj.1 (beq_iff_eq.1 e)⟩,fun ⟨q,h,e⟩=>⟨q,h,beq_iff_eq.2 (by rw [e])⟩⟩
theorem pe_iff {ws:List Want} {m:List PMark} {l:List Item} {wd:Bool} (hn:(m.map (·.f0)).Nodup) (hwn:(ws.map (·.f0)).Nodup) (hwd:wideGo l m false (topR ws)=some wd):
    ((((topR ws).flatMap (raiseS l wd)++(topR ws).flatMap (moveS l))++(topR ws).reverse.flatMap (lowerS l wd))++(goesR ws m l).map delS=[])↔(m.length=ws.length∧ ∀y∈ws,asW l m y=true):=by
  have hp:=topR_perm ws
  have hbad: ∀y∈ws,badW l m y=false:=by
    have q:=wideP_none l m (topR ws) false;rw [wide_eq,hwd] at q;intro y hy;have:=(List.any_eq_false.1 q.symm) y (hp.mem_iff.2 hy)
    simpa using this
  have hg:(goesR ws m l).Perm (goneN ws m):=by
    have:=goesGo_perm ws l m []
    rwa [List.nil_append] at this
  have hgone:(goesR ws m l).map delS=[]↔ ∀q∈m,isWant ws q.f0=true:=by
    rw [List.map_eq_nil_iff]
    constructor
    · intro e q hq
      rw [e] at hg
      have e2:=hg.symm.eq_nil
      unfold goneN at e2
      rw [List.map_eq_nil_iff,List.filter_eq_nil_iff] at e2
      simpa using e2 q hq
    intro h
    have e2:goneN ws m=[]:=by
      unfold goneN;rw [List.map_eq_nil_iff,List.filter_eq_nil_iff];intro q hq
      simp [h q hq]
    rw [e2] at hg;exact hg.eq_nil
  have hwant: ∀n,isWant ws n=true↔n∈ws.map (·.f0):=fun n=>by
    unfold isWant;rw [List.any_eq_true,List.mem_map];exact ⟨fun ⟨y,h,e⟩=>⟨y,h,of_decide_eq_true e⟩,fun ⟨y,h,e⟩=>⟨y,h,decide_eq_true e⟩⟩
  rw [List.append_eq_nil_iff,List.append_eq_nil_iff,List.append_eq_nil_iff,hgone,flat_nil,flat_nil,flat_nil]
  constructor
  · rintro ⟨⟨⟨h1, h2⟩, h3⟩, h4⟩
    have key: ∀y∈ws,asW l m y=true:=by
      intro y hy;have hy':=hp.mem_iff.2 hy;have r:=h1 y hy';have mv:=h2 y hy';have lo:=h3 y (List.mem_reverse.2 hy');have bd:=hbad y hy;unfold raiseS at r;unfold moveS at mv;unfold lowerS at lo;unfold badW at bd
      cases e:look l y.f0 with
      |none=>rw [e] at r;cases r
      | some x =>
        rw [e] at r mv bd;dsimp only at r mv;have r': ¬neV x.f2 (upV l wd y)=true:=fun q=>by rw [if_pos q] at r;cases r
        have m':x.f1=y.f1:=by
          by_cases c:x.f1=y.f1
          · exact c
          rw [if_neg c] at mv;cases mv
        have l': ¬neV (upV l wd y) y.f2=true:=fun q=>by rw [if_pos q] at lo;cases lo
        rw [neV_iff] at r' l';have e2:x.f2=y.f2:=(Classical.byContradiction r').trans (Classical.byContradiction l')
        have b2:m.any (inQ y)=true:=by
          have:(m.any (fun m=>m.f0.toList==y.f0.toList))=true:=by simpa using bd
          exact this
        unfold asW liveW;rw [e,b2];dsimp only;rw [if_pos m',eqW_iff.2 e2]
        rfl
    refine ⟨Nat.le_antisymm ?_ ?_,key⟩
    · have:=hn.length_le_of_subset (l₂:=ws.map (·.f0)) (fun n hq=>by
        obtain ⟨q,hq2,rfl⟩:=List.mem_map.1 hq;exact (hwant _).1 (h4 q hq2))
      rwa [List.length_map,List.length_map] at this
    have:=hwn.length_le_of_subset (l₂:=m.map (·.f0)) (fun n hq=>by
      obtain ⟨y,hy,rfl⟩:=List.mem_map.1 hq;have k:=key y hy;unfold asW at k;rw [Bool.and_eq_true] at k;exact any_inQ.1 k.2)
    rwa [List.length_map,List.length_map] at this
  rintro ⟨hlen,key⟩
  have lp: ∀y∈ws,∃x,look l y.f0=some x∧x.f1=y.f1∧x.f2=y.f2:=fun y hy=>by
    have k:=key y hy;unfold asW at k;rw [Bool.and_eq_true] at k;exact live_parts k.1
  have hw0:wd=false:=wide_same (topR ws) false wd (fun y hy x e=>by
    obtain ⟨x',e',h1,_⟩:=lp y (hp.mem_iff.1 hy);rw [e] at e';obtain rfl:=Option.some.inj e';exact h1) hwd
  subst hw0
  have up: ∀y∈ws,∀x,look l y.f0=some x→x.f2=y.f2→upV l false y=y.f2:=fun y hy x e e2=>by
    unfold upV;rw [if_neg (by decide),e];dsimp only;rw [e2,mx_self,mx_self,mx_self]
  refine ⟨⟨⟨fun y hy=> ?_,fun y hy=> ?_⟩,fun y hy=> ?_⟩,fun q hq=> ?_⟩
  · obtain ⟨x, e, h1, h2⟩ := lp y (hp.mem_iff.1 hy)
    unfold raiseS
    rw [e]
    dsimp only
    rw [up y (hp.mem_iff.1 hy) x e h2,if_neg (by rw [neV_iff];simp [h2])]
  · obtain ⟨x, e, h1, h2⟩ := lp y (hp.mem_iff.1 hy)
    unfold moveS
    rw [e]
    dsimp only
    rw [if_pos h1]
  · have hy := hp.mem_iff.1 (List.mem_reverse.1 hy)
    obtain ⟨x,e,h1,h2⟩:=lp y hy
    unfold lowerS
    rw [up y hy x e h2,if_neg (by rw [neV_iff];simp)]
  rw [hwant];refine Classical.byContradiction fun hx=> ?_
  have:=(List.nodup_cons.2 ⟨hx,hwn⟩).length_le_of_subset (l₂:=m.map (·.f0)) (fun n hq'=>by
    rcases List.mem_cons.1 hq' with rfl|hq'
    · exact List.mem_map_of_mem hq
    obtain ⟨y,hy,rfl⟩:=List.mem_map.1 hq';have k:=key y hy;unfold asW at k;rw [Bool.and_eq_true] at k;exact any_inQ.1 k.2)
  rw [List.length_cons,List.length_map,List.length_map] at this
  omega
theorem pe_main {ws:List Want} (hc:checkR ws=0) (hs:smallW ws) (hw:ws.length≤1000) {m:List PMark} {l:List Item} (hl:l.length≤1000) (hm:m.length≤1000) (hn:(m.map (·.f0)).Nodup):Ev (fun k=>law18_PlanEmpty.j1 k m l ws) true:=by
  have hwn:=(checkR_tree (.inl hc)).nodup;refine Ev.step (fun k=>law18_PlanEmpty.j1.eq_2 (k:=k) ..) ?_;rw [plan_Steps_ev hs (by omega) (by omega)];simp only [Option.bind_some]
  cases hwd:wideGo l m false (topR ws) with
  | none =>
    have hp:planR ws m l=([],3):=by
      unfold planR;rw [if_pos hc,hwd]
    have hbad:ws.any (badW l m)=true:=by
      have q:=plan_err hc m l;rw [hp] at q;by_cases c:ws.any (badW l m)=true
      · exact c
      rw [if_neg c] at q;exact absurd q (by decide)
    rw [hp];simp only [Option.bind_some];rw [show law1_Num.f 3=some 3 from rfl];simp only [Option.bind_some];refine Ev.congr (fun k=>if_neg (by decide)) ?_;have hf:=free_ev (ws:=ws) (m:=m) (l:=l) (by omega) hm hw;rw [hbad] at hf;refine Ev.bind hf ?_;exact Ev.congr (fun k=>(if_neg (by decide)).trans (if_pos trivial)) awake18_ev
  | some wd =>
    have hp:planR ws m l=((((topR ws).flatMap (raiseS l wd)++(topR ws).flatMap (moveS l))++(topR ws).reverse.flatMap (lowerS l wd))++(goesR ws m l).map delS,0):=by
      unfold planR;rw [if_pos hc,hwd]
    have key:=pe_iff hn hwn hwd;rw [hp];generalize (((topR ws).flatMap (raiseS l wd)++(topR ws).flatMap (moveS l))++(topR ws).reverse.flatMap (lowerS l wd))++(goesR ws m l).map delS=s at key ⊢;simp only [Option.bind_some];rw [show law1_Num.f 0=some 0 from rfl];simp only [Option.bind_some];refine Ev.congr (fun k=>if_pos trivial) ?_;refine pe_l0 (by omega) hm hw rfl ws.length 0 _ (by omega) (by omega) ?_;rw [List.drop_zero,Bool.eq_iff_iff,Bool.and_eq_true,beq_iff_eq,beq_iff_eq,List.all_eq_true]
    constructor
    · rintro ⟨h1, h2⟩
      rw [key.2 ⟨by omega,h2⟩]
      rfl
    intro h;have h:s=[]:=List.length_eq_zero_iff.1 (by omega);obtain ⟨h1,h2⟩:=key.1 h;exact ⟨by omega,h2⟩
theorem planEmpty_pure:law18_PlanEmpty.Pure:=by
  intro ns ns1 a2 a3 _ _ hw _ _ hw1 _;unfold law18_PlanEmpty.f;have hstop:Ev (fun k=>law18_PlanEmpty.j0 k ns ns1 a2 a3 true) true:=Ev.step (fun k=>law18_PlanEmpty.j0.eq_2 (k:=k) ..) (Ev.congr (fun k=>if_pos rfl) awake18_ev);refine Ev.rounds ?_;by_cases h:(ns.length:Int)>60
  · exact Ev.congr (fun k=>if_pos h) hstop
  refine Ev.congr (fun k=>if_neg h) ?_;by_cases h1:(ns1.length:Int)>60
  · rw [decide_eq_true h1];exact hstop
  rw [decide_eq_false h1];refine Ev.step (fun k=>law18_PlanEmpty.j0.eq_2 (k:=k) ..) (Ev.congr (fun k=>if_neg (by decide)) ?_);obtain ⟨l,hev,M⟩:=made_all (ns:=ns) (fun x hx=>pe_u8 (hw x hx)) (by omega);have hlen:=M.len;obtain ⟨ws,left,ev,I⟩:=make_ev false (ns:=ns1) (by omega) (fun x hx=>pe_u8 (hw1 x hx));obtain ⟨m,L,lev⟩:=liveM_ev hev M a2;have hml:=L.len;have hc:=mk_check I;have hs:=mk_small I;have hwl:=I.n24;refine Ev.bind lev (Ev.bind ev ?_);dsimp only
  cases a3 with
  |false=>exact Ev.congr (fun k=>if_neg (by decide)) (pe_main hc hs (by omega) (by omega) (by omega) L.nodup)
  | true =>
    obtain ⟨R,hR,rev⟩:=pe_ready (ws:=ws) (by omega);have hRl:=hR.len;refine Ev.congr (fun k=>if_pos rfl) (Ev.bind rev ?_);have hLm:(looseM R).length=R.length:=List.length_map _;exact pe_main (m:=looseM R) (l:=R) hc hs (by omega) (by omega) (by omega) (loose_nodup hR)
end Go.Proofs.Ytahidkjncljkaaa.Print
namespace Go.Proofs.Ytahidkjncljkaaa.Pure
open Go.Proofs.Ytahidkjncljkaaa.Print
theorem PlanEmpty:law18_PlanEmpty.Pure:=planEmpty_pure
end Go.Proofs.Ytahidkjncljkaaa.Pure

namespace Go.Proofs.Ytahidkjncljkaaa.Head
def signs:List Char:=(List.map Char.ofNat [104,97,114,110,101,115,115,32,52,48,100,98,98,98,100,57,102,99,56,49,51,57,52,102,98,101,100,54,48,53,102,48,101,50,51,100,52,101,50,55,97,52,48,52,98,97,49,55,57,48,56,57,54,99,56,100,54,100,100,54,56,102,97,52,102,101,49,48,50,99,55,57,32,99,117,116,32,97,116,32,100,111,111,114,107,101,101,112,101,114,47,100,111,111,114,107,101,101,112,101,114,108,97,119,49,49,46,87,97,110,116,65,108,108,32,100,111,111,114,107,101,101,112,101,114,47,100,111,111,114,107,101,101,112,101,114,108,97,119,49,49,46,87,97,110,116,77,97,100,101,32,100,111,111,114,107,101,101,112,101,114,47,100,111,111,114,107,101,101,112,101,114,108,97,119,49,49,46,87,97,110,116,84,111,112,32,100,111,111,114,107,101,101,112,101,114,47,100,111,111,114,107,101,101,112,101,114,108,97,119,49,49,46,87,97,110,116,67,105,114,99,108,101,32,100,111,111,114,107,101,101,112,101,114,47,100,111,111,114,107,101,101,112,101,114,108,97,119,49,49,46,87,97,110,116,83,117,109,115,32,100,111,111,114,107,101,101,112,101,114,47,100,111,111,114,107,101,101,112,101,114,108,97,119,49,57,46,84,114,105,97,108,67,117,116,115,32,100,111,111,114,107,101,101,112,101,114,47,100,111,111,114,107,101,101,112,101,114,108,97,119,49,56,46,80,108,97,110,65,108,108,32,100,111,111,114,107,101,101,112,101,114,47,100,111,111,114,107,101,101,112,101,114,108,97,119,49,56,46,80,108,97,110,77,97,100,101,32,100,111,111,114,107,101,101,112,101,114,47,100,111,111,114,107,101,101,112,101,114,108,97,119,49,56,46,80,108,97,110,76,101,97,100,115,32,100,111,111,114,107,101,101,112,101,114,47,100,111,111,114,107,101,101,112,101,114,108,97,119,49,56,46,80,108,97,110,69,109,112,116,121,32,100,111,111,114,107,101,101,112,101,114,47,100,111,111,114,107,101,101,112,101,114,108,97,119,49,56,46,80,108,97,110,79,114,100,101,114,32,100,111,111,114,107,101,101,112,101,114,47,100,111,111,114,107,101,101,112,101,114,108,97,119,49,56,46,80,108,97,110,70,114,101,115,104,32,100,111,111,114,107,101,101,112,101,114,47,100,111,111,114,107,101,101,112,101,114,108,97,119,49,56,46,80,108,97,110,78,111,110,101,32,100,111,111,114,107,101,101,112,101,114,47,100,111,111,114,107,101,101,112,101,114,108,97,119,49,56,46,80,108,97,110,67,108,97,115,104,32,100,111,111,114,107,101,101,112,101,114,47,100,111,111,114,107,101,101,112,101,114,108,97,119,49,56,46,80,108,97,110,87,105,100,101,32,100,111,111,114,107,101,101,112,101,114,47,100,111,111,114,107,101,101,112,101,114,108,97,119,50,51,46,65,112,112,108,121,65,108,108,32,100,111,111,114,107,101,101,112,101,114,47,100,111,111,114,107,101,101,112,101,114,108,97,119,50,51,46,65,112,112,108,121,77,97,100,101,32,100,111,111,114,107,101,101,112,101,114,47,100,111,111,114,107,101,101,112,101,114,108,97,119,50,51,46,65,112,112,108,121,65,103,97,105,110,32,100,111,111,114,107,101,101,112,101,114,47,100,111,111,114,107,101,101,112,101,114,108,97,119,50,51,46,65,112,112,108,121,69,110,100,115])
set_option maxRecDepth 100000 in
theorem word:Try.prog.initOrder=String.ofList signs:=by kernel_rfl
theorem list:Try.prog.initOrder.toList=signs:=by rw [word,String.toList_ofList]
theorem words_app: ∀(w r:List Char),(∀c∈w,c≠Char.ofNat 32)→wordsSigns (w++Char.ofNat 32::r)=w::wordsSigns r
  |[],r,_=>rfl
  | c :: w, r, h => by
    have hc:c≠Char.ofNat 32:=h c (by simp);have ih:=words_app w r (fun d hd=>h d (by simp [hd]))
    show wordsSigns (c::(w++Char.ofNat 32::r))=_
    rw [wordsSigns.eq_3 _ _ (fun q=>hc q),ih]
def w1:List Char:=[Char.ofNat 104,Char.ofNat 97,Char.ofNat 114,Char.ofNat 110,Char.ofNat 101,Char.ofNat 115,Char.ofNat 115]
def w2:List Char:=(List.map Char.ofNat [52,48,100,98,98,98,100,57,102,99,56,49,51,57,52,102,98,101,100,54,48,53,102,48,101,50,51,100,52,101,50,55,97,52,48,52,98,97,49,55,57,48,56,57,54,99,56,100,54,100,100,54,56,102,97,52,102,101,49,48,50,99,55,57])
def w3:List Char:=[Char.ofNat 99,Char.ofNat 117,Char.ofNat 116]
def rest:List Char:=(List.map Char.ofNat [97,116,32,100,111,111,114,107,101,101,112,101,114,47,100,111,111,114,107,101,101,112,101,114,108,97,119,49,49,46,87,97,110,116,65,108,108,32,100,111,111,114,107,101,101,112,101,114,47,100,111,111,114,107,101,101,112,101,114,108,97,119,49,49,46,87,97,110,116,77,97,100,101,32,100,111,111,114,107,101,101,112,101,114,47,100,111,111,114,107,101,101,112,101,114,108,97,119,49,49,46,87,97,110,116,84,111,112,32,100,111,111,114,107,101,101,112,101,114,47,100,111,111,114,107,101,101,112,101,114,108,97,119,49,49,46,87,97,110,116,67,105,114,99,108,101,32,100,111,111,114,107,101,101,112,101,114,47,100,111,111,114,107,101,101,112,101,114,108,97,119,49,49,46,87,97,110,116,83,117,109,115,32,100,111,111,114,107,101,101,112,101,114,47,100,111,111,114,107,101,101,112,101,114,108,97,119,49,57,46,84,114,105,97,108,67,117,116,115,32,100,111,111,114,107,101,101,112,101,114,47,100,111,111,114,107,101,101,112,101,114,108,97,119,49,56,46,80,108,97,110,65,108,108,32,100,111,111,114,107,101,101,112,101,114,47,100,111,111,114,107,101,101,112,101,114,108,97,119,49,56,46,80,108,97,110,77,97,100,101,32,100,111,111,114,107,101,101,112,101,114,47,100,111,111,114,107,101,101,112,101,114,108,97,119,49,56,46,80,108,97,110,76,101,97,100,115,32,100,111,111,114,107,101,101,112,101,114,47,100,111,111,114,107,101,101,112,101,114,108,97,119,49,56,46,80,108,97,110,69,109,112,116,121,32,100,111,111,114,107,101,101,112,101,114,47,100,111,111,114,107,101,101,112,101,114,108,97,119,49,56,46,80,108,97,110,79,114,100,101,114,32,100,111,111,114,107,101,101,112,101,114,47,100,111,111,114,107,101,101,112,101,114,108,97,119,49,56,46,80,108,97,110,70,114,101,115,104,32,100,111,111,114,107,101,101,112,101,114,47,100,111,111,114,107,101,101,112,101,114,108,97,119,49,56,46,80,108,97,110,78,111,110,101,32,100,111,111,114,107,101,101,112,101,114,47,100,111,111,114,107,101,101,112,101,114,108,97,119,49,56,46,80,108,97,110,67,108,97,115,104,32,100,111,111,114,107,101,101,112,101,114,47,100,111,111,114,107,101,101,112,101,114,108,97,119,49,56,46,80,108,97,110,87,105,100,101,32,100,111,111,114,107,101,101,112,101,114,47,100,111,111,114,107,101,101,112,101,114,108,97,119,50,51,46,65,112,112,108,121,65,108,108,32,100,111,111,114,107,101,101,112,101,114,47,100,111,111,114,107,101,101,112,101,114,108,97,119,50,51,46,65,112,112,108,121,77,97,100,101,32,100,111,111,114,107,101,101,112,101,114,47,100,111,111,114,107,101,101,112,101,114,108,97,119,50,51,46,65,112,112,108,121,65,103,97,105,110,32,100,111,111,114,107,101,101,112,101,114,47,100,111,111,114,107,101,101,112,101,114,108,97,119,50,51,46,65,112,112,108,121,69,110,100,115])
theorem parts:signs=w1++Char.ofNat 32::(w2++Char.ofNat 32::(w3++Char.ofNat 32::rest)):=by kernel_rfl
theorem behind: ∃r,behindMainWord (wordsSigns Try.prog.initOrder.toList)=w3::r:=by
 refine ⟨wordsSigns rest, ?_⟩;rw [list,parts,words_app w1 _ (by decide),words_app w2 _ (by decide),words_app w3 _ (by decide)];generalize wordsSigns rest=r
 rfl
theorem strip (r:List (List Char)):stripLifts liftWords (w3::r)=([],w3::r):=by kernel_rfl
theorem not_carried (r:List (List Char)):((w3::r).head?==some "carried".toList)=false:=by kernel_rfl
theorem is_cut (r:List (List Char)):((w3::r).head?==some "cut".toList)=true:=by kernel_rfl
theorem not_gc:(w3== "gc".toList||w3== "spec".toList)=false:=by kernel_rfl
theorem cut_:(w3== "cut".toList)=true:=by kernel_rfl
theorem lifts_of {P:Program} {r:List (List Char)} (h:behindMainWord (wordsSigns P.initOrder.toList)=w3::r):P.liftsFinal=false:=by
 unfold Program.liftsFinal Program.headLifts;simp only [h,strip,not_carried,is_cut,if_true,Bool.false_and,Bool.false_or,List.contains_nil]
theorem make_of {P:Program} {r:List (List Char)} (h:behindMainWord (wordsSigns P.initOrder.toList)=w3::r):P.make=some .cut:=by
 unfold Program.make;simp only [h,not_gc,cut_,Bool.true_or,if_true,Bool.false_eq_true,if_false]
theorem lifts:Try.prog.liftsFinal=false:=by obtain ⟨r,h⟩:=behind;exact lifts_of h
theorem make:Try.prog.make=some .cut:=by obtain ⟨r,h⟩:=behind;exact make_of h
theorem later:Try.prog.laysLater=false:=by kernel_rfl
theorem reflects:Try.prog.bearsReflect=false:=by kernel_rfl
theorem door:Try.prog.doorFits []=true:=by kernel_rfl
theorem may_of {P:Program} {r:List (List Char)} (h:behindMainWord (wordsSigns P.initOrder.toList)=w3::r) (h1:P.laysLater=false) (h2:P.bearsReflect=false) (h3:P.doorFits []=true):P.mayEnter=true:=by
 unfold Program.mayEnter;simp only [h,strip,is_cut,h1,h2,h3,List.contains_nil,Bool.not_false,Bool.or_true,Bool.and_true,Bool.and_self]
theorem mayEnter:Try.prog.mayEnter=true:=by obtain ⟨r,h⟩:=behind;exact may_of h later reflects door
theorem stopsHeard:Try.prog.stopsHeard=true:=by kernel_rfl
theorem laidOut:laidOutB Try.prog=true:=by kernel_rfl
theorem mapsRowed:mapsRowed Try.prog=true:=by kernel_rfl
theorem stops:(Try.prog.stops==[])=true:=by kernel_rfl
theorem stopKnobs:(Try.prog.stopKnobs==[])=true:=by kernel_rfl
end Go.Proofs.Ytahidkjncljkaaa.Head

-- PRINTED WORDS (module Derived/Print/Sized.lean): go-gate-2's, for the rows of laws over slices: an AI agent of Go's test side, Tue Nov 17 2026; no person has read it. Lean checks it.
namespace Go.Proofs.YtahidkjncljkaaaW.PrintWords
open Go.ChangeShapes Go.WideShapes
theorem sized_ints {H:Type} {enc:TypeId×Value→H} {P:Program} {W:World} {base:Nat} {spare:Nat→Bool} {held:Bool} {t e:TypeId} {k:IntKind} {a:Option Addr} {len cap:Nat} {d:DataW H} {ps:List MemPlace} {ts:List TypeId} {ds:List (DataW H)} {j:Nat}
    (hsz:(DataW.weightsEach P ts ds).all (· ≤reachBytes)=true) (ht:ts[j]?=some t) (hd:ds[j]?=some d) (hu:P.underlying t=some (.slice e)) (he:P.underlying e=some (.int k)) (hc:P.cellsOf e=1) {B:Nat} (hB:P.bytesOf e=B)
    (h:DataW.Trod enc P W base spare held t (.slice a len cap) d ps):len*B≤140737488351232:=by
  obtain ⟨fuel,hf⟩:=h
  rcases open_ints hu he hc hf with ⟨hcs,_⟩|⟨x,l,c,zs,hcs,_,hl,_,hz,hx,_,_⟩
  · simp [Value.cells] at hcs
    obtain ⟨rfl,rfl,rfl⟩:=hcs
    simp
  · simp [Value.cells] at hcs
    obtain ⟨rfl,rfl,rfl⟩:=hcs
    obtain ⟨hx,_⟩:=Prod.mk.inj hx
    subst hx
    have z:=sized_slice hsz ht hd hu
    rw [hB] at z
    have hl2:len≤zs.length:=by
      rw [hz]
      split
      · exact hl
      · exact Nat.le_refl _
    have h1:(lits (H:=H) k (zs.take len)).length+(lits (H:=H) k (zs.drop len)).length=zs.length:=by
      simp [lits]
      omega
    rw [h1] at z
    exact Nat.le_trans (Nat.mul_le_mul_right _ hl2) z
end Go.Proofs.YtahidkjncljkaaaW.PrintWords
