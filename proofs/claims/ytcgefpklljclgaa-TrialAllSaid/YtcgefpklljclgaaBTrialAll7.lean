/- TrialAll: a part -/
import Derived.Test.YtcgefpklljclgaaBTrialAll0
import Derived.Test.YtcgefpklljclgaaBTrialAll1
import Derived.Test.YtcgefpklljclgaaBTrialAll4
import Derived.Test.YtcgefpklljclgaaBTrialAll5
namespace Go.Proofs.Ytcgefpklljclgaa.Print
open Go.RowKit Go.Proofs.YtcgefpklljclgaaW.PrintWords Go.Proofs.YtcgefpklljclgaaW.PrintLast Go.Proofs.YtcgefpklljclgaaW.PrintMore
attribute [local go_sem] max2_int min2_int max_two min_two max_three min_three max_four min_four
set_option linter.unusedVariables false
set_option linter.unusedSimpArgs false

def r10_Do.f (k:Nat) (l0:List (S31)) (a1_0:Int) (a1_1:ByteArray) (a1_2:ByteArray) (a1_3:Int) (a1_4:Int) (a1_5:Int) (a2:Int):Option ((List (S31))×Int):=if a1_0=1 then ((r10_Create.f k l0 a1_1 a1_2 a1_3 a1_4 a1_5).bind fun bt3=>(some (bt3.1,bt3.2))) else (if a1_0=2 then ((r10_Limit.f k l0 a1_1 a1_3 a1_4 a1_5 a2).bind fun bt7=>(some (bt7.1,bt7.2))) else (if a1_0=3 then ((r10_Move.f k l0 a1_1 a1_2 a2).bind fun bt11=>(some (bt11.1,bt11.2))) else (if a1_0=4 then ((r10_Delete.f k l0 a1_1 a2).bind fun bt15=>(some (bt15.1,bt15.2))) else ((r10_no.f 1).bind fun bt19=>(some (bt19.1,bt19.2))))))
theorem r10_Do.mono: ∀a0 a1 a2 a3 a4 a5 a6 a7 k,LeO (r10_Do.f k a0 a1 a2 a3 a4 a5 a6 a7) (r10_Do.f (k+1) a0 a1 a2 a3 a4 a5 a6 a7):=by
 intro a0 a1 a2 a3 a4 a5 a6 a7 k
 unfold r10_Do.f
 repeat' first
  |(with_reducible exact r10_Create.mono _ _ _ _ _ _ _)
  |(with_reducible exact r10_Delete.mono _ _ _ _)
  |(with_reducible exact r10_Limit.mono _ _ _ _ _ _ _)
  |(with_reducible exact r10_Move.mono _ _ _ _ _)
  |(with_reducible exact LeO.refl _)
  |(with_reducible exact LeO.none _)
  |(with_reducible refine LeO.ite ?_ ?_)
  |(with_reducible refine LeO.bind ?_ (fun _=> ?_))
  |exact r10_Create.mono _ _ _ _ _ _ _
  |exact r10_Delete.mono _ _ _ _
  |exact r10_Limit.mono _ _ _ _ _ _ _
  |exact r10_Move.mono _ _ _ _ _
  |exact LeO.none _
  |refine LeO.ite ?_ ?_
  |refine LeO.bind ?_ (fun _=> ?_)
set_option maxHeartbeats 8000000 in
set_option maxRecDepth 100000 in
theorem r10_Do.calls (k:Nat) (A0:Option Addr) (c0:Nat) (l0:List (S31)) (a1_0:Int) (a1_1:ByteArray) (a1_2:ByteArray) (a1_3:Int) (a1_4:Int) (a1_5:Int) (a2:Int) (r1:List (S31)) (r2:Int) (w:World) (hr0:Kd.C k31 w A0 l0.length l0) (hc0:l0.length≤c0) (h:r10_Do.f k l0 a1_0 a1_1 a1_2 a1_3 a1_4 a1_5 a2=some (r1,r2)):
  Calls Try.prog 58 #[.slice A0 l0.length c0, .agg #[.int .i64 a1_0, .string a1_1, .string a1_2, .int .i64 a1_3, .int .i64 a1_4, .int .i64 a1_5], .int .i64 a2] w fun e w'=> ∃v0_:Value,e= .returned (.agg #[v0_, .int .i64 r2])∧Kd.R k31 31 w' w.heap.size (fun _=>True) v0_ r1∧Below w.heap.size w w':=by
 have HR0:=Aside0.mk hr0
 have HC0:=Aside0.mk hc0
 clear hr0 hc0
 have HB:=am_ (Below.refl w.heap.size w)
 have H:(if a1_0=1 then ((r10_Create.f k l0 a1_1 a1_2 a1_3 a1_4 a1_5).bind fun bt3=>(some (bt3.1,bt3.2))) else (if a1_0=2 then ((r10_Limit.f k l0 a1_1 a1_3 a1_4 a1_5 a2).bind fun bt7=>(some (bt7.1,bt7.2))) else (if a1_0=3 then ((r10_Move.f k l0 a1_1 a1_2 a2).bind fun bt11=>(some (bt11.1,bt11.2))) else (if a1_0=4 then ((r10_Delete.f k l0 a1_1 a2).bind fun bt15=>(some (bt15.1,bt15.2))) else ((r10_no.f 1).bind fun bt19=>(some (bt19.1,bt19.2)))))))=some (r1,r2):=h
 clear h
 by_cases c4:a1_0=1
 ·rw [if_pos c4] at H
  have c4b0:(a1_0==1)=true:=beq_iff_eq.mpr c4
  clear c4
  replace H:=Option.bind_eq_some_iff.mp H
  obtain ⟨⟨t3,t6⟩,A50,H⟩:=H
  try dsimp only at H
  have A5:=Aside0.mk A50
  clear A50
  simp only [Option.some.injEq,Prod.mk.injEq] at H
  obtain ⟨rfl,rfl⟩:=H
  go_enter Try.func58,Try.ntmps58
  go_wp2_with (first|((with_reducible refine gate_dst (N:=4) rfl ?_);refine bx_ (N:=4) (cs:=#[.int .i64 a1_0, .string a1_1, .string a1_2, .int .i64 a1_3, .int .i64 a1_4, .int .i64 a1_5]) (t:=58) ?_;intro gb1 hg w6 hbox hb;have n0_:=am_ (below_step (zl0_ HB) hb);have n1_:=am_ (hbox);have n2_:=am_ ((zg0_ HB hg:w.heap.size≤gb1));have n3_:=am_ ((zg0_ HB hg:w.heap.size≤gb1));clear HB;have HB:=n0_;have BK1:=n1_;have GE1:=n3_;clear n0_ n1_ n2_ n3_;clear hb hbox hg)|((with_reducible refine gate_dst (N:=6) rfl ?_);refine bx_ (N:=6) (cs:=#[.slice none 0 0, .int .i64 0]) (t:=67) ?_;intro gb2 hg w7 hbox hb;have n0_:=am_ (blk_below (zb_ BK1) hb);have n1_:=am_ (below_step (zl1_ HB GE1) hb);have n2_:=am_ (hbox);have n3_:=am_ ((zg1_ HB GE1 hg:w.heap.size≤gb2));have n4_:=am_ ((zg1_ HB GE1 hg:w.heap.size≤gb2));have n5_:=am_ ((zn_ BK1 hg:gb1≠gb2));have n6_:=am_ ((zm_ BK1 hg:gb2≠gb1));clear BK1;clear HB;have BK1:=n0_;have HB:=n1_;have BK2:=n2_;have GE2:=n4_;clear n0_ n1_ n2_ n3_ n4_ n5_ n6_;clear hb hbox hg;obtain ⟨hcz9_0,hcz9_1,hcz9_2,hcz9_3,hcz9_4,hcz9_5⟩:=x6_ BK1)|((with_reducible refine gate_callee (f:=83) rfl ?_);refine gl_ (some 18) Try.func83 #[.slice A0 l0.length c0, .string a1_1, .string a1_2, .agg #[.int .i64 a1_3, .int .i64 a1_4, .int .i64 a1_5]] ?_;(with_reducible refine (r10_Create.calls k _ _ l0 a1_1 a1_2 a1_3 a1_4 a1_5 t3 t6 _ ?side1 ?side2 A5.out).mono ?_);(case side1=>exact zc_ (Kd.C_below HR0.out HB.out));(case side2=>exact HC0.out);rintro e w10 ⟨v4,rfl,ho0,hb⟩;refine ⟨_,rfl, ?_⟩;have HO5:=am_ (Kd.R_lower ho0 (below_size (zl2_ HB GE1 GE2)));replace BK1:=am_ (blk_below (zb_ BK1) hb);replace BK2:=am_ (blk_below (zb_ BK2) hb);replace HB:=am_ (below_step (zl2_ HB GE1 GE2) hb);(try clear hb);(try clear hb2);(try clear hk);(try clear hi);(try clear ho0);obtain ⟨Ao11,co11,eo11⟩:=Kd.R_slice HO5.out;subst eo11;obtain ⟨hcz12_0,hcz12_1⟩:=x2_ BK2;have hfz12_0:=blk_frozen BK2.out 0;have hfz12_1:=blk_frozen BK2.out 1))
  refine bodyPost_ret (results_cell_row rfl _ _ gb2 67 #[.slice Ao11 t3.length co11, .int .i64 t6] (0,0) _ rfl (zw_ BK2) Try.underlying67 rfl (by kernel_rfl)) rfl ?_
  exact ⟨_,by first|rfl|(simp [errW_none,errW_some]<;>rfl)|(simp [*,errW_none,errW_some]<;>rfl),zy_ HO5 BK2,zl2_ HB GE1 GE2⟩
 rw [if_neg c4] at H
 have c4b0:(a1_0==1)=false:=beq_eq_false_iff_ne.mpr c4
 by_cases c13:a1_0=2
 ·rw [if_pos c13] at H
  have c13b0:(a1_0==2)=true:=beq_iff_eq.mpr c13
  clear c13
  replace H:=Option.bind_eq_some_iff.mp H
  obtain ⟨⟨t7,t10⟩,A140,H⟩:=H
  try dsimp only at H
  have A14:=Aside0.mk A140
  clear A140
  simp only [Option.some.injEq,Prod.mk.injEq] at H
  obtain ⟨rfl,rfl⟩:=H
  go_enter Try.func58,Try.ntmps58
  go_wp2_with (first|((with_reducible refine gate_dst (N:=4) rfl ?_);refine bx_ (N:=4) (cs:=#[.int .i64 a1_0, .string a1_1, .string a1_2, .int .i64 a1_3, .int .i64 a1_4, .int .i64 a1_5]) (t:=58) ?_;intro gb1 hg w15 hbox hb;have n0_:=am_ (below_step (zl0_ HB) hb);have n1_:=am_ (hbox);have n2_:=am_ ((zg0_ HB hg:w.heap.size≤gb1));have n3_:=am_ ((zg0_ HB hg:w.heap.size≤gb1));clear HB;have HB:=n0_;have BK1:=n1_;have GE1:=n3_;clear n0_ n1_ n2_ n3_;clear hb hbox hg)|((with_reducible refine gate_dst (N:=6) rfl ?_);refine bx_ (N:=6) (cs:=#[.slice none 0 0, .int .i64 0]) (t:=67) ?_;intro gb2 hg w16 hbox hb;have n0_:=am_ (blk_below (zb_ BK1) hb);have n1_:=am_ (below_step (zl1_ HB GE1) hb);have n2_:=am_ (hbox);have n3_:=am_ ((zg1_ HB GE1 hg:w.heap.size≤gb2));have n4_:=am_ ((zg1_ HB GE1 hg:w.heap.size≤gb2));have n5_:=am_ ((zn_ BK1 hg:gb1≠gb2));have n6_:=am_ ((zm_ BK1 hg:gb2≠gb1));clear BK1;clear HB;have BK1:=n0_;have HB:=n1_;have BK2:=n2_;have GE2:=n4_;clear n0_ n1_ n2_ n3_ n4_ n5_ n6_;clear hb hbox hg;obtain ⟨hcz18_0,hcz18_1⟩:=x2_ BK1;have hcz18_3:=zz_ BK1 3;have hcz18_4:=zz_ BK1 4;have hcz18_5:=zz_ BK1 5)|((with_reducible refine gate_callee (f:=91) rfl ?_);refine gl_ (some 27) Try.func91 #[.slice A0 l0.length c0, .string a1_1, .agg #[.int .i64 a1_3, .int .i64 a1_4, .int .i64 a1_5], .int .i64 a2] ?_;(with_reducible refine (r10_Limit.calls k _ _ l0 a1_1 a1_3 a1_4 a1_5 a2 t7 t10 _ ?side1 ?side2 A14.out).mono ?_);(case side1=>exact zc_ (Kd.C_below HR0.out HB.out));(case side2=>exact HC0.out);rintro e w19 ⟨v8,rfl,ho0,hb⟩;refine ⟨_,rfl, ?_⟩;have HO9:=am_ (Kd.R_lower ho0 (below_size (zl2_ HB GE1 GE2)));replace BK1:=am_ (blk_below (zb_ BK1) hb);replace BK2:=am_ (blk_below (zb_ BK2) hb);replace HB:=am_ (below_step (zl2_ HB GE1 GE2) hb);(try clear hb);(try clear hb2);(try clear hk);(try clear hi);(try clear ho0);obtain ⟨Ao20,co20,eo20⟩:=Kd.R_slice HO9.out;subst eo20;obtain ⟨hcz21_0,hcz21_1⟩:=x2_ BK2;have hfz21_0:=blk_frozen BK2.out 0;have hfz21_1:=blk_frozen BK2.out 1))
  refine bodyPost_ret (results_cell_row rfl _ _ gb2 67 #[.slice Ao20 t7.length co20, .int .i64 t10] (0,0) _ rfl (zw_ BK2) Try.underlying67 rfl (by kernel_rfl)) rfl ?_
  exact ⟨_,by first|rfl|(simp [errW_none,errW_some]<;>rfl)|(simp [*,errW_none,errW_some]<;>rfl),zy_ HO9 BK2,zl2_ HB GE1 GE2⟩
 rw [if_neg c13] at H
 have c13b0:(a1_0==2)=false:=beq_eq_false_iff_ne.mpr c13
 by_cases c22:a1_0=3
 ·rw [if_pos c22] at H
  have c22b0:(a1_0==3)=true:=beq_iff_eq.mpr c22
  clear c22
  replace H:=Option.bind_eq_some_iff.mp H
  obtain ⟨⟨t11,t14⟩,A230,H⟩:=H
  try dsimp only at H
  have A23:=Aside0.mk A230
  clear A230
  simp only [Option.some.injEq,Prod.mk.injEq] at H
  obtain ⟨rfl,rfl⟩:=H
  go_enter Try.func58,Try.ntmps58
  go_wp2_with (first|((with_reducible refine gate_dst (N:=4) rfl ?_);refine bx_ (N:=4) (cs:=#[.int .i64 a1_0, .string a1_1, .string a1_2, .int .i64 a1_3, .int .i64 a1_4, .int .i64 a1_5]) (t:=58) ?_;intro gb1 hg w24 hbox hb;have n0_:=am_ (below_step (zl0_ HB) hb);have n1_:=am_ (hbox);have n2_:=am_ ((zg0_ HB hg:w.heap.size≤gb1));have n3_:=am_ ((zg0_ HB hg:w.heap.size≤gb1));clear HB;have HB:=n0_;have BK1:=n1_;have GE1:=n3_;clear n0_ n1_ n2_ n3_;clear hb hbox hg)|((with_reducible refine gate_dst (N:=6) rfl ?_);refine bx_ (N:=6) (cs:=#[.slice none 0 0, .int .i64 0]) (t:=67) ?_;intro gb2 hg w25 hbox hb;have n0_:=am_ (blk_below (zb_ BK1) hb);have n1_:=am_ (below_step (zl1_ HB GE1) hb);have n2_:=am_ (hbox);have n3_:=am_ ((zg1_ HB GE1 hg:w.heap.size≤gb2));have n4_:=am_ ((zg1_ HB GE1 hg:w.heap.size≤gb2));have n5_:=am_ ((zn_ BK1 hg:gb1≠gb2));have n6_:=am_ ((zm_ BK1 hg:gb2≠gb1));clear BK1;clear HB;have BK1:=n0_;have HB:=n1_;have BK2:=n2_;have GE2:=n4_;clear n0_ n1_ n2_ n3_ n4_ n5_ n6_;clear hb hbox hg;obtain ⟨hcz27_0,hcz27_1,hcz27_2⟩:=x3_ BK1)|((with_reducible refine gate_callee (f:=92) rfl ?_);refine gl_ (some 36) Try.func92 #[.slice A0 l0.length c0, .string a1_1, .string a1_2, .int .i64 a2] ?_;(with_reducible refine (r10_Move.calls k _ _ l0 a1_1 a1_2 a2 t11 t14 _ ?side1 ?side2 A23.out).mono ?_);(case side1=>exact zc_ (Kd.C_below HR0.out HB.out));(case side2=>exact HC0.out);rintro e w28 ⟨v12,rfl,ho0,hb⟩;refine ⟨_,rfl, ?_⟩;have HO13:=am_ (Kd.R_lower ho0 (below_size (zl2_ HB GE1 GE2)));replace BK1:=am_ (blk_below (zb_ BK1) hb);replace BK2:=am_ (blk_below (zb_ BK2) hb);replace HB:=am_ (below_step (zl2_ HB GE1 GE2) hb);(try clear hb);(try clear hb2);(try clear hk);(try clear hi);(try clear ho0);obtain ⟨Ao29,co29,eo29⟩:=Kd.R_slice HO13.out;subst eo29;obtain ⟨hcz30_0,hcz30_1⟩:=x2_ BK2;have hfz30_0:=blk_frozen BK2.out 0;have hfz30_1:=blk_frozen BK2.out 1))
  refine bodyPost_ret (results_cell_row rfl _ _ gb2 67 #[.slice Ao29 t11.length co29, .int .i64 t14] (0,0) _ rfl (zw_ BK2) Try.underlying67 rfl (by kernel_rfl)) rfl ?_
  exact ⟨_,by first|rfl|(simp [errW_none,errW_some]<;>rfl)|(simp [*,errW_none,errW_some]<;>rfl),zy_ HO13 BK2,zl2_ HB GE1 GE2⟩
 rw [if_neg c22] at H
 have c22b0:(a1_0==3)=false:=beq_eq_false_iff_ne.mpr c22
 by_cases c31:a1_0=4
 ·rw [if_pos c31] at H
  have c31b0:(a1_0==4)=true:=beq_iff_eq.mpr c31
  clear c31
  replace H:=Option.bind_eq_some_iff.mp H
  obtain ⟨⟨t15,t18⟩,A320,H⟩:=H
  try dsimp only at H
  have A32:=Aside0.mk A320
  clear A320
  simp only [Option.some.injEq,Prod.mk.injEq] at H
  obtain ⟨rfl,rfl⟩:=H
  go_enter Try.func58,Try.ntmps58
  go_wp2_with (first|((with_reducible refine gate_dst (N:=4) rfl ?_);refine bx_ (N:=4) (cs:=#[.int .i64 a1_0, .string a1_1, .string a1_2, .int .i64 a1_3, .int .i64 a1_4, .int .i64 a1_5]) (t:=58) ?_;intro gb1 hg w33 hbox hb;have n0_:=am_ (below_step (zl0_ HB) hb);have n1_:=am_ (hbox);have n2_:=am_ ((zg0_ HB hg:w.heap.size≤gb1));have n3_:=am_ ((zg0_ HB hg:w.heap.size≤gb1));clear HB;have HB:=n0_;have BK1:=n1_;have GE1:=n3_;clear n0_ n1_ n2_ n3_;clear hb hbox hg)|((with_reducible refine gate_dst (N:=6) rfl ?_);refine bx_ (N:=6) (cs:=#[.slice none 0 0, .int .i64 0]) (t:=67) ?_;intro gb2 hg w34 hbox hb;have n0_:=am_ (blk_below (zb_ BK1) hb);have n1_:=am_ (below_step (zl1_ HB GE1) hb);have n2_:=am_ (hbox);have n3_:=am_ ((zg1_ HB GE1 hg:w.heap.size≤gb2));have n4_:=am_ ((zg1_ HB GE1 hg:w.heap.size≤gb2));have n5_:=am_ ((zn_ BK1 hg:gb1≠gb2));have n6_:=am_ ((zm_ BK1 hg:gb2≠gb1));clear BK1;clear HB;have BK1:=n0_;have HB:=n1_;have BK2:=n2_;have GE2:=n4_;clear n0_ n1_ n2_ n3_ n4_ n5_ n6_;clear hb hbox hg;obtain ⟨hcz36_0,hcz36_1⟩:=x2_ BK1)|((with_reducible refine gate_callee (f:=93) rfl ?_);refine gl_ (some 43) Try.func93 #[.slice A0 l0.length c0, .string a1_1, .int .i64 a2] ?_;(with_reducible refine (r10_Delete.calls k _ _ l0 a1_1 a2 t15 t18 _ ?side1 ?side2 A32.out).mono ?_);(case side1=>exact zc_ (Kd.C_below HR0.out HB.out));(case side2=>exact HC0.out);rintro e w37 ⟨v16,rfl,ho0,hb⟩;refine ⟨_,rfl, ?_⟩;have HO17:=am_ (Kd.R_lower ho0 (below_size (zl2_ HB GE1 GE2)));replace BK1:=am_ (blk_below (zb_ BK1) hb);replace BK2:=am_ (blk_below (zb_ BK2) hb);replace HB:=am_ (below_step (zl2_ HB GE1 GE2) hb);(try clear hb);(try clear hb2);(try clear hk);(try clear hi);(try clear ho0);obtain ⟨Ao38,co38,eo38⟩:=Kd.R_slice HO17.out;subst eo38;obtain ⟨hcz39_0,hcz39_1⟩:=x2_ BK2;have hfz39_0:=blk_frozen BK2.out 0;have hfz39_1:=blk_frozen BK2.out 1))
  refine bodyPost_ret (results_cell_row rfl _ _ gb2 67 #[.slice Ao38 t15.length co38, .int .i64 t18] (0,0) _ rfl (zw_ BK2) Try.underlying67 rfl (by kernel_rfl)) rfl ?_
  exact ⟨_,by first|rfl|(simp [errW_none,errW_some]<;>rfl)|(simp [*,errW_none,errW_some]<;>rfl),zy_ HO17 BK2,zl2_ HB GE1 GE2⟩
 rw [if_neg c31] at H
 have c31b0:(a1_0==4)=false:=beq_eq_false_iff_ne.mpr c31
 replace H:=Option.bind_eq_some_iff.mp H
 obtain ⟨⟨t19,t22⟩,A400,H⟩:=H
 try dsimp only at H
 have A40:=Aside0.mk A400
 clear A400
 simp only [Option.some.injEq,Prod.mk.injEq] at H
 obtain ⟨rfl,rfl⟩:=H
 go_enter Try.func58,Try.ntmps58
 go_wp2_with (first|((with_reducible refine gate_dst (N:=4) rfl ?_);refine bx_ (N:=4) (cs:=#[.int .i64 a1_0, .string a1_1, .string a1_2, .int .i64 a1_3, .int .i64 a1_4, .int .i64 a1_5]) (t:=58) ?_;intro gb1 hg w41 hbox hb;have n0_:=am_ (below_step (zl0_ HB) hb);have n1_:=am_ (hbox);have n2_:=am_ ((zg0_ HB hg:w.heap.size≤gb1));have n3_:=am_ ((zg0_ HB hg:w.heap.size≤gb1));clear HB;have HB:=n0_;have BK1:=n1_;have GE1:=n3_;clear n0_ n1_ n2_ n3_;clear hb hbox hg)|((with_reducible refine gate_dst (N:=6) rfl ?_);refine bx_ (N:=6) (cs:=#[.slice none 0 0, .int .i64 0]) (t:=67) ?_;intro gb2 hg w42 hbox hb;have n0_:=am_ (blk_below (zb_ BK1) hb);have n1_:=am_ (below_step (zl1_ HB GE1) hb);have n2_:=am_ (hbox);have n3_:=am_ ((zg1_ HB GE1 hg:w.heap.size≤gb2));have n4_:=am_ ((zg1_ HB GE1 hg:w.heap.size≤gb2));have n5_:=am_ ((zn_ BK1 hg:gb1≠gb2));have n6_:=am_ ((zm_ BK1 hg:gb2≠gb1));clear BK1;clear HB;have BK1:=n0_;have HB:=n1_;have BK2:=n2_;have GE2:=n4_;clear n0_ n1_ n2_ n3_ n4_ n5_ n6_;clear hb hbox hg;have hcz44_0:=zz_ BK1 0)|((with_reducible refine gate_callee (f:=113) rfl ?_);refine gl_ (some 44) Try.func113 #[.int .i64 1] ?_;(with_reducible refine (r10_no.calls 1 t19 t22 _ A40.out).mono ?_);rintro e w45 ⟨v20,rfl,ho0,hb⟩;refine ⟨_,rfl, ?_⟩;have HO21:=am_ (Kd.R_lower ho0 (below_size (zl2_ HB GE1 GE2)));replace BK1:=am_ (blk_below (zb_ BK1) hb);replace BK2:=am_ (blk_below (zb_ BK2) hb);replace HB:=am_ (below_step (zl2_ HB GE1 GE2) hb);(try clear hb);(try clear hb2);(try clear hk);(try clear hi);(try clear ho0);obtain ⟨Ao46,co46,eo46⟩:=Kd.R_slice HO21.out;subst eo46;obtain ⟨hcz47_0,hcz47_1⟩:=x2_ BK2;have hfz47_0:=blk_frozen BK2.out 0;have hfz47_1:=blk_frozen BK2.out 1))
 refine bodyPost_ret (results_cell_row rfl _ _ gb2 67 #[.slice Ao46 t19.length co46, .int .i64 t22] (0,0) _ rfl (zw_ BK2) Try.underlying67 rfl (by kernel_rfl)) rfl ?_
 exact ⟨_,by first|rfl|(simp [errW_none,errW_some]<;>rfl)|(simp [*,errW_none,errW_some]<;>rfl),zy_ HO21 BK2,zl2_ HB GE1 GE2⟩

def r10_Trial.l0:Nat→List (S58)→Int→List (S31)→Int→Int→Option ((List (S31))×Int×Int)
 |0,_,_,_,_,_=>none
 |k+1,x1,x6,x6000,x6001,x6002=>if x6<(x1.length:Int) then (if 0≤x6 then ((r10_Do.f k x6000 ((rd_T58 x1 x6).f0) ((rd_T58 x1 x6).f1) ((rd_T58 x1 x6).f2) ((rd_T58 x1 x6).f3.f0) ((rd_T58 x1 x6).f3.f1) ((rd_T58 x1 x6).f3.f2) (-1)).bind fun bt7=>(if bt7.2=0 then (r10_Trial.l0 k x1 (wrap64 (x6+1)) bt7.1 (wrap64 (x6001+1)) x6002) else (some (x6000,x6001,bt7.2)))) else (none)) else (some (x6000,x6001,x6002))
def r10_Trial.f (k:Nat) (l0:List (S31)) (l1:List (S58)):Option ((List (S31))×Int×Int):=(r10_copied.f l0).bind fun t2=>(r10_Trial.l0 k l1 0 t2 0 0)
theorem r10_Trial.mono_l: ∀k,(∀y0 y1 y2 y3 y4,LeO (r10_Trial.l0 k y0 y1 y2 y3 y4) (r10_Trial.l0 (k+1) y0 y1 y2 y3 y4))
 |0=>fun _ _ _ _ _ r h=>by simp [r10_Trial.l0] at h
 |k+1=>by
  have ih0:=r10_Trial.mono_l k
  intro y0 y1 y2 y3 y4
  unfold r10_Trial.l0
  repeat' first
  |(with_reducible exact ih0 _ _ _ _ _)
  |(with_reducible exact r10_Do.mono _ _ _ _ _ _ _ _ _)
  |(with_reducible exact LeO.refl _)
  |(with_reducible exact LeO.none _)
  |(with_reducible refine LeO.ite ?_ ?_)
  |(with_reducible refine LeO.bind ?_ (fun _=> ?_))
  |exact ih0 _ _ _ _ _
  |exact r10_Do.mono _ _ _ _ _ _ _ _ _
  |exact LeO.none _
  |refine LeO.ite ?_ ?_
  |refine LeO.bind ?_ (fun _=> ?_)
theorem r10_Trial.mono: ∀a0 a1 k,LeO (r10_Trial.f k a0 a1) (r10_Trial.f (k+1) a0 a1):=by
 intro a0 a1 k
 have ih0:=r10_Trial.mono_l k
 unfold r10_Trial.f
 repeat' first
  |(with_reducible exact ih0 _ _ _ _ _)
  |(with_reducible exact r10_Do.mono _ _ _ _ _ _ _ _ _)
  |(with_reducible exact LeO.refl _)
  |(with_reducible exact LeO.none _)
  |(with_reducible refine LeO.ite ?_ ?_)
  |(with_reducible refine LeO.bind ?_ (fun _=> ?_))
  |exact ih0 _ _ _ _ _
  |exact r10_Do.mono _ _ _ _ _ _ _ _ _
  |exact LeO.none _
  |refine LeO.ite ?_ ?_
  |refine LeO.bind ?_ (fun _=> ?_)
def r10_Trial.T5:Bool×List (List Nat×List Nat):=(true,[([],[]),([0],[0]),([],[]),([],[]),([2,3],[2,3]),([4],[4]),([1,5],[1,5]),([],[]),([7,6,6,0,1,2,3,4,5,6,7],[6,7])])
def r10_Trial.B5:List Nat:=[0,1,0,0,12,28,63,0,255]
theorem r10_Trial.tab5:rtab .any (opsOf Try.f100 5)=r10_Trial.T5:=by kernel_rfl
theorem r10_Trial.bits5:waitsOk r10_Trial.T5.2 r10_Trial.B5=true:=by kernel_rfl
set_option maxHeartbeats 8000000 in
set_option maxRecDepth 100000 in
theorem r10_Trial.calls (k:Nat) (A0:Option Addr) (c0:Nat) (l0:List (S31)) (A1:Option Addr) (c1:Nat) (l1:List (S58)) (r1:List (S31)) (r2:Int) (r3:Int) (w:World) (hr0:Kd.C k31 w A0 l0.length l0) (hc0:l0.length≤c0) (hr1:Kd.C k58 w A1 l1.length l1) (hc1:l1.length≤c1) (h:r10_Trial.f k l0 l1=some (r1,r2,r3)):
  Calls Try.prog 100 #[.slice A0 l0.length c0, .slice A1 l1.length c1] w fun e w'=> ∃v0_:Value,e= .returned (.agg #[v0_, .int .i64 r2, .int .i64 r3])∧Kd.R k31 31 w' w.heap.size (fun _=>True) v0_ r1∧Below w.heap.size w w':=by
 have HR0:=Aside0.mk hr0
 have HC0:=Aside0.mk hc0
 clear hr0 hc0
 have HR1:=Aside0.mk hr1
 clear hr1 hc1
 have HB:=am_ (Below.refl w.heap.size w)
 have H:((r10_copied.f l0).bind fun t2=>(r10_Trial.l0 k l1 0 t2 0 0))=some (r1,r2,r3):=h
 clear h
 replace H:=Option.bind_eq_some_iff.mp H
 obtain ⟨t2,A30,H⟩:=H
 try dsimp only at H
 have A3:=Aside0.mk A30
 clear A30
 have H':=Aside0.mk H
 clear H
 go_enter Try.func100,Try.ntmps100
 go_wp2_with (first|((with_reducible refine gate_dst (N:=4) rfl ?_);refine bx_ (N:=4) (cs:=#[.slice none 0 0, .int .i64 0, .int .i64 0]) (t:=116) ?_;intro gb1 hg w4 hbox hb;have n0_:=am_ (below_step (zl0_ HB) hb);have n1_:=am_ (hbox);have n2_:=am_ ((zg0_ HB hg:w.heap.size≤gb1));have n3_:=am_ ((zg0_ HB hg:w.heap.size≤gb1));clear HB;have HB:=n0_;have BK1:=n1_;have GE1:=n3_;clear n0_ n1_ n2_ n3_;clear hb hbox hg)|((with_reducible refine gate_callee (f:=124) rfl ?_);refine gl_ (some 9) Try.func124 #[.slice A0 l0.length c0] ?_;(with_reducible refine (r10_copied.calls _ _ l0 t2 _ ?side1 ?side2 A3.out).mono ?_);(case side1=>exact zc_ (Kd.C_below HR0.out HB.out));(case side2=>exact HC0.out);rintro e w5 ⟨v3,rfl,ho0,hb⟩;refine ⟨_,rfl, ?_⟩;have HO4:=am_ (Kd.R_lower ho0 (below_size (zl1_ HB GE1)));replace BK1:=am_ (blk_below (zb_ BK1) hb);replace HB:=am_ (below_step (zl1_ HB GE1) hb);(try clear hb);(try clear hb2);(try clear hk);(try clear hi);(try clear ho0);obtain ⟨Ao6,co6,eo6⟩:=Kd.R_slice HO4.out;subst eo6)|((with_reducible refine gate_dst (N:=5) rfl ?_);refine bx_ (N:=5) (cs:=#[.slice none 0 0, .int .i64 0, .int .i64 0]) (t:=116) ?_;intro gb5 hg w7 hbox hb;have n0_:=am_ (Kd.R_below (zr_ HO4) hb);have n1_:=am_ (blk_below (zb_ BK1) hb);have n2_:=am_ (below_step (zl1_ HB GE1) hb);have n3_:=am_ (hbox);have n4_:=am_ ((zg1_ HB GE1 hg:w.heap.size≤gb5));have n5_:=am_ ((zg1_ HB GE1 hg:w.heap.size≤gb5));have n6_:=am_ ((zn_ BK1 hg:gb1≠gb5));have n7_:=am_ ((zm_ BK1 hg:gb5≠gb1));clear HO4;clear BK1;clear HB;have HO4:=n0_;have BK1:=n1_;have HB:=n2_;have BK5:=n3_;have GE5:=n5_;have NB1_5:=n6_;have NB5_1:=n7_;clear n0_ n1_ n2_ n3_ n4_ n5_ n6_ n7_;clear hb hbox hg;obtain ⟨hcz9_0,hcz9_1,hcz9_2⟩:=x3_ BK5;have hfz9_0:=blk_frozen BK5.out 0;have hfz9_1:=blk_frozen BK5.out 1;have hfz9_2:=blk_frozen BK5.out 2))
 go_loopg [6] k (fun kq v6 w'=> ∃(x6_1:Int) (x2001_1:Int) (x2002_1:Int) (x6000_1:List (S31)) (x6001_1:Int) (x6002_1:Int) (u6000:Value),v6= .int .i64 x6_1∧Aside0 (r10_Trial.l0 kq l1 x6_1 x6000_1 x6001_1 x6002_1=some (r1,r2,r3))∧Aside0 (kq≤k)∧Aside0 (Kd.R k31 31 w' w.heap.size (fun _=>True) u6000 x6000_1)∧Aside0 (w'.heap[gb1]?=some (.cells #[(.slice none 0 0), .int .i64 x2001_1, .int .i64 x2002_1] 116 (0,0)))∧Aside0 (w'.heap[gb5]?=some (.cells #[u6000, .int .i64 x6001_1, .int .i64 x6002_1] 116 (0,0)))∧Aside0 (Below w.heap.size w w'))
 case atStart=>exact ⟨(0),(0),(0),(t2),(0),(0),(.slice Ao6 t2.length co6),(by first|rfl|(simp;done)|(simp [*];done)),H',⟨Nat.le_refl _⟩,⟨zy_ HO4 BK5⟩,⟨zw_ BK1⟩,⟨zw_ BK5⟩,⟨zl2_ HB GE1 GE5⟩⟩
 case round=>
  clear H'
  try clear c1
  try clear p2
  try clear c8
  try clear hcz9_0
  try clear hcz9_1
  try clear hcz9_2
  try clear hfz9_0
  try clear hfz9_1
  try clear hfz9_2
  obtain ⟨x6_1,x2001_1,x2002_1,x6000_1,x6001_1,x6002_1,u6000,rfl,HA,HK1,HO_6000,BK1,BK5,HB⟩:=hrel
  cases gk with
  |zero=>exact absurd HA.out (by simp [r10_Trial.l0])
  |succ k1=>
   have H:=HA.out
   clear HA
   simp only [r10_Trial.l0] at H
   by_cases c10:x6_1<(l1.length:Int)
   rotate_left
   ·rw [if_neg c10] at H
    have c10b0:decide (x6_1<(l1.length:Int))=false:=decide_eq_false c10
    clear c10
    simp only [Option.some.injEq,Prod.mk.injEq] at H
    obtain ⟨rfl,rfl,rfl⟩:=H
    obtain ⟨hcz42_0,hcz42_1,hcz42_2⟩:=x3_ BK5
    obtain ⟨Ao43,co43,eo43⟩:=Kd.R_slice HO_6000.out
    subst eo43
    obtain ⟨hcz44_0,hcz44_1,hcz44_2,hfz44_0,hfz44_1,hfz44_2⟩:=y3_ BK1
    go_wp2
    refine bodyPost_ret (results_cell_row rfl _ _ gb1 116 #[.slice Ao43 x6000_1.length co43, .int .i64 x6001_1, .int .i64 x6002_1] (0,0) _ rfl (zw_ BK1) Try.underlying116 rfl (by kernel_rfl)) rfl ?_
    exact ⟨_,by first|rfl|(simp [errW_none,errW_some]<;>rfl)|(simp [*,errW_none,errW_some]<;>rfl),zy_ HO_6000 BK1,zl2_ HB GE1 GE5⟩

   rw [if_pos c10] at H
   have c10b0:decide (x6_1<(l1.length:Int))=true:=decide_eq_true c10
   clear c10
   by_cases c11:0≤x6_1
   rotate_left
   ·rw [if_neg c11] at H
    exact absurd H (by simp)
   rw [if_pos c11] at H
   have c11b0:decide (0≤x6_1)=true:=decide_eq_true c11
   clear c11
   replace H:=Option.bind_eq_some_iff.mp H
   obtain ⟨⟨t7,t10⟩,A120,H⟩:=H
   try dsimp only at H
   have A12:=Aside0.mk A120
   clear A120
   by_cases c13:t10=0
   ·rw [if_pos c13] at H
    have c13b1:(t10 !=0)=false:=bne_eq_false_iff_eq.mpr c13
    clear c13
    have H':=Aside0.mk H
    clear H
    obtain ⟨Ao14,co14,eo14⟩:=Kd.R_slice HO_6000.out
    subst eo14
    try go_wp2
    replace HO_6000:=am_ (Kd.R_drew HO_6000.out)
    replace BK1:=am_ (blk_drew BK1.out)
    replace BK5:=am_ (blk_drew BK5.out)
    replace HB:=am_ (below_drew1 HB.out)
    have p6:0≤(x6_1:Int):=of_decide_eq_true zq_
    have q6:x6_1<(l1.length:Int):=of_decide_eq_true zq_
    obtain ⟨ad6,e6,hx6_0,hx6_1,hx6_2,hx6_3,hx6_4,hx6_5⟩:=at_T58 HR1.out x6_1 p6 q6
    have hw6_5:=hx6_5
    have hw6_4:=hx6_4
    have hw6_3:=hx6_3
    have hw6_2:=hx6_2
    have hw6_1:=hx6_1
    have hw6_0:=hx6_0
    cases e6
    replace hx6_0:=zx_ HB hx6_0
    replace hx6_1:=zx_ HB hx6_1
    replace hx6_2:=zx_ HB hx6_2
    replace hx6_3:=zx_ HB hx6_3
    replace hx6_4:=zx_ HB hx6_4
    replace hx6_5:=zx_ HB hx6_5
    replace p6:=eq_true p6
    replace q6:=eq_true q6
    refine start_ (n:=9) (S:=fun w'=>w'.cell? ⟨gb5,0,none⟩=some (.slice Ao14 x6000_1.length co14)∧w'.cell? ⟨gb5,1,none⟩=some (.int .i64 x6001_1)∧w'.cell? ⟨gb5,2,none⟩=some (.int .i64 x6002_1)∧w'.cell? (ad6.add ((x6_1).toNat*6))=some (.int .i64 ((rd_T58 l1 x6_1).f0))∧w'.cell? ⟨(ad6.add ((x6_1).toNat*6)).block,(ad6.add ((x6_1).toNat*6)).off+1,none⟩=some (.string ((rd_T58 l1 x6_1).f1))∧w'.cell? ⟨(ad6.add ((x6_1).toNat*6)).block,(ad6.add ((x6_1).toNat*6)).off+2,none⟩=some (.string ((rd_T58 l1 x6_1).f2))∧w'.cell? ⟨(ad6.add ((x6_1).toNat*6)).block,(ad6.add ((x6_1).toNat*6)).off+3,none⟩=some (.int .i64 ((rd_T58 l1 x6_1).f3.f0))∧w'.cell? ⟨(ad6.add ((x6_1).toNat*6)).block,(ad6.add ((x6_1).toNat*6)).off+4,none⟩=some (.int .i64 ((rd_T58 l1 x6_1).f3.f1))∧w'.cell? ⟨(ad6.add ((x6_1).toNat*6)).block,(ad6.add ((x6_1).toNat*6)).off+5,none⟩=some (.int .i64 ((rd_T58 l1 x6_1).f3.f2))) (ds:=[]) (bt_ 9 0) (by kernel_rfl) rfl rfl ⟨(blk_cell BK5.out 0).trans rfl,(blk_cell BK5.out 1).trans rfl,(blk_cell BK5.out 2).trans rfl,(zx_ HB hw6_0),(zx_ HB hw6_1),(zx_ HB hw6_2),(zx_ HB hw6_3),(zx_ HB hw6_4),(zx_ HB hw6_5)⟩ (fun hHeld=> ?_);refine with_tabW r10_Trial.tab5 r10_Trial.bits5 (fun HT_ HW_=> ?_)
    generalize wr.drew=w15 at HO_6000 BK1 BK5 HB hx6_0 hx6_1 hx6_2 hx6_3 hx6_4 hx6_5 hHeld ⊢
    refine pu_ (i:=0) (N:=some 17) (bt_ 9 1) HT_ ?_
    refine pu_ (i:=2) (N:=some 19) (bt_ 9 5) HT_ ?_
    refine pu_ (i:=3) (N:=some 20) (bt_ 9 13) HT_ ?_
    refine pu_ (i:=4) (N:=some 21) (bt_ 9 29) HT_ ?_
    refine tk_ (i:=1) (N:=some 18) (bt_ 9 31) HT_ HW_ hHeld ?_
    refine tk_ (i:=5) (N:=some 22) (bt_ 9 63) HT_ HW_ hHeld ?_
    refine join_ (σ:=Value×Nat) 1 (bt_ 9 255) (fun s_=> [(23, .agg #[s_.1, .int .i64 t10]),(7, .pointer (some ⟨s_.2,0,none⟩))]) (fun s_ w'=>(w'.cell? ⟨gb5,0,none⟩=some (.slice Ao14 x6000_1.length co14)∧w'.cell? ⟨gb5,1,none⟩=some (.int .i64 x6001_1)∧w'.cell? ⟨gb5,2,none⟩=some (.int .i64 x6002_1)∧w'.cell? (ad6.add ((x6_1).toNat*6))=some (.int .i64 ((rd_T58 l1 x6_1).f0))∧w'.cell? ⟨(ad6.add ((x6_1).toNat*6)).block,(ad6.add ((x6_1).toNat*6)).off+1,none⟩=some (.string ((rd_T58 l1 x6_1).f1))∧w'.cell? ⟨(ad6.add ((x6_1).toNat*6)).block,(ad6.add ((x6_1).toNat*6)).off+2,none⟩=some (.string ((rd_T58 l1 x6_1).f2))∧w'.cell? ⟨(ad6.add ((x6_1).toNat*6)).block,(ad6.add ((x6_1).toNat*6)).off+3,none⟩=some (.int .i64 ((rd_T58 l1 x6_1).f3.f0))∧w'.cell? ⟨(ad6.add ((x6_1).toNat*6)).block,(ad6.add ((x6_1).toNat*6)).off+4,none⟩=some (.int .i64 ((rd_T58 l1 x6_1).f3.f1))∧w'.cell? ⟨(ad6.add ((x6_1).toNat*6)).block,(ad6.add ((x6_1).toNat*6)).off+5,none⟩=some (.int .i64 ((rd_T58 l1 x6_1).f3.f2)))∧(Kd.R k31 31 w' w.heap.size (fun k_=>some k_≠(.slice Ao14 x6000_1.length co14:Value).ownBlock) s_.1 t7)∧(Kd.R k31 31 w' w.heap.size (fun k_=>some k_≠(s_.1:Value).ownBlock) (.slice Ao14 x6000_1.length co14) x6000_1)∧(w'.heap[gb1]?=some (.cells #[.slice none 0 0, .int .i64 x2001_1, .int .i64 x2002_1] 116 (0,0)))∧(w'.heap[s_.2]?=some (.cells #[.slice none 0 0, .int .i64 0] 67 (0,0)))∧(w'.heap[gb5]?=some (.cells #[.slice Ao14 x6000_1.length co14, .int .i64 x6001_1, .int .i64 x6002_1] 116 (0,0)))∧(w.heap.size≤s_.2)∧(w.heap.size≤s_.2)∧(gb1≠s_.2)∧(s_.2≠gb1)∧(gb5≠s_.2)∧(s_.2≠gb5)∧(Below w.heap.size w w')) ?_ ?_
    rotate_left
    ·intro hCont
     refine two_ (i:=6) (j:=7) (Ni:=some 23) (Nj:=some 7) (bt_ 9 127) (bt_ 9 191) rfl rfl rfl rfl (two_of HT_.out (by kernel_rfl)) (by decide) (by decide) (fun K hK=> ?_) (fun K hK=> ?_)
     ·skip
      refine gs_ Try.func58 #[.slice Ao14 x6000_1.length co14, .agg #[.int .i64 ((rd_T58 l1 x6_1).f0), .string ((rd_T58 l1 x6_1).f1), .string ((rd_T58 l1 x6_1).f2), .int .i64 ((rd_T58 l1 x6_1).f3.f0), .int .i64 ((rd_T58 l1 x6_1).f3.f1), .int .i64 ((rd_T58 l1 x6_1).f3.f2)], .int .i64 (-1)] ?_
      with_reducible refine (r10_Do.calls k1 _ _ x6000_1 ((rd_T58 l1 x6_1).f0) ((rd_T58 l1 x6_1).f1) ((rd_T58 l1 x6_1).f2) ((rd_T58 l1 x6_1).f3.f0) ((rd_T58 l1 x6_1).f3.f1) ((rd_T58 l1 x6_1).f3.f2) (-1) t7 t10 _ ?side1 ?side2 A12.out).mono ?_
      (case side1=>exact zc_ (Kd.R_reads' HO_6000.out).2.2)
      (case side2=>exact (Kd.R_reads' HO_6000.out).2.1)
      rintro e w16 ⟨v8,rfl,ho0,hb⟩
      refine ⟨_,rfl, ?_⟩
      have HO9:=am_ (Kd.R_lower (Kd.R_new' ho0 (Kd.R_lt (zr_ HO_6000))) (below_size (zl2_ HB GE1 GE5)))
      replace HO_6000:=am_ (Kd.R_elder' (zr_ HO_6000) (Kd.R_base ho0) hb)
      replace BK1:=am_ (blk_below (zb_ BK1) hb)
      replace BK5:=am_ (blk_below (zb_ BK5) hb)
      replace HB:=am_ (below_step (zl2_ HB GE1 GE5) hb)
      (try clear hb)
      (try clear hb2)
      (try clear hk)
      (try clear hi)
      (try clear ho0)
      refine hK.out _ _ ⟨(blk_cell BK5.out 0).trans rfl,(blk_cell BK5.out 1).trans rfl,(blk_cell BK5.out 2).trans rfl,(zx_ HB hw6_0),(zx_ HB hw6_1),(zx_ HB hw6_2),(zx_ HB hw6_3),(zx_ HB hw6_4),(zx_ HB hw6_5)⟩ (fun hHeld=> ?_)
      clear hK K
      refine no_ (N:=some 23) ?_
      refine on_ (i:=7) (N:=some 7) (bt_ 9 255) HT_ (fun K hK=> ?_)
      refine box_step ?hg (N:=7) ?hd (cs:=#[.slice none 0 0, .int .i64 0]) (t:=67) ?hr ?_;(case hd=>rfl);(case hg=>rfl);(case hr=>first|(go_simp;done)|(go_simp;rfl))
      intro gb11 hg w17 hbox hb
      replace HO_6000:=am_ (Kd.R_below (zr_ HO_6000) hb)
      replace HO9:=am_ (Kd.R_below (zr_ HO9) hb)
      have BK11:=am_ (hbox)
      have GW11:=am_ ((zg2_ HB GE1 GE5 hg:w.heap.size≤gb11))
      have GE11:=am_ ((zg2_ HB GE1 GE5 hg:w.heap.size≤gb11))
      replace HB:=am_ (below_step (zl2_ HB GE1 GE5) hb)
      have NB1_11:=am_ ((zn_ BK1 hg:gb1≠gb11))
      have NB11_1:=am_ ((zm_ BK1 hg:gb11≠gb1))
      replace BK1:=am_ (blk_below (zb_ BK1) hb)
      have NB5_11:=am_ ((zn_ BK5 hg:gb5≠gb11))
      have NB11_5:=am_ ((zm_ BK5 hg:gb11≠gb5))
      replace BK5:=am_ (blk_below (zb_ BK5) hb)
      clear hb hbox hg
      refine hK.out _ _ ⟨(blk_cell BK5.out 0).trans rfl,(blk_cell BK5.out 1).trans rfl,(blk_cell BK5.out 2).trans rfl,(zx_ HB hw6_0),(zx_ HB hw6_1),(zx_ HB hw6_2),(zx_ HB hw6_3),(zx_ HB hw6_4),(zx_ HB hw6_5)⟩ (fun hHeld=> ?_)
      clear hK K
      refine no_ (N:=some 7) ?_
      exact norm_ (by simp only [putAll,Act.put,List.setIfInBounds_toArray,List.set_cons_zero,List.set_cons_succ]) (hCont (v8,gb11) _ ⟨hHeld,(by refine zt_ ?_;exact Kd.R_mono HO9.out (fun _ hk=>hk.2)),(by refine zt_ ?_;exact Kd.R_mono HO_6000.out (fun _ hk=>hk.2)),(zb_ BK1),(zb_ BK11),(zb_ BK5),GW11.out,GE11.out,NB1_11.out,NB11_1.out,NB5_11.out,NB11_5.out,(zl3_ HB GE1 GE5 GE11)⟩)
     skip
     refine box_step ?hg (N:=7) ?hd (cs:=#[.slice none 0 0, .int .i64 0]) (t:=67) ?hr ?_;(case hd=>rfl);(case hg=>rfl);(case hr=>first|(go_simp;done)|(go_simp;rfl))
     intro gb11 hg w16 hbox hb
     replace HO_6000:=am_ (Kd.R_below (zr_ HO_6000) hb)
     have BK11:=am_ (hbox)
     have GW11:=am_ ((zg2_ HB GE1 GE5 hg:w.heap.size≤gb11))
     have GE11:=am_ ((zg2_ HB GE1 GE5 hg:w.heap.size≤gb11))
     replace HB:=am_ (below_step (zl2_ HB GE1 GE5) hb)
     have NB1_11:=am_ ((zn_ BK1 hg:gb1≠gb11))
     have NB11_1:=am_ ((zm_ BK1 hg:gb11≠gb1))
     replace BK1:=am_ (blk_below (zb_ BK1) hb)
     have NB5_11:=am_ ((zn_ BK5 hg:gb5≠gb11))
     have NB11_5:=am_ ((zm_ BK5 hg:gb11≠gb5))
     replace BK5:=am_ (blk_below (zb_ BK5) hb)
     clear hb hbox hg
     refine hK.out _ _ ⟨(blk_cell BK5.out 0).trans rfl,(blk_cell BK5.out 1).trans rfl,(blk_cell BK5.out 2).trans rfl,(zx_ HB hw6_0),(zx_ HB hw6_1),(zx_ HB hw6_2),(zx_ HB hw6_3),(zx_ HB hw6_4),(zx_ HB hw6_5)⟩ (fun hHeld=> ?_)
     clear hK K
     refine no_ (N:=some 7) ?_
     refine on_ (i:=6) (N:=some 23) (bt_ 9 255) HT_ (fun K hK=> ?_)
     refine gs_ Try.func58 #[.slice Ao14 x6000_1.length co14, .agg #[.int .i64 ((rd_T58 l1 x6_1).f0), .string ((rd_T58 l1 x6_1).f1), .string ((rd_T58 l1 x6_1).f2), .int .i64 ((rd_T58 l1 x6_1).f3.f0), .int .i64 ((rd_T58 l1 x6_1).f3.f1), .int .i64 ((rd_T58 l1 x6_1).f3.f2)], .int .i64 (-1)] ?_
     with_reducible refine (r10_Do.calls k1 _ _ x6000_1 ((rd_T58 l1 x6_1).f0) ((rd_T58 l1 x6_1).f1) ((rd_T58 l1 x6_1).f2) ((rd_T58 l1 x6_1).f3.f0) ((rd_T58 l1 x6_1).f3.f1) ((rd_T58 l1 x6_1).f3.f2) (-1) t7 t10 _ ?side1 ?side2 A12.out).mono ?_
     (case side1=>exact zc_ (Kd.R_reads' HO_6000.out).2.2)
     (case side2=>exact (Kd.R_reads' HO_6000.out).2.1)
     rintro e w17 ⟨v8,rfl,ho0,hb⟩
     refine ⟨_,rfl, ?_⟩
     have HO9:=am_ (Kd.R_lower (Kd.R_new' ho0 (Kd.R_lt (zr_ HO_6000))) (below_size (zl3_ HB GE1 GE5 GE11)))
     replace HO_6000:=am_ (Kd.R_elder' (zr_ HO_6000) (Kd.R_base ho0) hb)
     replace BK1:=am_ (blk_below (zb_ BK1) hb)
     replace BK5:=am_ (blk_below (zb_ BK5) hb)
     replace BK11:=am_ (blk_below (zb_ BK11) hb)
     replace HB:=am_ (below_step (zl3_ HB GE1 GE5 GE11) hb)
     (try clear hb)
     (try clear hb2)
     (try clear hk)
     (try clear hi)
     (try clear ho0)
     refine hK.out _ _ ⟨(blk_cell BK5.out 0).trans rfl,(blk_cell BK5.out 1).trans rfl,(blk_cell BK5.out 2).trans rfl,(zx_ HB hw6_0),(zx_ HB hw6_1),(zx_ HB hw6_2),(zx_ HB hw6_3),(zx_ HB hw6_4),(zx_ HB hw6_5)⟩ (fun hHeld=> ?_)
     clear hK K
     refine no_ (N:=some 23) ?_
     exact norm_ (by simp only [putAll,Act.put,List.setIfInBounds_toArray,List.set_cons_zero,List.set_cons_succ]) (hCont (v8,gb11) _ ⟨hHeld,(by refine zt_ ?_;exact Kd.R_mono HO9.out (fun _ hk=>hk.2)),(by refine zt_ ?_;exact Kd.R_mono HO_6000.out (fun _ hk=>hk.2)),(zb_ BK1),(zb_ BK11),(zb_ BK5),GW11.out,GE11.out,NB1_11.out,NB11_1.out,NB5_11.out,NB11_5.out,(zl3_ HB GE1 GE5 GE11)⟩)
    rintro ⟨v8,gb11⟩ w18 ⟨hS_,h0_,h1_,h2_,h3_,h4_,h5_,h6_,h7_,h8_,h9_,h10_,h11_⟩
    have n0_:Aside0 (Kd.R k31 31 w18 w.heap.size (fun k_=>some k_≠(.slice Ao14 x6000_1.length co14:Value).ownBlock) v8 t7):=⟨h0_⟩
    have n1_:Aside0 (Kd.R k31 31 w18 w.heap.size (fun k_=>some k_≠(v8:Value).ownBlock) (.slice Ao14 x6000_1.length co14) x6000_1):=⟨h1_⟩
    have n2_:Aside0 (w18.heap[gb1]?=some (.cells #[.slice none 0 0, .int .i64 x2001_1, .int .i64 x2002_1] 116 (0,0))):=⟨h2_⟩
    have n3_:Aside0 (w18.heap[gb11]?=some (.cells #[.slice none 0 0, .int .i64 0] 67 (0,0))):=⟨h3_⟩
    have n4_:Aside0 (w18.heap[gb5]?=some (.cells #[.slice Ao14 x6000_1.length co14, .int .i64 x6001_1, .int .i64 x6002_1] 116 (0,0))):=⟨h4_⟩
    have n5_:Aside0 (w.heap.size≤gb11):=⟨h5_⟩
    have n6_:Aside0 (w.heap.size≤gb11):=⟨h6_⟩
    have n7_:Aside0 (gb1≠gb11):=⟨h7_⟩
    have n8_:Aside0 (gb11≠gb1):=⟨h8_⟩
    have n9_:Aside0 (gb5≠gb11):=⟨h9_⟩
    have n10_:Aside0 (gb11≠gb5):=⟨h10_⟩
    have n11_:Aside0 (Below w.heap.size w w18):=⟨h11_⟩
    clear HO_6000
    clear BK1
    clear BK5
    clear HB
    clear h0_ h1_ h2_ h3_ h4_ h5_ h6_ h7_ h8_ h9_ h10_ h11_
    have HO9:=n0_
    have HO_6000:=n1_
    have BK1:=n2_
    have BK11:=n3_
    have BK5:=n4_
    have GW11:=n5_
    have GE11:=n6_
    have NB1_11:=n7_
    have NB11_1:=n8_
    have NB5_11:=n9_
    have NB11_5:=n10_
    have HB:=n11_
    clear n0_ n1_ n2_ n3_ n4_ n5_ n6_ n7_ n8_ n9_ n10_ n11_
    have hHeld:w18.cell? ⟨gb5,0,none⟩=some (.slice Ao14 x6000_1.length co14)∧w18.cell? ⟨gb5,1,none⟩=some (.int .i64 x6001_1)∧w18.cell? ⟨gb5,2,none⟩=some (.int .i64 x6002_1)∧w18.cell? (ad6.add ((x6_1).toNat*6))=some (.int .i64 ((rd_T58 l1 x6_1).f0))∧w18.cell? ⟨(ad6.add ((x6_1).toNat*6)).block,(ad6.add ((x6_1).toNat*6)).off+1,none⟩=some (.string ((rd_T58 l1 x6_1).f1))∧w18.cell? ⟨(ad6.add ((x6_1).toNat*6)).block,(ad6.add ((x6_1).toNat*6)).off+2,none⟩=some (.string ((rd_T58 l1 x6_1).f2))∧w18.cell? ⟨(ad6.add ((x6_1).toNat*6)).block,(ad6.add ((x6_1).toNat*6)).off+3,none⟩=some (.int .i64 ((rd_T58 l1 x6_1).f3.f0))∧w18.cell? ⟨(ad6.add ((x6_1).toNat*6)).block,(ad6.add ((x6_1).toNat*6)).off+4,none⟩=some (.int .i64 ((rd_T58 l1 x6_1).f3.f1))∧w18.cell? ⟨(ad6.add ((x6_1).toNat*6)).block,(ad6.add ((x6_1).toNat*6)).off+5,none⟩=some (.int .i64 ((rd_T58 l1 x6_1).f3.f2)):=hS_
    obtain ⟨Ao19,co19,eo19⟩:=Kd.R_slice HO9.out
    (first|subst eo19|(injection eo19 with f1_ f2_ f3_;have f4_:=f1_.symm;have f5_:=f3_.symm;clear f1_ f2_ f3_;subst f4_;subst f5_))
    refine norm_ (a':= ?_) ?_ ?_
    rotate_left
    ·simp only [putAll,Act.put,List.setIfInBounds_toArray,List.set_cons_zero,List.set_cons_succ]
     rfl
    refine on_ (i:=8) (N:=none) (bt_ 9 511) HT_ (fun K hK=> ?_)
    have hs20:w18.cell? ⟨gb11,0,none⟩=some (.slice none 0 0):=(blk_cell BK11.out 0).trans rfl
    have hfs20:=blk_frozen BK11.out 0
    have hs21:w18.cell? ⟨gb11,1,none⟩=some (.int .i64 0):=(blk_cell BK11.out 1).trans rfl
    have hfs21:=blk_frozen BK11.out 1
    refine skip_ (w1:= ?_) (by rfl) rfl ?_ ?_
    rotate_left
    ·go_simp
     rfl
    refine hK.out _ _ ⟨((cell_far (p:=⟨gb11,_,none⟩) NB5_11.out _).trans (((cell_far (p:=⟨gb11,_,none⟩) NB5_11.out _).trans (hHeld.1)))),((cell_far (p:=⟨gb11,_,none⟩) NB5_11.out _).trans (((cell_far (p:=⟨gb11,_,none⟩) NB5_11.out _).trans (hHeld.2.1)))),((cell_far (p:=⟨gb11,_,none⟩) NB5_11.out _).trans (((cell_far (p:=⟨gb11,_,none⟩) NB5_11.out _).trans (hHeld.2.2.1)))),((cell_far (p:=⟨gb11,_,none⟩) (ze_ hw6_0 GW11) _).trans (((cell_far (p:=⟨gb11,_,none⟩) (ze_ hw6_0 GW11) _).trans (hHeld.2.2.2.1)))),((cell_far (p:=⟨gb11,_,none⟩) (ze_ hw6_1 GW11) _).trans (((cell_far (p:=⟨gb11,_,none⟩) (ze_ hw6_1 GW11) _).trans (hHeld.2.2.2.2.1)))),((cell_far (p:=⟨gb11,_,none⟩) (ze_ hw6_2 GW11) _).trans (((cell_far (p:=⟨gb11,_,none⟩) (ze_ hw6_2 GW11) _).trans (hHeld.2.2.2.2.2.1)))),((cell_far (p:=⟨gb11,_,none⟩) (ze_ hw6_3 GW11) _).trans (((cell_far (p:=⟨gb11,_,none⟩) (ze_ hw6_3 GW11) _).trans (hHeld.2.2.2.2.2.2.1)))),((cell_far (p:=⟨gb11,_,none⟩) (ze_ hw6_4 GW11) _).trans (((cell_far (p:=⟨gb11,_,none⟩) (ze_ hw6_4 GW11) _).trans (hHeld.2.2.2.2.2.2.2.1)))),((cell_far (p:=⟨gb11,_,none⟩) (ze_ hw6_5 GW11) _).trans (((cell_far (p:=⟨gb11,_,none⟩) (ze_ hw6_5 GW11) _).trans (hHeld.2.2.2.2.2.2.2.2))))⟩ (fun hHeld=> ?_)
    clear hK K
    refine done_ (done_of HT_.out (by kernel_rfl)) ?_
    have hfz26_0:=blk_frozen BK5.out 0
    have hfz26_1:=blk_frozen BK5.out 1
    try go_wp2
    go_roundg k1
    case measure=>have:=HK1.out;omega
    case rel=>exact ⟨(wrap64 (x6_1+1)),(x2001_1),(x2002_1),(t7),(wrap64 (x6001_1+1)),(x6002_1),(.slice Ao19 t7.length co19),(by first|rfl|(simp;done)|(simp [*];done)),H',⟨by have:=HK1.out;omega⟩,⟨by (with_reducible repeat (first|apply Kd.R_alloc|apply Kd.R_drewN|apply Kd.R_drew));exact Kd.R_mono (Kd.R_far (p:=⟨gb5,1,none⟩) (Kd.R_far (p:=⟨gb5,0,none⟩) (Kd.R_far (p:=⟨gb11,1,none⟩) (Kd.R_far (p:=⟨gb11,0,none⟩) (Kd.R_types (Kd.R_types HO9.out BK11.out (by decide)) BK5.out (by decide)) (fun _ hk=>hk.1.2) (.slice Ao19 t7.length co19)) (fun _ hk=>hk.1.2) (.int .i64 t10)) (fun _ hk=>hk.2) (.slice Ao19 t7.length co19)) (fun _ hk=>hk.2) (.int .i64 (wrap64 (x6001_1+1)))) (fun _ hk=>trivial)⟩,⟨zw_ BK1⟩,⟨zw_ BK5⟩,⟨zl3_ HB GE1 GE5 GE11⟩⟩
   rw [if_neg c13] at H
   have c13b1:(t10 !=0)=true:=bne_iff_ne.mpr c13
   simp only [Option.some.injEq,Prod.mk.injEq] at H
   obtain ⟨rfl,rfl,rfl⟩:=H
   obtain ⟨Ao27,co27,eo27⟩:=Kd.R_slice HO_6000.out
   subst eo27
   try go_wp2
   replace HO_6000:=am_ (Kd.R_drew HO_6000.out)
   replace BK1:=am_ (blk_drew BK1.out)
   replace BK5:=am_ (blk_drew BK5.out)
   replace HB:=am_ (below_drew1 HB.out)
   have p6:0≤(x6_1:Int):=of_decide_eq_true zq_
   have q6:x6_1<(l1.length:Int):=of_decide_eq_true zq_
   obtain ⟨ad6,e6,hx6_0,hx6_1,hx6_2,hx6_3,hx6_4,hx6_5⟩:=at_T58 HR1.out x6_1 p6 q6
   have hw6_5:=hx6_5
   have hw6_4:=hx6_4
   have hw6_3:=hx6_3
   have hw6_2:=hx6_2
   have hw6_1:=hx6_1
   have hw6_0:=hx6_0
   cases e6
   replace hx6_0:=zx_ HB hx6_0
   replace hx6_1:=zx_ HB hx6_1
   replace hx6_2:=zx_ HB hx6_2
   replace hx6_3:=zx_ HB hx6_3
   replace hx6_4:=zx_ HB hx6_4
   replace hx6_5:=zx_ HB hx6_5
   replace p6:=eq_true p6
   replace q6:=eq_true q6
   refine start_ (n:=9) (S:=fun w'=>w'.cell? ⟨gb5,0,none⟩=some (.slice Ao27 x6000_1.length co27)∧w'.cell? ⟨gb5,1,none⟩=some (.int .i64 x6001_1)∧w'.cell? ⟨gb5,2,none⟩=some (.int .i64 x6002_1)∧w'.cell? (ad6.add ((x6_1).toNat*6))=some (.int .i64 ((rd_T58 l1 x6_1).f0))∧w'.cell? ⟨(ad6.add ((x6_1).toNat*6)).block,(ad6.add ((x6_1).toNat*6)).off+1,none⟩=some (.string ((rd_T58 l1 x6_1).f1))∧w'.cell? ⟨(ad6.add ((x6_1).toNat*6)).block,(ad6.add ((x6_1).toNat*6)).off+2,none⟩=some (.string ((rd_T58 l1 x6_1).f2))∧w'.cell? ⟨(ad6.add ((x6_1).toNat*6)).block,(ad6.add ((x6_1).toNat*6)).off+3,none⟩=some (.int .i64 ((rd_T58 l1 x6_1).f3.f0))∧w'.cell? ⟨(ad6.add ((x6_1).toNat*6)).block,(ad6.add ((x6_1).toNat*6)).off+4,none⟩=some (.int .i64 ((rd_T58 l1 x6_1).f3.f1))∧w'.cell? ⟨(ad6.add ((x6_1).toNat*6)).block,(ad6.add ((x6_1).toNat*6)).off+5,none⟩=some (.int .i64 ((rd_T58 l1 x6_1).f3.f2))) (ds:=[]) (bt_ 9 0) (by kernel_rfl) rfl rfl ⟨(blk_cell BK5.out 0).trans rfl,(blk_cell BK5.out 1).trans rfl,(blk_cell BK5.out 2).trans rfl,(zx_ HB hw6_0),(zx_ HB hw6_1),(zx_ HB hw6_2),(zx_ HB hw6_3),(zx_ HB hw6_4),(zx_ HB hw6_5)⟩ (fun hHeld=> ?_);refine with_tabW r10_Trial.tab5 r10_Trial.bits5 (fun HT_ HW_=> ?_)
   generalize wr.drew=w28 at HO_6000 BK1 BK5 HB hx6_0 hx6_1 hx6_2 hx6_3 hx6_4 hx6_5 hHeld ⊢
   refine pu_ (i:=0) (N:=some 17) (bt_ 9 1) HT_ ?_
   refine pu_ (i:=2) (N:=some 19) (bt_ 9 5) HT_ ?_
   refine pu_ (i:=3) (N:=some 20) (bt_ 9 13) HT_ ?_
   refine pu_ (i:=4) (N:=some 21) (bt_ 9 29) HT_ ?_
   refine tk_ (i:=1) (N:=some 18) (bt_ 9 31) HT_ HW_ hHeld ?_
   refine tk_ (i:=5) (N:=some 22) (bt_ 9 63) HT_ HW_ hHeld ?_
   refine join_ (σ:=Value×Nat) 1 (bt_ 9 255) (fun s_=> [(23, .agg #[s_.1, .int .i64 t10]),(7, .pointer (some ⟨s_.2,0,none⟩))]) (fun s_ w'=>(w'.cell? ⟨gb5,0,none⟩=some (.slice Ao27 x6000_1.length co27)∧w'.cell? ⟨gb5,1,none⟩=some (.int .i64 x6001_1)∧w'.cell? ⟨gb5,2,none⟩=some (.int .i64 x6002_1)∧w'.cell? (ad6.add ((x6_1).toNat*6))=some (.int .i64 ((rd_T58 l1 x6_1).f0))∧w'.cell? ⟨(ad6.add ((x6_1).toNat*6)).block,(ad6.add ((x6_1).toNat*6)).off+1,none⟩=some (.string ((rd_T58 l1 x6_1).f1))∧w'.cell? ⟨(ad6.add ((x6_1).toNat*6)).block,(ad6.add ((x6_1).toNat*6)).off+2,none⟩=some (.string ((rd_T58 l1 x6_1).f2))∧w'.cell? ⟨(ad6.add ((x6_1).toNat*6)).block,(ad6.add ((x6_1).toNat*6)).off+3,none⟩=some (.int .i64 ((rd_T58 l1 x6_1).f3.f0))∧w'.cell? ⟨(ad6.add ((x6_1).toNat*6)).block,(ad6.add ((x6_1).toNat*6)).off+4,none⟩=some (.int .i64 ((rd_T58 l1 x6_1).f3.f1))∧w'.cell? ⟨(ad6.add ((x6_1).toNat*6)).block,(ad6.add ((x6_1).toNat*6)).off+5,none⟩=some (.int .i64 ((rd_T58 l1 x6_1).f3.f2)))∧(Kd.R k31 31 w' w.heap.size (fun k_=>some k_≠(.slice Ao27 x6000_1.length co27:Value).ownBlock) s_.1 t7)∧(Kd.R k31 31 w' w.heap.size (fun k_=>some k_≠(s_.1:Value).ownBlock) (.slice Ao27 x6000_1.length co27) x6000_1)∧(w'.heap[gb1]?=some (.cells #[.slice none 0 0, .int .i64 x2001_1, .int .i64 x2002_1] 116 (0,0)))∧(w'.heap[s_.2]?=some (.cells #[.slice none 0 0, .int .i64 0] 67 (0,0)))∧(w'.heap[gb5]?=some (.cells #[.slice Ao27 x6000_1.length co27, .int .i64 x6001_1, .int .i64 x6002_1] 116 (0,0)))∧(w.heap.size≤s_.2)∧(w.heap.size≤s_.2)∧(gb1≠s_.2)∧(s_.2≠gb1)∧(gb5≠s_.2)∧(s_.2≠gb5)∧(Below w.heap.size w w')) ?_ ?_
   rotate_left
   ·intro hCont
    refine two_ (i:=6) (j:=7) (Ni:=some 23) (Nj:=some 7) (bt_ 9 127) (bt_ 9 191) rfl rfl rfl rfl (two_of HT_.out (by kernel_rfl)) (by decide) (by decide) (fun K hK=> ?_) (fun K hK=> ?_)
    ·skip
     refine gs_ Try.func58 #[.slice Ao27 x6000_1.length co27, .agg #[.int .i64 ((rd_T58 l1 x6_1).f0), .string ((rd_T58 l1 x6_1).f1), .string ((rd_T58 l1 x6_1).f2), .int .i64 ((rd_T58 l1 x6_1).f3.f0), .int .i64 ((rd_T58 l1 x6_1).f3.f1), .int .i64 ((rd_T58 l1 x6_1).f3.f2)], .int .i64 (-1)] ?_
     with_reducible refine (r10_Do.calls k1 _ _ x6000_1 ((rd_T58 l1 x6_1).f0) ((rd_T58 l1 x6_1).f1) ((rd_T58 l1 x6_1).f2) ((rd_T58 l1 x6_1).f3.f0) ((rd_T58 l1 x6_1).f3.f1) ((rd_T58 l1 x6_1).f3.f2) (-1) t7 t10 _ ?side1 ?side2 A12.out).mono ?_
     (case side1=>exact zc_ (Kd.R_reads' HO_6000.out).2.2)
     (case side2=>exact (Kd.R_reads' HO_6000.out).2.1)
     rintro e w29 ⟨v8,rfl,ho0,hb⟩
     refine ⟨_,rfl, ?_⟩
     have HO9:=am_ (Kd.R_lower (Kd.R_new' ho0 (Kd.R_lt (zr_ HO_6000))) (below_size (zl2_ HB GE1 GE5)))
     replace HO_6000:=am_ (Kd.R_elder' (zr_ HO_6000) (Kd.R_base ho0) hb)
     replace BK1:=am_ (blk_below (zb_ BK1) hb)
     replace BK5:=am_ (blk_below (zb_ BK5) hb)
     replace HB:=am_ (below_step (zl2_ HB GE1 GE5) hb)
     (try clear hb)
     (try clear hb2)
     (try clear hk)
     (try clear hi)
     (try clear ho0)
     refine hK.out _ _ ⟨(blk_cell BK5.out 0).trans rfl,(blk_cell BK5.out 1).trans rfl,(blk_cell BK5.out 2).trans rfl,(zx_ HB hw6_0),(zx_ HB hw6_1),(zx_ HB hw6_2),(zx_ HB hw6_3),(zx_ HB hw6_4),(zx_ HB hw6_5)⟩ (fun hHeld=> ?_)
     clear hK K
     refine no_ (N:=some 23) ?_
     refine on_ (i:=7) (N:=some 7) (bt_ 9 255) HT_ (fun K hK=> ?_)
     refine box_step ?hg (N:=7) ?hd (cs:=#[.slice none 0 0, .int .i64 0]) (t:=67) ?hr ?_;(case hd=>rfl);(case hg=>rfl);(case hr=>first|(go_simp;done)|(go_simp;rfl))
     intro gb11 hg w30 hbox hb
     replace HO_6000:=am_ (Kd.R_below (zr_ HO_6000) hb)
     replace HO9:=am_ (Kd.R_below (zr_ HO9) hb)
     have BK11:=am_ (hbox)
     have GW11:=am_ ((zg2_ HB GE1 GE5 hg:w.heap.size≤gb11))
     have GE11:=am_ ((zg2_ HB GE1 GE5 hg:w.heap.size≤gb11))
     replace HB:=am_ (below_step (zl2_ HB GE1 GE5) hb)
     have NB1_11:=am_ ((zn_ BK1 hg:gb1≠gb11))
     have NB11_1:=am_ ((zm_ BK1 hg:gb11≠gb1))
     replace BK1:=am_ (blk_below (zb_ BK1) hb)
     have NB5_11:=am_ ((zn_ BK5 hg:gb5≠gb11))
     have NB11_5:=am_ ((zm_ BK5 hg:gb11≠gb5))
     replace BK5:=am_ (blk_below (zb_ BK5) hb)
     clear hb hbox hg
     refine hK.out _ _ ⟨(blk_cell BK5.out 0).trans rfl,(blk_cell BK5.out 1).trans rfl,(blk_cell BK5.out 2).trans rfl,(zx_ HB hw6_0),(zx_ HB hw6_1),(zx_ HB hw6_2),(zx_ HB hw6_3),(zx_ HB hw6_4),(zx_ HB hw6_5)⟩ (fun hHeld=> ?_)
     clear hK K
     refine no_ (N:=some 7) ?_
     exact norm_ (by simp only [putAll,Act.put,List.setIfInBounds_toArray,List.set_cons_zero,List.set_cons_succ]) (hCont (v8,gb11) _ ⟨hHeld,(by refine zt_ ?_;exact Kd.R_mono HO9.out (fun _ hk=>hk.2)),(by refine zt_ ?_;exact Kd.R_mono HO_6000.out (fun _ hk=>hk.2)),(zb_ BK1),(zb_ BK11),(zb_ BK5),GW11.out,GE11.out,NB1_11.out,NB11_1.out,NB5_11.out,NB11_5.out,(zl3_ HB GE1 GE5 GE11)⟩)
    skip
    refine box_step ?hg (N:=7) ?hd (cs:=#[.slice none 0 0, .int .i64 0]) (t:=67) ?hr ?_;(case hd=>rfl);(case hg=>rfl);(case hr=>first|(go_simp;done)|(go_simp;rfl))
    intro gb11 hg w29 hbox hb
    replace HO_6000:=am_ (Kd.R_below (zr_ HO_6000) hb)
    have BK11:=am_ (hbox)
    have GW11:=am_ ((zg2_ HB GE1 GE5 hg:w.heap.size≤gb11))
    have GE11:=am_ ((zg2_ HB GE1 GE5 hg:w.heap.size≤gb11))
    replace HB:=am_ (below_step (zl2_ HB GE1 GE5) hb)
    have NB1_11:=am_ ((zn_ BK1 hg:gb1≠gb11))
    have NB11_1:=am_ ((zm_ BK1 hg:gb11≠gb1))
    replace BK1:=am_ (blk_below (zb_ BK1) hb)
    have NB5_11:=am_ ((zn_ BK5 hg:gb5≠gb11))
    have NB11_5:=am_ ((zm_ BK5 hg:gb11≠gb5))
    replace BK5:=am_ (blk_below (zb_ BK5) hb)
    clear hb hbox hg
    refine hK.out _ _ ⟨(blk_cell BK5.out 0).trans rfl,(blk_cell BK5.out 1).trans rfl,(blk_cell BK5.out 2).trans rfl,(zx_ HB hw6_0),(zx_ HB hw6_1),(zx_ HB hw6_2),(zx_ HB hw6_3),(zx_ HB hw6_4),(zx_ HB hw6_5)⟩ (fun hHeld=> ?_)
    clear hK K
    refine no_ (N:=some 7) ?_
    refine on_ (i:=6) (N:=some 23) (bt_ 9 255) HT_ (fun K hK=> ?_)
    refine gs_ Try.func58 #[.slice Ao27 x6000_1.length co27, .agg #[.int .i64 ((rd_T58 l1 x6_1).f0), .string ((rd_T58 l1 x6_1).f1), .string ((rd_T58 l1 x6_1).f2), .int .i64 ((rd_T58 l1 x6_1).f3.f0), .int .i64 ((rd_T58 l1 x6_1).f3.f1), .int .i64 ((rd_T58 l1 x6_1).f3.f2)], .int .i64 (-1)] ?_
    with_reducible refine (r10_Do.calls k1 _ _ x6000_1 ((rd_T58 l1 x6_1).f0) ((rd_T58 l1 x6_1).f1) ((rd_T58 l1 x6_1).f2) ((rd_T58 l1 x6_1).f3.f0) ((rd_T58 l1 x6_1).f3.f1) ((rd_T58 l1 x6_1).f3.f2) (-1) t7 t10 _ ?side1 ?side2 A12.out).mono ?_
    (case side1=>exact zc_ (Kd.R_reads' HO_6000.out).2.2)
    (case side2=>exact (Kd.R_reads' HO_6000.out).2.1)
    rintro e w30 ⟨v8,rfl,ho0,hb⟩
    refine ⟨_,rfl, ?_⟩
    have HO9:=am_ (Kd.R_lower (Kd.R_new' ho0 (Kd.R_lt (zr_ HO_6000))) (below_size (zl3_ HB GE1 GE5 GE11)))
    replace HO_6000:=am_ (Kd.R_elder' (zr_ HO_6000) (Kd.R_base ho0) hb)
    replace BK1:=am_ (blk_below (zb_ BK1) hb)
    replace BK5:=am_ (blk_below (zb_ BK5) hb)
    replace BK11:=am_ (blk_below (zb_ BK11) hb)
    replace HB:=am_ (below_step (zl3_ HB GE1 GE5 GE11) hb)
    (try clear hb)
    (try clear hb2)
    (try clear hk)
    (try clear hi)
    (try clear ho0)
    refine hK.out _ _ ⟨(blk_cell BK5.out 0).trans rfl,(blk_cell BK5.out 1).trans rfl,(blk_cell BK5.out 2).trans rfl,(zx_ HB hw6_0),(zx_ HB hw6_1),(zx_ HB hw6_2),(zx_ HB hw6_3),(zx_ HB hw6_4),(zx_ HB hw6_5)⟩ (fun hHeld=> ?_)
    clear hK K
    refine no_ (N:=some 23) ?_
    exact norm_ (by simp only [putAll,Act.put,List.setIfInBounds_toArray,List.set_cons_zero,List.set_cons_succ]) (hCont (v8,gb11) _ ⟨hHeld,(by refine zt_ ?_;exact Kd.R_mono HO9.out (fun _ hk=>hk.2)),(by refine zt_ ?_;exact Kd.R_mono HO_6000.out (fun _ hk=>hk.2)),(zb_ BK1),(zb_ BK11),(zb_ BK5),GW11.out,GE11.out,NB1_11.out,NB11_1.out,NB5_11.out,NB11_5.out,(zl3_ HB GE1 GE5 GE11)⟩)
   rintro ⟨v8,gb11⟩ w31 ⟨hS_,h0_,h1_,h2_,h3_,h4_,h5_,h6_,h7_,h8_,h9_,h10_,h11_⟩
   have n0_:Aside0 (Kd.R k31 31 w31 w.heap.size (fun k_=>some k_≠(.slice Ao27 x6000_1.length co27:Value).ownBlock) v8 t7):=⟨h0_⟩
   have n1_:Aside0 (Kd.R k31 31 w31 w.heap.size (fun k_=>some k_≠(v8:Value).ownBlock) (.slice Ao27 x6000_1.length co27) x6000_1):=⟨h1_⟩
   have n2_:Aside0 (w31.heap[gb1]?=some (.cells #[.slice none 0 0, .int .i64 x2001_1, .int .i64 x2002_1] 116 (0,0))):=⟨h2_⟩
   have n3_:Aside0 (w31.heap[gb11]?=some (.cells #[.slice none 0 0, .int .i64 0] 67 (0,0))):=⟨h3_⟩
   have n4_:Aside0 (w31.heap[gb5]?=some (.cells #[.slice Ao27 x6000_1.length co27, .int .i64 x6001_1, .int .i64 x6002_1] 116 (0,0))):=⟨h4_⟩
   have n5_:Aside0 (w.heap.size≤gb11):=⟨h5_⟩
   have n6_:Aside0 (w.heap.size≤gb11):=⟨h6_⟩
   have n7_:Aside0 (gb1≠gb11):=⟨h7_⟩
   have n8_:Aside0 (gb11≠gb1):=⟨h8_⟩
   have n9_:Aside0 (gb5≠gb11):=⟨h9_⟩
   have n10_:Aside0 (gb11≠gb5):=⟨h10_⟩
   have n11_:Aside0 (Below w.heap.size w w31):=⟨h11_⟩
   clear HO_6000
   clear BK1
   clear BK5
   clear HB
   clear h0_ h1_ h2_ h3_ h4_ h5_ h6_ h7_ h8_ h9_ h10_ h11_
   have HO9:=n0_
   have HO_6000:=n1_
   have BK1:=n2_
   have BK11:=n3_
   have BK5:=n4_
   have GW11:=n5_
   have GE11:=n6_
   have NB1_11:=n7_
   have NB11_1:=n8_
   have NB5_11:=n9_
   have NB11_5:=n10_
   have HB:=n11_
   clear n0_ n1_ n2_ n3_ n4_ n5_ n6_ n7_ n8_ n9_ n10_ n11_
   have hHeld:w31.cell? ⟨gb5,0,none⟩=some (.slice Ao27 x6000_1.length co27)∧w31.cell? ⟨gb5,1,none⟩=some (.int .i64 x6001_1)∧w31.cell? ⟨gb5,2,none⟩=some (.int .i64 x6002_1)∧w31.cell? (ad6.add ((x6_1).toNat*6))=some (.int .i64 ((rd_T58 l1 x6_1).f0))∧w31.cell? ⟨(ad6.add ((x6_1).toNat*6)).block,(ad6.add ((x6_1).toNat*6)).off+1,none⟩=some (.string ((rd_T58 l1 x6_1).f1))∧w31.cell? ⟨(ad6.add ((x6_1).toNat*6)).block,(ad6.add ((x6_1).toNat*6)).off+2,none⟩=some (.string ((rd_T58 l1 x6_1).f2))∧w31.cell? ⟨(ad6.add ((x6_1).toNat*6)).block,(ad6.add ((x6_1).toNat*6)).off+3,none⟩=some (.int .i64 ((rd_T58 l1 x6_1).f3.f0))∧w31.cell? ⟨(ad6.add ((x6_1).toNat*6)).block,(ad6.add ((x6_1).toNat*6)).off+4,none⟩=some (.int .i64 ((rd_T58 l1 x6_1).f3.f1))∧w31.cell? ⟨(ad6.add ((x6_1).toNat*6)).block,(ad6.add ((x6_1).toNat*6)).off+5,none⟩=some (.int .i64 ((rd_T58 l1 x6_1).f3.f2)):=hS_
   obtain ⟨Ao32,co32,eo32⟩:=Kd.R_slice HO9.out
   (first|subst eo32|(injection eo32 with f1_ f2_ f3_;have f4_:=f1_.symm;have f5_:=f3_.symm;clear f1_ f2_ f3_;subst f4_;subst f5_))
   refine norm_ (a':= ?_) ?_ ?_
   rotate_left
   ·simp only [putAll,Act.put,List.setIfInBounds_toArray,List.set_cons_zero,List.set_cons_succ]
    rfl
   refine on_ (i:=8) (N:=none) (bt_ 9 511) HT_ (fun K hK=> ?_)
   have hs33:w31.cell? ⟨gb11,0,none⟩=some (.slice none 0 0):=(blk_cell BK11.out 0).trans rfl
   have hfs33:=blk_frozen BK11.out 0
   have hs34:w31.cell? ⟨gb11,1,none⟩=some (.int .i64 0):=(blk_cell BK11.out 1).trans rfl
   have hfs34:=blk_frozen BK11.out 1
   refine skip_ (w1:= ?_) (by rfl) rfl ?_ ?_
   rotate_left
   ·go_simp
    rfl
   refine hK.out _ _ ⟨((cell_far (p:=⟨gb11,_,none⟩) NB5_11.out _).trans (((cell_far (p:=⟨gb11,_,none⟩) NB5_11.out _).trans (hHeld.1)))),((cell_far (p:=⟨gb11,_,none⟩) NB5_11.out _).trans (((cell_far (p:=⟨gb11,_,none⟩) NB5_11.out _).trans (hHeld.2.1)))),((cell_far (p:=⟨gb11,_,none⟩) NB5_11.out _).trans (((cell_far (p:=⟨gb11,_,none⟩) NB5_11.out _).trans (hHeld.2.2.1)))),((cell_far (p:=⟨gb11,_,none⟩) (ze_ hw6_0 GW11) _).trans (((cell_far (p:=⟨gb11,_,none⟩) (ze_ hw6_0 GW11) _).trans (hHeld.2.2.2.1)))),((cell_far (p:=⟨gb11,_,none⟩) (ze_ hw6_1 GW11) _).trans (((cell_far (p:=⟨gb11,_,none⟩) (ze_ hw6_1 GW11) _).trans (hHeld.2.2.2.2.1)))),((cell_far (p:=⟨gb11,_,none⟩) (ze_ hw6_2 GW11) _).trans (((cell_far (p:=⟨gb11,_,none⟩) (ze_ hw6_2 GW11) _).trans (hHeld.2.2.2.2.2.1)))),((cell_far (p:=⟨gb11,_,none⟩) (ze_ hw6_3 GW11) _).trans (((cell_far (p:=⟨gb11,_,none⟩) (ze_ hw6_3 GW11) _).trans (hHeld.2.2.2.2.2.2.1)))),((cell_far (p:=⟨gb11,_,none⟩) (ze_ hw6_4 GW11) _).trans (((cell_far (p:=⟨gb11,_,none⟩) (ze_ hw6_4 GW11) _).trans (hHeld.2.2.2.2.2.2.2.1)))),((cell_far (p:=⟨gb11,_,none⟩) (ze_ hw6_5 GW11) _).trans (((cell_far (p:=⟨gb11,_,none⟩) (ze_ hw6_5 GW11) _).trans (hHeld.2.2.2.2.2.2.2.2))))⟩ (fun hHeld=> ?_)
   clear hK K
   refine done_ (done_of HT_.out (by kernel_rfl)) ?_
   have hnc35:=NB1_11.out
   have hnb36:=NB11_5.out
   have hnc36:=NB5_11.out
   have hnb38:=NB5_1.out
   have hnc38:=NB1_5.out
   have hfz39_2:=blk_frozen BK5.out 2
   obtain ⟨hcz40_0,hcz40_1,hcz40_2,hfz40_0,hfz40_1,hfz40_2⟩:=y3_ BK1
   try go_wp2
   refine bodyPost_ret (results_cell_row rfl _ _ gb1 116 #[.slice Ao27 x6000_1.length co27, .int .i64 x6001_1, .int .i64 t10] (0,0) _ rfl (zw_ BK1) Try.underlying116 rfl (by kernel_rfl)) rfl ?_
   exact ⟨_,by first|rfl|(simp [errW_none,errW_some]<;>rfl)|(simp [*,errW_none,errW_some]<;>rfl),by (with_reducible repeat (first|apply Kd.R_alloc|apply Kd.R_drewN|apply Kd.R_drew));exact Kd.R_mono (Kd.R_far (p:=⟨gb1,2,none⟩) (Kd.R_far (p:=⟨gb1,1,none⟩) (Kd.R_far (p:=⟨gb1,0,none⟩) (Kd.R_far (p:=⟨gb5,2,none⟩) (Kd.R_far (p:=⟨gb11,1,none⟩) (Kd.R_far (p:=⟨gb11,0,none⟩) (Kd.R_types (Kd.R_types (Kd.R_types HO_6000.out BK11.out (by decide)) BK5.out (by decide)) BK1.out (by decide)) (fun _ hk=>hk.1.1.2) (.slice Ao32 t7.length co32)) (fun _ hk=>hk.1.1.2) (.int .i64 t10)) (fun _ hk=>hk.1.2) (.int .i64 t10)) (fun _ hk=>hk.2) (.slice Ao27 x6000_1.length co27)) (fun _ hk=>hk.2) (.int .i64 x6001_1)) (fun _ hk=>hk.2) (.int .i64 t10)) (fun _ hk=>trivial),zl3_ HB GE1 GE5 GE11⟩
end Go.Proofs.Ytcgefpklljclgaa.Print
