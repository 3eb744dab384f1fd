/- TrialAll: a part -/
import Derived.Test.YtcgefpklljclgaaBTrialAll0
import Derived.Test.YtcgefpklljclgaaBTrialAll1
import Derived.Test.YtcgefpklljclgaaBTrialAll2
import Derived.Test.YtcgefpklljclgaaBTrialAll3
import Derived.Test.YtcgefpklljclgaaBTrialAll4
import Derived.Test.YtcgefpklljclgaaBTrialAll7
import Derived.Test.YtcgefpklljclgaaBTrialAll8
namespace Go.Proofs.Ytcgefpklljclgaa.Print
open Go.RowKit Go.Proofs.YtcgefpklljclgaaW.PrintWords Go.Proofs.YtcgefpklljclgaaW.PrintLast Go.Proofs.YtcgefpklljclgaaW.PrintMore
attribute [local go_sem] max2_int min2_int max_two min_two max_three min_three max_four min_four
set_option linter.unusedVariables false
set_option linter.unusedSimpArgs false

def law19_TrialAll.j0:Nat→List (S31)→ByteArray→List (S58)→Bool→Int→Int→Int→Option (Bool)
 |0,_,_,_,_,_,_,_=>none
 |k+1,x0,x1,x3,x38,x2000,x2001,x2002=>if x38=true then ((law19_awake.f k).bind fun t5=>(some t5)) else ((some (([]:List (S31)):List (S31))).bind fun y6=>(if y6.length+x0.length<1256584717458 then ((some (([]:List (S58)):List (S58))).bind fun y12=>(if y12.length+x3.length<2199023255552 then ((trial_Steps.f k x0 x3).bind fun bt18=>((r10_Trial.f k x0 x3).bind fun bt24=>((trial_Would.f k x0 x1 x2000 x2001 x2002 x3).bind fun bt30=>((r10_Would.f k x0 x1 x2000 x2001 x2002 x3).bind fun bt32=>((r10_SameItems.f k bt18.1 bt24.1).bind fun t34=>(if t34=true then (if bt18.2.1=bt24.2.1 then ((law1_Num.f bt18.2.2).bind fun t35=>(if t35=bt24.2.2 then (if (bt30.1==bt32.1)=true then (if (bt30.2==bt32.2)=true then ((r10_SameItems.f k x0 (y6++x0)).bind fun t36=>(if t36=true then ((r16_SameSteps.f k x3 (y12++x3)).bind fun t37=>(if t37=true then ((law19_awake.f k).bind fun t38=>(some t38)) else (none))) else (none))) else (none)) else (none)) else (none))) else (none)) else (none))))))) else (none))) else (none)))
def law19_TrialAll.f (k:Nat) (l0:List (S31)) (a1:ByteArray) (a2_0:Int) (a2_1:Int) (a2_2:Int) (l3:List (S58)):Option (Bool):=(law12_Great.f k l0).bind fun t2=>(if t2=true then (law19_TrialAll.j0 k l0 a1 l3 true a2_0 a2_1 a2_2) else (if (a1.size:Int)>100 then (law19_TrialAll.j0 k l0 a1 l3 true a2_0 a2_1 a2_2) else ((law16_Great.f k ([]:List (S54)) l3 0).bind fun t3=>(if t3=true then (law19_TrialAll.j0 k l0 a1 l3 true a2_0 a2_1 a2_2) else (if (l3.length:Int)>60 then (law19_TrialAll.j0 k l0 a1 l3 true a2_0 a2_1 a2_2) else ((r10_Right.f k l0).bind fun t4=>(law19_TrialAll.j0 k l0 a1 l3 (!t4) a2_0 a2_1 a2_2)))))))
theorem law19_TrialAll.mono_l: ∀k,(∀y0 y1 y2 y3 y4 y5 y6,LeO (law19_TrialAll.j0 k y0 y1 y2 y3 y4 y5 y6) (law19_TrialAll.j0 (k+1) y0 y1 y2 y3 y4 y5 y6))
 |0=>fun _ _ _ _ _ _ _ r h=>by simp [law19_TrialAll.j0] at h
 |k+1=>by
  have ih0:=law19_TrialAll.mono_l k
  intro y0 y1 y2 y3 y4 y5 y6
  unfold law19_TrialAll.j0
  repeat' first
  |(with_reducible exact ih0 _ _ _ _ _ _ _)
  |(with_reducible exact law12_Great.mono _ _)
  |(with_reducible exact law16_Great.mono _ _ _ _)
  |(with_reducible exact law19_awake.mono _)
  |(with_reducible exact r10_Right.mono _ _)
  |(with_reducible exact r10_SameItems.mono _ _ _)
  |(with_reducible exact r10_Trial.mono _ _ _)
  |(with_reducible exact r10_Would.mono _ _ _ _ _ _ _)
  |(with_reducible exact r16_SameSteps.mono _ _ _)
  |(with_reducible exact trial_Steps.mono _ _ _)
  |(with_reducible exact trial_Would.mono _ _ _ _ _ _ _)
  |(with_reducible exact LeO.refl _)
  |(with_reducible exact LeO.none _)
  |(with_reducible refine LeO.ite ?_ ?_)
  |(with_reducible refine LeO.bind ?_ (fun _=> ?_))
  |exact ih0 _ _ _ _ _ _ _
  |exact law12_Great.mono _ _
  |exact law16_Great.mono _ _ _ _
  |exact law19_awake.mono _
  |exact r10_Right.mono _ _
  |exact r10_SameItems.mono _ _ _
  |exact r10_Trial.mono _ _ _
  |exact r10_Would.mono _ _ _ _ _ _ _
  |exact r16_SameSteps.mono _ _ _
  |exact trial_Steps.mono _ _ _
  |exact trial_Would.mono _ _ _ _ _ _ _
  |exact LeO.none _
  |refine LeO.ite ?_ ?_
  |refine LeO.bind ?_ (fun _=> ?_)
theorem law19_TrialAll.mono: ∀a0 a1 a2 a3 a4 a5 k,LeO (law19_TrialAll.f k a0 a1 a2 a3 a4 a5) (law19_TrialAll.f (k+1) a0 a1 a2 a3 a4 a5):=by
 intro a0 a1 a2 a3 a4 a5 k
 have ih0:=law19_TrialAll.mono_l k
 unfold law19_TrialAll.f
 repeat' first
  |(with_reducible exact ih0 _ _ _ _ _ _ _)
  |(with_reducible exact law12_Great.mono _ _)
  |(with_reducible exact law16_Great.mono _ _ _ _)
  |(with_reducible exact law19_awake.mono _)
  |(with_reducible exact r10_Right.mono _ _)
  |(with_reducible exact r10_SameItems.mono _ _ _)
  |(with_reducible exact r10_Trial.mono _ _ _)
  |(with_reducible exact r10_Would.mono _ _ _ _ _ _ _)
  |(with_reducible exact r16_SameSteps.mono _ _ _)
  |(with_reducible exact trial_Steps.mono _ _ _)
  |(with_reducible exact trial_Would.mono _ _ _ _ _ _ _)
  |(with_reducible exact LeO.refl _)
  |(with_reducible exact LeO.none _)
  |(with_reducible refine LeO.ite ?_ ?_)
  |(with_reducible refine LeO.bind ?_ (fun _=> ?_))
  |exact ih0 _ _ _ _ _ _ _
  |exact law12_Great.mono _ _
  |exact law16_Great.mono _ _ _ _
  |exact law19_awake.mono _
  |exact r10_Right.mono _ _
  |exact r10_SameItems.mono _ _ _
  |exact r10_Trial.mono _ _ _
  |exact r10_Would.mono _ _ _ _ _ _ _
  |exact r16_SameSteps.mono _ _ _
  |exact trial_Steps.mono _ _ _
  |exact trial_Would.mono _ _ _ _ _ _ _
  |exact LeO.none _
  |refine LeO.ite ?_ ?_
  |refine LeO.bind ?_ (fun _=> ?_)
def law19_TrialAll.T8:Bool×List (List Nat×List Nat):=(true,[([],[]),([0],[0]),([],[]),([2],[2]),([1,3],[1,3]),([4,4],[4]),([5],[5]),([6,5],[5,6]),([5],[5]),([8,5],[5,8]),([7,9,5],[5,7,9]),([5,10],[5,10]),([11,5],[11]),([12],[12]),([13,12],[12,13]),([14,12,12],[12,14]),([12],[12]),([16,12],[12,16]),([15,17,12],[12,15,17]),([12,18],[12,18]),([19,15],[19]),([20],[20]),([20],[20]),([21,22,20],[20,21,22]),([20,23],[20,23]),([24,20],[24]),([25],[25]),([25],[25]),([26,27,25],[25,26,27]),([25,28],[25,28]),([29,25],[29]),([30],[30]),([30],[30]),([31,32,30,30],[30,31,32]),([30,33],[30,33]),([34,33],[34]),([35],[35]),([35],[35]),([36,37,35,35],[35,36,37]),([35,38],[35,38]),([39,38],[39]),([40,40],[40]),([40,41],[40,41]),([42,41,0,1,2,3,4,5,6,7,8,9,10,11,12,13,14,15,16,17,18,19,20,21,22,23,24,25,26,27,28,29,30,31,32,33,34,35,36,37,38,39,40,41,42],[42])])
def law19_TrialAll.B8:List Nat:=[0,1,0,4,15,31,63,127,63,319,1023,2047,4095,8191,16383,32767,8191,73727,262143,524287,1048575,2097151,2097151,8388607,16777215,33554431,67108863,67108863,268435455,536870911,1073741823,2147483647,2147483647,8589934591,17179869183,34359738367,68719476735,68719476735,274877906943,549755813887,1099511627775,2199023255551,4398046511103,8796093022207]
theorem law19_TrialAll.tab8:rtab .any (opsOf Try.f29 8)=law19_TrialAll.T8:=by kernel_rfl
theorem law19_TrialAll.bits8:waitsOk law19_TrialAll.T8.2 law19_TrialAll.B8=true:=by kernel_rfl
set_option maxHeartbeats 80000000 in
set_option maxRecDepth 100000 in
theorem law19_TrialAll.calls (k:Nat) (A0:Option Addr) (c0:Nat) (l0:List (S31)) (a1:ByteArray) (a2_0:Int) (a2_1:Int) (a2_2:Int) (A3:Option Addr) (c3:Nat) (l3:List (S58)) (r:Bool) (w:World) (hr0:Kd.C k31 w A0 l0.length l0) (hc0:l0.length≤c0) (hr3:Kd.C k58 w A3 l3.length l3) (hc3:l3.length≤c3) (h:law19_TrialAll.f k l0 a1 a2_0 a2_1 a2_2 l3=some r):
  Calls Try.prog 29 #[.slice A0 l0.length c0, .string a1, .agg #[.int .i64 a2_0, .int .i64 a2_1, .int .i64 a2_2], .slice A3 l3.length c3] w fun e w'=>e= .returned (.bool r)∧Below w.heap.size w w':=by
 have HR0:=Aside0.mk hr0
 have HC0:=Aside0.mk hc0
 clear hr0 hc0
 have HR3:=Aside0.mk hr3
 have HC3:=Aside0.mk hc3
 clear hr3 hc3
 have HB:=am_ (Below.refl w.heap.size w)
 have H:((law12_Great.f k l0).bind fun t2=>(if t2=true then (law19_TrialAll.j0 k l0 a1 l3 true a2_0 a2_1 a2_2) else (if (a1.size:Int)>100 then (law19_TrialAll.j0 k l0 a1 l3 true a2_0 a2_1 a2_2) else ((law16_Great.f k ([]:List (S54)) l3 0).bind fun t3=>(if t3=true then (law19_TrialAll.j0 k l0 a1 l3 true a2_0 a2_1 a2_2) else (if (l3.length:Int)>60 then (law19_TrialAll.j0 k l0 a1 l3 true a2_0 a2_1 a2_2) else ((r10_Right.f k l0).bind fun t4=>(law19_TrialAll.j0 k l0 a1 l3 (!t4) a2_0 a2_1 a2_2))))))))=some r:=h
 clear h
 have HC5:=Aside0.mk H
 clear H
 go_enter Try.func29,Try.ntmps29
 go_upto_region 1 with (first|((with_reducible refine gate_dst (N:=6) rfl ?_);(try (refine gate_guard (by rfl) ?_;dsimp only));refine bx_ (N:=6) (cs:=#[.int .i64 a2_0, .int .i64 a2_1, .int .i64 a2_2]) (t:=27) ?_;intro gb1 hg w6 hbox hb;have n0_:=am_ (below_step (zl0_ HB) hb);have n1_:=am_ (hbox);have n2_:=am_ ((zg0_ HB hg:w.heap.size≤gb1));have n3_:=am_ ((zg0_ HB hg:w.heap.size≤gb1));clear HB;have HB:=n0_;have BK1:=n1_;have GE1:=n3_;clear n0_ n1_ n2_ n3_;clear hb hbox hg))
 (try simp only [Act.put,List.setIfInBounds_toArray,List.set_cons_zero,List.set_cons_succ])
 go_cut [38] (fun v38 wc=> ∃(kq:Nat) (x38_4:Bool),v38= .bool x38_4∧Aside0 (law19_TrialAll.j0 kq l0 a1 l3 x38_4 a2_0 a2_1 a2_2=some r)∧Aside0 (kq≤k)∧Aside0 (wc.heap[gb1]?=some (.cells #[.int .i64 a2_0, .int .i64 a2_1, .int .i64 a2_2] 27 (0,0)))∧Aside0 (Below w.heap.size w wc))
 case first=>
  have H:=HC5.out
  clear HC5
  replace H:=Option.bind_eq_some_iff.mp H
  obtain ⟨t2,A70,H⟩:=H
  try dsimp only at H
  have A7:=Aside0.mk A70
  clear A70
  by_cases c8:t2=true
  ·subst c8
   have H1:(law19_TrialAll.j0 k l0 a1 l3 true a2_0 a2_1 a2_2)=some r:=by rw [if_pos rfl] at H;exact H
   clear H
   have H:=H1
   clear H1
   have H':=Aside0.mk H
   clear H
   go_wp2_with (first|((with_reducible refine gate_callee (f:=36) rfl ?_);refine gl_ (some 18) Try.func36 #[.slice A0 l0.length c0] ?_;(with_reducible refine (law12_Great.calls k _ _ l0 true _ ?side1 ?side2 A7.out).mono ?_);(case side1=>exact zc_ (Kd.C_below HR0.out HB.out));(case side2=>exact HC0.out);rintro e w' ⟨rfl,⟨nd,rfl⟩⟩;refine ⟨_,rfl, ?_⟩))
   go_meet
   case rel=>exact ⟨_,(true),(by first|rfl|(simp;done)|(simp [*];done)),H',⟨by first|omega|exact Nat.le_refl _⟩,⟨by refine zk_ ?_;exact BK1.out⟩,⟨zl1_ HB GE1⟩⟩
  replace c8:=Bool.eq_false_iff.mpr c8
  subst c8
  have H1:(if (a1.size:Int)>100 then (law19_TrialAll.j0 k l0 a1 l3 true a2_0 a2_1 a2_2) else ((law16_Great.f k ([]:List (S54)) l3 0).bind fun t3=>(if t3=true then (law19_TrialAll.j0 k l0 a1 l3 true a2_0 a2_1 a2_2) else (if (l3.length:Int)>60 then (law19_TrialAll.j0 k l0 a1 l3 true a2_0 a2_1 a2_2) else ((r10_Right.f k l0).bind fun t4=>(law19_TrialAll.j0 k l0 a1 l3 (!t4) a2_0 a2_1 a2_2))))))=some r:=by rw [if_neg (show¬(false=true) by decide)] at H;exact H
  clear H
  have H:=H1
  clear H1
  by_cases c9:(a1.size:Int)>100
  ·rw [if_pos c9] at H
   have c9b0:decide (100<(a1.size:Int))=true:=decide_eq_true c9
   clear c9
   (first|rw [c9b0]|(simp only [i64_w,i32_w];rw [c9b0])|skip)
   have H':=Aside0.mk H
   clear H
   go_wp2_with (first|((with_reducible refine gate_callee (f:=36) rfl ?_);refine gl_ (some 18) Try.func36 #[.slice A0 l0.length c0] ?_;(with_reducible refine (law12_Great.calls k _ _ l0 false _ ?side1 ?side2 A7.out).mono ?_);(case side1=>exact zc_ (Kd.C_below HR0.out HB.out));(case side2=>exact HC0.out);rintro e w' ⟨rfl,⟨nd,rfl⟩⟩;refine ⟨_,rfl, ?_⟩))
   go_meet
   case rel=>exact ⟨_,(true),(by first|rfl|(simp;done)|(simp [*];done)),H',⟨by first|omega|exact Nat.le_refl _⟩,⟨by refine zk_ ?_;exact BK1.out⟩,⟨zl1_ HB GE1⟩⟩
  rw [if_neg c9] at H
  have c9b0:decide (100<(a1.size:Int))=false:=decide_eq_false c9
  clear c9
  (first|rw [c9b0]|(simp only [i64_w,i32_w];rw [c9b0])|skip)
  replace H:=Option.bind_eq_some_iff.mp H
  obtain ⟨t3,A100,H⟩:=H
  try dsimp only at H
  have A10:=Aside0.mk A100
  clear A100
  by_cases c11:t3=true
  ·subst c11
   have H1:(law19_TrialAll.j0 k l0 a1 l3 true a2_0 a2_1 a2_2)=some r:=by rw [if_pos rfl] at H;exact H
   clear H
   have H:=H1
   clear H1
   have H':=Aside0.mk H
   clear H
   go_wp2_with (first|((with_reducible refine gate_callee (f:=36) rfl ?_);refine gl_ (some 18) Try.func36 #[.slice A0 l0.length c0] ?_;(with_reducible refine (law12_Great.calls k _ _ l0 false _ ?side1 ?side2 A7.out).mono ?_);(case side1=>exact zc_ (Kd.C_below HR0.out HB.out));(case side2=>exact HC0.out);rintro e w' ⟨rfl,⟨nd,rfl⟩⟩;refine ⟨_,rfl, ?_⟩)|(go_at_call 37;(refine (law16_Great.calls k _ _ ([]:List (S54)) _ _ l3 0 true _ ?side1 ?side2 ?side3 ?side4 A10.out).mono ?_);(case side1=>exact Kd.C_nil _ _);(case side2=>exact Nat.le_refl _);(case side3=>repeat (first|exact (Kd.C_below HR3.out (zl1_ HB GE1))|(with_reducible refine Kd.C_alloc ?_ _)|(with_reducible refine Kd.C_drewN ?_ _)|(with_reducible refine Kd.C_drew ?_)));(case side4=>exact HC3.out);rintro e w12 ⟨rfl,hb⟩;replace BK1:=am_ (blk_below (zb_ BK1) hb);replace HB:=am_ (below_step (zl1_ HB GE1) hb);(try clear hb);(try clear hb2);(try clear hk);(try clear hi)))
   go_meet
   case rel=>exact ⟨_,(true),(by first|rfl|(simp;done)|(simp [*];done)),H',⟨by first|omega|exact Nat.le_refl _⟩,⟨by refine zk_ ?_;exact BK1.out⟩,⟨zl1_ HB GE1⟩⟩
  replace c11:=Bool.eq_false_iff.mpr c11
  subst c11
  have H1:(if (l3.length:Int)>60 then (law19_TrialAll.j0 k l0 a1 l3 true a2_0 a2_1 a2_2) else ((r10_Right.f k l0).bind fun t4=>(law19_TrialAll.j0 k l0 a1 l3 (!t4) a2_0 a2_1 a2_2)))=some r:=by rw [if_neg (show¬(false=true) by decide)] at H;exact H
  clear H
  have H:=H1
  clear H1
  by_cases c13:(l3.length:Int)>60
  ·rw [if_pos c13] at H
   have c13b0:decide (60<(l3.length:Int))=true:=decide_eq_true c13
   clear c13
   have H':=Aside0.mk H
   clear H
   go_wp2_with (first|((with_reducible refine gate_callee (f:=36) rfl ?_);refine gl_ (some 18) Try.func36 #[.slice A0 l0.length c0] ?_;(with_reducible refine (law12_Great.calls k _ _ l0 false _ ?side1 ?side2 A7.out).mono ?_);(case side1=>exact zc_ (Kd.C_below HR0.out HB.out));(case side2=>exact HC0.out);rintro e w' ⟨rfl,⟨nd,rfl⟩⟩;refine ⟨_,rfl, ?_⟩)|(go_at_call 37;(refine (law16_Great.calls k _ _ ([]:List (S54)) _ _ l3 0 false _ ?side1 ?side2 ?side3 ?side4 A10.out).mono ?_);(case side1=>exact Kd.C_nil _ _);(case side2=>exact Nat.le_refl _);(case side3=>repeat (first|exact (Kd.C_below HR3.out (zl1_ HB GE1))|(with_reducible refine Kd.C_alloc ?_ _)|(with_reducible refine Kd.C_drewN ?_ _)|(with_reducible refine Kd.C_drew ?_)));(case side4=>exact HC3.out);rintro e w14 ⟨rfl,hb⟩;replace BK1:=am_ (blk_below (zb_ BK1) hb);replace HB:=am_ (below_step (zl1_ HB GE1) hb);(try clear hb);(try clear hb2);(try clear hk);(try clear hi)))
   go_meet
   case rel=>exact ⟨_,(true),(by first|rfl|(simp;done)|(simp [*];done)),H',⟨by first|omega|exact Nat.le_refl _⟩,⟨by refine zk_ ?_;exact BK1.out⟩,⟨zl1_ HB GE1⟩⟩
  rw [if_neg c13] at H
  have c13b0:decide (60<(l3.length:Int))=false:=decide_eq_false c13
  clear c13
  replace H:=Option.bind_eq_some_iff.mp H
  obtain ⟨t4,A150,H⟩:=H
  try dsimp only at H
  have A15:=Aside0.mk A150
  clear A150
  have H':=Aside0.mk H
  clear H
  go_wp2_with (first|((with_reducible refine gate_callee (f:=36) rfl ?_);refine gl_ (some 18) Try.func36 #[.slice A0 l0.length c0] ?_;(with_reducible refine (law12_Great.calls k _ _ l0 false _ ?side1 ?side2 A7.out).mono ?_);(case side1=>exact zc_ (Kd.C_below HR0.out HB.out));(case side2=>exact HC0.out);rintro e w' ⟨rfl,⟨nd,rfl⟩⟩;refine ⟨_,rfl, ?_⟩)|(go_at_call 37;(refine (law16_Great.calls k _ _ ([]:List (S54)) _ _ l3 0 false _ ?side1 ?side2 ?side3 ?side4 A10.out).mono ?_);(case side1=>exact Kd.C_nil _ _);(case side2=>exact Nat.le_refl _);(case side3=>repeat (first|exact (Kd.C_below HR3.out (zl1_ HB GE1))|(with_reducible refine Kd.C_alloc ?_ _)|(with_reducible refine Kd.C_drewN ?_ _)|(with_reducible refine Kd.C_drew ?_)));(case side4=>exact HC3.out);rintro e w16 ⟨rfl,hb⟩;replace BK1:=am_ (blk_below (zb_ BK1) hb);replace HB:=am_ (below_step (zl1_ HB GE1) hb);(try clear hb);(try clear hb2);(try clear hk);(try clear hi))|(go_at_call 41;(with_reducible refine (r10_Right.calls k _ _ l0 t4 _ ?side1 ?side2 A15.out).mono ?_);(case side1=>exact zc_ (Kd.C_below HR0.out HB.out));(case side2=>exact HC0.out);rintro e w17 ⟨rfl,hb⟩;replace BK1:=am_ (blk_below (zb_ BK1) hb);replace HB:=am_ (below_step (zl1_ HB GE1) hb);(try clear hb);(try clear hb2);(try clear hk);(try clear hi)))
  go_meet
  case rel=>exact ⟨_,(!t4),(by first|rfl|(simp;done)|(simp [*];done)),H',⟨by first|omega|exact Nat.le_refl _⟩,⟨by refine zk_ ?_;exact BK1.out⟩,⟨zl1_ HB GE1⟩⟩
 case rest=>
  clear HC5
  try clear c1
  try clear c2
  try clear p2
  try clear c3
  try clear c8
  try clear c9
  try clear c9b0
  try clear c11
  try clear c13
  try clear c13b0
  obtain ⟨kq,x38_4,rfl,HA,HJ4,BK1,HB⟩:=hcut
  cases kq with
  |zero=>exact absurd HA.out (by simp [law19_TrialAll.j0])
  |succ kj4=>
   have H:=HA.out
   clear HA
   simp only [law19_TrialAll.j0] at H
   by_cases c18:x38_4=true
   ·subst c18
    have H1:((law19_awake.f kj4).bind fun t5=>(some t5))=some r:=by rw [if_pos rfl] at H;exact H
    clear H
    have H:=H1
    clear H1
    replace H:=Option.bind_eq_some_iff.mp H
    obtain ⟨t5,A190,H⟩:=H
    try dsimp only at H
    have A19:=Aside0.mk A190
    clear A190
    obtain rfl:=Option.some.inj H
    go_wp2_with (first|((with_reducible refine gate_callee (f:=94) rfl ?_);refine gl_ (some 39) Try.func94 #[] ?_;(with_reducible refine (law19_awake.calls kj4 t5 _ A19.out).mono ?_);rintro e w20 ⟨rfl,hb⟩;refine ⟨_,rfl, ?_⟩;replace BK1:=am_ (blk_below (zb_ BK1) hb);replace HB:=am_ (below_step (zl1_ HB GE1) hb);(try clear hb);(try clear hb2);(try clear hk);(try clear hi)))
    go_ret
    exact ⟨by first|rfl|(simp [errW_none,errW_some]<;>rfl)|(simp [*,errW_none,errW_some]<;>rfl),zl1_ HB GE1⟩
   replace c18:=Bool.eq_false_iff.mpr c18
   subst c18
   have H1:((some (([]:List (S31)):List (S31))).bind fun y6=>(if y6.length+l0.length<1256584717458 then ((some (([]:List (S58)):List (S58))).bind fun y12=>(if y12.length+l3.length<2199023255552 then ((trial_Steps.f kj4 l0 l3).bind fun bt18=>((r10_Trial.f kj4 l0 l3).bind fun bt24=>((trial_Would.f kj4 l0 a1 a2_0 a2_1 a2_2 l3).bind fun bt30=>((r10_Would.f kj4 l0 a1 a2_0 a2_1 a2_2 l3).bind fun bt32=>((r10_SameItems.f kj4 bt18.1 bt24.1).bind fun t34=>(if t34=true then (if bt18.2.1=bt24.2.1 then ((law1_Num.f bt18.2.2).bind fun t35=>(if t35=bt24.2.2 then (if (bt30.1==bt32.1)=true then (if (bt30.2==bt32.2)=true then ((r10_SameItems.f kj4 l0 (y6++l0)).bind fun t36=>(if t36=true then ((r16_SameSteps.f kj4 l3 (y12++l3)).bind fun t37=>(if t37=true then ((law19_awake.f kj4).bind fun t38=>(some t38)) else (none))) else (none))) else (none)) else (none)) else (none))) else (none)) else (none))))))) else (none))) else (none)))=some r:=by rw [if_neg (show¬(false=true) by decide)] at H;exact H
   clear H
   have H:=H1
   clear H1
   obtain ⟨y6,hy6⟩: ∃y_:List (S31),y_=(([]:List (S31))):=⟨_,rfl⟩
   replace H:(if y6.length+l0.length<1256584717458 then ((some (([]:List (S58)):List (S58))).bind fun y12=>(if y12.length+l3.length<2199023255552 then ((trial_Steps.f kj4 l0 l3).bind fun bt18=>((r10_Trial.f kj4 l0 l3).bind fun bt24=>((trial_Would.f kj4 l0 a1 a2_0 a2_1 a2_2 l3).bind fun bt30=>((r10_Would.f kj4 l0 a1 a2_0 a2_1 a2_2 l3).bind fun bt32=>((r10_SameItems.f kj4 bt18.1 bt24.1).bind fun t34=>(if t34=true then (if bt18.2.1=bt24.2.1 then ((law1_Num.f bt18.2.2).bind fun t35=>(if t35=bt24.2.2 then (if (bt30.1==bt32.1)=true then (if (bt30.2==bt32.2)=true then ((r10_SameItems.f kj4 l0 (y6++l0)).bind fun t36=>(if t36=true then ((r16_SameSteps.f kj4 l3 (y12++l3)).bind fun t37=>(if t37=true then ((law19_awake.f kj4).bind fun t38=>(some t38)) else (none))) else (none))) else (none)) else (none)) else (none))) else (none)) else (none))))))) else (none))) else (none))=some r:=by first|(rw [hy6];with_reducible exact H)|(have H2_:=(Option.bind_some _ _).symm.trans H;rw [hy6];with_reducible exact H2_)|(have H2_:=(Option.bind_some _ _).symm.trans H;with_reducible exact H2_)|with_reducible exact H|(rw [hy6];exact H)|exact H
   have Ny6:=Aside0.mk hy6
   clear hy6
   by_cases c21:y6.length+l0.length<1256584717458
   rotate_left
   ·rw [if_neg c21] at H
    cases H
   rw [if_pos c21] at H
   have LMc21:=Aside0.mk c21
   clear c21
   obtain ⟨y9,hy9⟩: ∃y_:List (S31),y_=(y6++l0):=⟨_,rfl⟩
   replace H:((some (([]:List (S58)):List (S58))).bind fun y12=>(if y12.length+l3.length<2199023255552 then ((trial_Steps.f kj4 l0 l3).bind fun bt18=>((r10_Trial.f kj4 l0 l3).bind fun bt24=>((trial_Would.f kj4 l0 a1 a2_0 a2_1 a2_2 l3).bind fun bt30=>((r10_Would.f kj4 l0 a1 a2_0 a2_1 a2_2 l3).bind fun bt32=>((r10_SameItems.f kj4 bt18.1 bt24.1).bind fun t34=>(if t34=true then (if bt18.2.1=bt24.2.1 then ((law1_Num.f bt18.2.2).bind fun t35=>(if t35=bt24.2.2 then (if (bt30.1==bt32.1)=true then (if (bt30.2==bt32.2)=true then ((r10_SameItems.f kj4 l0 y9).bind fun t36=>(if t36=true then ((r16_SameSteps.f kj4 l3 (y12++l3)).bind fun t37=>(if t37=true then ((law19_awake.f kj4).bind fun t38=>(some t38)) else (none))) else (none))) else (none)) else (none)) else (none))) else (none)) else (none))))))) else (none)))=some r:=by first|(rw [hy9];with_reducible exact H)|(have H2_:=(Option.bind_some _ _).symm.trans H;rw [hy9];with_reducible exact H2_)|(have H2_:=(Option.bind_some _ _).symm.trans H;with_reducible exact H2_)|with_reducible exact H|(rw [hy9];exact H)|exact H
   have Ny9:=Aside0.mk hy9
   clear hy9
   obtain ⟨y12,hy12⟩: ∃y_:List (S58),y_=(([]:List (S58))):=⟨_,rfl⟩
   replace H:(if y12.length+l3.length<2199023255552 then ((trial_Steps.f kj4 l0 l3).bind fun bt18=>((r10_Trial.f kj4 l0 l3).bind fun bt24=>((trial_Would.f kj4 l0 a1 a2_0 a2_1 a2_2 l3).bind fun bt30=>((r10_Would.f kj4 l0 a1 a2_0 a2_1 a2_2 l3).bind fun bt32=>((r10_SameItems.f kj4 bt18.1 bt24.1).bind fun t34=>(if t34=true then (if bt18.2.1=bt24.2.1 then ((law1_Num.f bt18.2.2).bind fun t35=>(if t35=bt24.2.2 then (if (bt30.1==bt32.1)=true then (if (bt30.2==bt32.2)=true then ((r10_SameItems.f kj4 l0 y9).bind fun t36=>(if t36=true then ((r16_SameSteps.f kj4 l3 (y12++l3)).bind fun t37=>(if t37=true then ((law19_awake.f kj4).bind fun t38=>(some t38)) else (none))) else (none))) else (none)) else (none)) else (none))) else (none)) else (none))))))) else (none))=some r:=by first|(rw [hy12];with_reducible exact H)|(have H2_:=(Option.bind_some _ _).symm.trans H;rw [hy12];with_reducible exact H2_)|(have H2_:=(Option.bind_some _ _).symm.trans H;with_reducible exact H2_)|with_reducible exact H|(rw [hy12];exact H)|exact H
   have Ny12:=Aside0.mk hy12
   clear hy12
   by_cases c22:y12.length+l3.length<2199023255552
   rotate_left
   ·rw [if_neg c22] at H
    cases H
   rw [if_pos c22] at H
   have LMc22:=Aside0.mk c22
   clear c22
   obtain ⟨y15,hy15⟩: ∃y_:List (S58),y_=(y12++l3):=⟨_,rfl⟩
   replace H:((trial_Steps.f kj4 l0 l3).bind fun bt18=>((r10_Trial.f kj4 l0 l3).bind fun bt24=>((trial_Would.f kj4 l0 a1 a2_0 a2_1 a2_2 l3).bind fun bt30=>((r10_Would.f kj4 l0 a1 a2_0 a2_1 a2_2 l3).bind fun bt32=>((r10_SameItems.f kj4 bt18.1 bt24.1).bind fun t34=>(if t34=true then (if bt18.2.1=bt24.2.1 then ((law1_Num.f bt18.2.2).bind fun t35=>(if t35=bt24.2.2 then (if (bt30.1==bt32.1)=true then (if (bt30.2==bt32.2)=true then ((r10_SameItems.f kj4 l0 y9).bind fun t36=>(if t36=true then ((r16_SameSteps.f kj4 l3 y15).bind fun t37=>(if t37=true then ((law19_awake.f kj4).bind fun t38=>(some t38)) else (none))) else (none))) else (none)) else (none)) else (none))) else (none)) else (none)))))))=some r:=by first|(rw [hy15];with_reducible exact H)|(have H2_:=(Option.bind_some _ _).symm.trans H;rw [hy15];with_reducible exact H2_)|(have H2_:=(Option.bind_some _ _).symm.trans H;with_reducible exact H2_)|with_reducible exact H|(rw [hy15];exact H)|exact H
   have Ny15:=Aside0.mk hy15
   clear hy15
   replace H:=Option.bind_eq_some_iff.mp H
   obtain ⟨⟨t18,t21,t22⟩,A230,H⟩:=H
   try dsimp only at H
   have A23:=Aside0.mk A230
   clear A230
   replace H:=Option.bind_eq_some_iff.mp H
   obtain ⟨⟨t24,t27,t28⟩,A240,H⟩:=H
   try dsimp only at H
   have A24:=Aside0.mk A240
   clear A240
   replace H:=Option.bind_eq_some_iff.mp H
   obtain ⟨⟨t30,t31⟩,A250,H⟩:=H
   try dsimp only at H
   have A25:=Aside0.mk A250
   clear A250
   replace H:=Option.bind_eq_some_iff.mp H
   obtain ⟨⟨t32,t33⟩,A260,H⟩:=H
   try dsimp only at H
   have A26:=Aside0.mk A260
   clear A260
   replace H:=Option.bind_eq_some_iff.mp H
   obtain ⟨t34,A270,H⟩:=H
   try dsimp only at H
   have A27:=Aside0.mk A270
   clear A270
   by_cases c28:t34=true
   rotate_left
   ·replace c28:=Bool.eq_false_iff.mpr c28
    subst c28
    have H1:(none)=some r:=by rw [if_neg (show¬(false=true) by decide)] at H;exact H
    cases H1
   subst c28
   have H1:(if t21=t27 then ((law1_Num.f t22).bind fun t35=>(if t35=t28 then (if (t30==t32)=true then (if (t31==t33)=true then ((r10_SameItems.f kj4 l0 y9).bind fun t36=>(if t36=true then ((r16_SameSteps.f kj4 l3 y15).bind fun t37=>(if t37=true then ((law19_awake.f kj4).bind fun t38=>(some t38)) else (none))) else (none))) else (none)) else (none)) else (none))) else (none))=some r:=by rw [if_pos rfl] at H;exact H
   clear H
   have H:=H1
   clear H1
   by_cases c29:t21=t27
   rotate_left
   ·rw [if_neg c29] at H
    cases H
   rw [if_pos c29] at H
   have c29b0:(t21==t27)=true:=beq_iff_eq.mpr c29
   clear c29
   replace H:=Option.bind_eq_some_iff.mp H
   obtain ⟨t35,A300,H⟩:=H
   try dsimp only at H
   have A30:=Aside0.mk A300
   clear A300
   by_cases c31:t35=t28
   rotate_left
   ·rw [if_neg c31] at H
    cases H
   rw [if_pos c31] at H
   have c31b0:(t35==t28)=true:=beq_iff_eq.mpr c31
   clear c31
   by_cases c32:(t30==t32)=true
   rotate_left
   ·rw [if_neg c32] at H
    cases H
   rw [if_pos c32] at H
   have c32b0:(t30==t32)=true:=c32
   (try skip)
   (try skip)
   clear c32
   by_cases c33:(t31==t33)=true
   rotate_left
   ·rw [if_neg c33] at H
    cases H
   rw [if_pos c33] at H
   have c33b0:(t31==t33)=true:=c33
   (try skip)
   (try skip)
   clear c33
   replace H:=Option.bind_eq_some_iff.mp H
   obtain ⟨t36,A340,H⟩:=H
   try dsimp only at H
   have A34:=Aside0.mk A340
   clear A340
   by_cases c35:t36=true
   rotate_left
   ·replace c35:=Bool.eq_false_iff.mpr c35
    subst c35
    have H1:(none)=some r:=by rw [if_neg (show¬(false=true) by decide)] at H;exact H
    cases H1
   subst c35
   have H1:((r16_SameSteps.f kj4 l3 y15).bind fun t37=>(if t37=true then ((law19_awake.f kj4).bind fun t38=>(some t38)) else (none)))=some r:=by rw [if_pos rfl] at H;exact H
   clear H
   have H:=H1
   clear H1
   replace H:=Option.bind_eq_some_iff.mp H
   obtain ⟨t37,A360,H⟩:=H
   try dsimp only at H
   have A36:=Aside0.mk A360
   clear A360
   by_cases c37:t37=true
   rotate_left
   ·replace c37:=Bool.eq_false_iff.mpr c37
    subst c37
    have H1:(none)=some r:=by rw [if_neg (show¬(false=true) by decide)] at H;exact H
    cases H1
   subst c37
   have H1:((law19_awake.f kj4).bind fun t38=>(some t38))=some r:=by rw [if_pos rfl] at H;exact H
   clear H
   have H:=H1
   clear H1
   replace H:=Option.bind_eq_some_iff.mp H
   obtain ⟨t38,A380,H⟩:=H
   try dsimp only at H
   have A38:=Aside0.mk A380
   clear A380
   obtain rfl:=Option.some.inj H
   try go_wp2_with (first|((with_reducible refine gate_dst (N:=40) rfl ?_);(try (refine gate_guard (by rfl) ?_;dsimp only));refine Kd.R_lit k31 _ 31 ?hg (N:=40) ?hd (xs:=([]:List (S31))) (inner:=[]) (ok:=fun _=>True) (okp:=fun _=>True) ?hr ?hp (fun _ hk=>hk) trivial (Below.refl _ _) (Nat.le_refl _) (by simp) ?_;(case hd=>rfl);(case hg=>rfl);(case hr=>first|(go_simp;done)|(go_simp;rfl));(case hp=>exact (Reps.none _ _));intro v7 w39 ho40 hb hg_ hnew_;clear hg_ hnew_;(first|rw [←Ny6.out] at ho40|(simp only [Int.reduceToNat] at ho40;rw [←Ny6.out] at ho40));have HO8:=am_ (Kd.R_lower ho40 (below_size (zl1_ HB GE1)));replace BK1:=am_ (blk_below (zb_ BK1) hb);replace HB:=am_ (below_step (zl1_ HB GE1) hb);clear hb ho40)|((with_reducible refine gate_builtin (b:= .append) (xs:=#[.tmp 40, .tmp 41]) rfl ?_);(try (refine gate_guard (by rfl) ?_;dsimp only));at_builtin;refine Kd.R_append_rows k31 (w0:=w) w.heap.size rfl (.tmp 40) (.tmp 41) 24 31 (.agg #[(.string ⟨#[]⟩),(.string ⟨#[]⟩),(.int .i64 0),(.int .i64 0),(.int .i64 0),(.int .i64 0),(.int .i64 0),(.int .i64 0),(.int .i64 0),(.int .i64 0),(.int .i64 0),(.int .i64 0)]) 112 rfl Try.underlying24 info31 rfl (by decide) (by omega) v7 y6 l0 _ _ _ (fun _=>True) (fun _=>False) rfl rfl ?aO ?aR (fun _ _ h=>h) (fun _ h=>h.elim) ?aF ?aB ?aS ?aL ?_;(case aR=>repeat (first|exact (Kd.C_below HR0.out HB.out)|(with_reducible refine Kd.C_alloc ?_ _)|(with_reducible refine Kd.C_drewN ?_ _)|(with_reducible refine Kd.C_drew ?_)));(case aB=>exact (zl1_ HB GE1));(case aF=>exact (fun _ _=>trivial));(case aO=>exact (zr_ HO8));(case aS=>exact (below_size (zl1_ HB GE1)));(case aL=>have:=LMc21.out;omega);intro v10 w41 ho hb hg hat;rw [←Ny9.out] at ho;have n0_:=am_ (blk_grown (zb_ BK1) hg (Kd.R_ne HO8.out BK1.out (by decide)));have n1_:=am_ (hb);have n2_:=am_ (ho);clear BK1;clear HB;clear HO8;have BK1:=n0_;have HB:=n1_;have HO11:=n2_;clear n0_ n1_ n2_;clear ho hb hg hat)|((with_reducible refine gate_dst (N:=43) rfl ?_);(try (refine gate_guard (by rfl) ?_;dsimp only));refine Kd.R_lit k58 _ 58 ?hg (N:=43) ?hd (xs:=([]:List (S58))) (inner:=[]) (ok:=fun _=>True) (okp:=fun _=>True) ?hr ?hp (fun _ hk=>hk) trivial (Below.refl _ _) (Nat.le_refl _) (by simp) ?_;(case hd=>rfl);(case hg=>rfl);(case hr=>first|(go_simp;done)|(go_simp;rfl));(case hp=>exact (Reps.none _ _));intro v13 w42 ho43 hb hg_ hnew_;clear hg_ hnew_;(first|rw [←Ny12.out] at ho43|(simp only [Int.reduceToNat] at ho43;rw [←Ny12.out] at ho43));replace HO11:=am_ (Kd.R_below (zr_ HO11) hb);have HO14:=am_ (Kd.R_lower ho43 (below_size (zl1_ HB GE1)));replace BK1:=am_ (blk_below (zb_ BK1) hb);replace HB:=am_ (below_step (zl1_ HB GE1) hb);clear hb ho43)|((with_reducible refine gate_builtin (b:= .append) (xs:=#[.tmp 43, .tmp 44]) rfl ?_);(try (refine gate_guard (by rfl) ?_;dsimp only));at_builtin;refine Kd.R_append_rows k58 (w0:=w) w.heap.size rfl (.tmp 43) (.tmp 44) 40 58 (.agg #[(.int .i64 0),(.string ⟨#[]⟩),(.string ⟨#[]⟩),(.int .i64 0),(.int .i64 0),(.int .i64 0)]) 64 rfl Try.underlying40 info58 rfl (by decide) (by omega) v13 y12 l3 _ _ _ (fun _=>True) (fun _=>False) rfl rfl ?aO ?aR (fun _ _ h=>h) (fun _ h=>h.elim) ?aF ?aB ?aS ?aL ?_;(case aR=>repeat (first|exact (Kd.C_below HR3.out HB.out)|(with_reducible refine Kd.C_alloc ?_ _)|(with_reducible refine Kd.C_drewN ?_ _)|(with_reducible refine Kd.C_drew ?_)));(case aB=>exact (zl1_ HB GE1));(case aF=>exact (fun _ _=>trivial));(case aO=>exact (zr_ HO14));(case aS=>exact (below_size (zl1_ HB GE1)));(case aL=>have:=LMc22.out;omega);intro v16 w44 ho hb hg hat;rw [←Ny15.out] at ho;have n0_:=am_ (blk_grown (zb_ BK1) hg (Kd.R_ne HO14.out BK1.out (by decide)));have n1_:=am_ (Kd.R_over' (zr_ HO11) (Kd.R_typed (zr_ HO14)) (by decide) hg);have n2_:=am_ (hb);have n3_:=am_ (ho);clear BK1;clear HO11;clear HB;clear HO14;have BK1:=n0_;have HO11:=n1_;have HB:=n2_;have HO17:=n3_;clear n0_ n1_ n2_ n3_;clear ho hb hg hat)|((with_reducible refine gate_callee (f:=99) rfl ?_);refine gl_ (some 48) Try.func99 #[.slice A0 l0.length c0, .slice A3 l3.length c3] ?_;(with_reducible refine (trial_Steps.calls kj4 _ _ l0 _ _ l3 t18 t21 t22 _ ?side1 ?side2 ?side3 ?side4 A23.out).mono ?_);(case side1=>exact zc_ (Kd.C_below HR0.out HB.out));(case side2=>exact HC0.out);(case side3=>exact zc_ (Kd.C_below HR3.out HB.out));(case side4=>exact HC3.out);rintro e w45 ⟨v19,rfl,ho0,hb⟩;refine ⟨_,rfl, ?_⟩;replace HO17:=am_ (Kd.R_below (zr_ HO17) hb);have HO20:=am_ (Kd.R_lower (Kd.R_new' ho0 (Kd.R_lt (zr_ HO11))) (below_size (zl1_ HB GE1)));replace HO11:=am_ (Kd.R_elder' (zr_ HO11) (Kd.R_base ho0) hb);replace BK1:=am_ (blk_below (zb_ BK1) hb);replace HB:=am_ (below_step (zl1_ HB GE1) hb);(try clear hb);(try clear hb2);(try clear hk);(try clear hi);(try clear ho0))|((with_reducible refine gate_dst (N:=11) rfl ?_);(try (refine gate_guard (by rfl) ?_;dsimp only));refine bx_ (N:=11) (cs:=#[.slice none 0 0, .int .i64 0, .int .i64 0]) (t:=113) ?_;intro gb23 hg w46 hbox hb;have n0_:=am_ (Kd.R_below (zr_ HO11) hb);have n1_:=am_ (Kd.R_below (zr_ HO17) hb);have n2_:=am_ (Kd.R_below (zr_ HO20) hb);have n3_:=am_ (blk_below (zb_ BK1) hb);have n4_:=am_ (below_step (zl1_ HB GE1) hb);have n5_:=am_ (hbox);have n6_:=am_ ((zg1_ HB GE1 hg:w.heap.size≤gb23));have n7_:=am_ ((zg1_ HB GE1 hg:w.heap.size≤gb23));have n8_:=am_ ((zn_ BK1 hg:gb1≠gb23));have n9_:=am_ ((zm_ BK1 hg:gb23≠gb1));clear HO11;clear HO17;clear HO20;clear BK1;clear HB;have HO11:=n0_;have HO17:=n1_;have HO20:=n2_;have BK1:=n3_;have HB:=n4_;have BK23:=n5_;have GE23:=n7_;have NB1_23:=n8_;clear n0_ n1_ n2_ n3_ n4_ n5_ n6_ n7_ n8_ n9_;clear hb hbox hg;obtain ⟨Ao47,co47,eo47⟩:=Kd.R_slice HO20.out;subst eo47;obtain ⟨hcz49_0,hcz49_1,hcz49_2⟩:=x3_ BK23;have hfz49_0:=blk_frozen BK23.out 0;have hfz49_1:=blk_frozen BK23.out 1;have hfz49_2:=blk_frozen BK23.out 2)|((with_reducible refine gate_callee (f:=100) rfl ?_);refine gl_ (some 51) Try.func100 #[.slice A0 l0.length c0, .slice A3 l3.length c3] ?_;(with_reducible refine (r10_Trial.calls kj4 _ _ l0 _ _ l3 t24 t27 t28 _ ?side1 ?side2 ?side3 ?side4 A24.out).mono ?_);(case side1=>exact Kd.C_below HR0.out (zl2_ HB GE1 GE23));(case side2=>exact HC0.out);(case side3=>exact Kd.C_below HR3.out (zl2_ HB GE1 GE23));(case side4=>exact HC3.out);rintro e w50 ⟨v25,rfl,ho0,hb⟩;refine ⟨_,rfl, ?_⟩;replace HO17:=am_ (Kd.R_below (by refine zt_ ?_;exact (Kd.R_mono (Kd.R_far (p:=⟨gb23,2,none⟩) (Kd.R_far (p:=⟨gb23,1,none⟩) (Kd.R_far (p:=⟨gb23,0,none⟩) (Kd.R_types HO17.out BK23.out (by decide)) (fun _ hk=>hk.2) (.slice Ao47 t18.length co47)) (fun _ hk=>hk.2) (.int .i64 t21)) (fun _ hk=>hk.2) (.int .i64 t22)) (fun _ h_=>h_.1))) hb);have HO26:=am_ (Kd.R_lower (Kd.R_new' (Kd.R_new' ho0 (Kd.R_lt (by refine zt_ ?_;exact (Kd.R_mono (Kd.R_far (p:=⟨gb23,2,none⟩) (Kd.R_far (p:=⟨gb23,1,none⟩) (Kd.R_far (p:=⟨gb23,0,none⟩) (Kd.R_types HO11.out BK23.out (by decide)) (fun _ hk=>hk.2) (.slice Ao47 t18.length co47)) (fun _ hk=>hk.2) (.int .i64 t21)) (fun _ hk=>hk.2) (.int .i64 t22)) (fun _ h_=>h_.1))))) (Kd.R_lt (by refine zt_ ?_;exact (Kd.R_mono (Kd.R_far (p:=⟨gb23,2,none⟩) (Kd.R_far (p:=⟨gb23,1,none⟩) (Kd.R_far (p:=⟨gb23,0,none⟩) (Kd.R_types HO20.out BK23.out (by decide)) (fun _ hk=>hk.2) (.slice Ao47 t18.length co47)) (fun _ hk=>hk.2) (.int .i64 t21)) (fun _ hk=>hk.2) (.int .i64 t22)) (fun _ h_=>h_.1))))) (below_size (zl2_ HB GE1 GE23)));replace HO11:=am_ (Kd.R_elder' (by refine zt_ ?_;exact (Kd.R_mono (Kd.R_far (p:=⟨gb23,2,none⟩) (Kd.R_far (p:=⟨gb23,1,none⟩) (Kd.R_far (p:=⟨gb23,0,none⟩) (Kd.R_types HO11.out BK23.out (by decide)) (fun _ hk=>hk.2) (.slice Ao47 t18.length co47)) (fun _ hk=>hk.2) (.int .i64 t21)) (fun _ hk=>hk.2) (.int .i64 t22)) (fun _ h_=>h_.1))) (Kd.R_base ho0) hb);replace HO20:=am_ (Kd.R_elder' (by refine zt_ ?_;exact (Kd.R_mono (Kd.R_far (p:=⟨gb23,2,none⟩) (Kd.R_far (p:=⟨gb23,1,none⟩) (Kd.R_far (p:=⟨gb23,0,none⟩) (Kd.R_types HO20.out BK23.out (by decide)) (fun _ hk=>hk.2) (.slice Ao47 t18.length co47)) (fun _ hk=>hk.2) (.int .i64 t21)) (fun _ hk=>hk.2) (.int .i64 t22)) (fun _ h_=>h_.1))) (Kd.R_base ho0) hb);replace BK1:=am_ (blk_below (g:=gb1) (o:= .cells #[.int .i64 a2_0, .int .i64 a2_1, .int .i64 a2_2] 27 (0,0)) (zw_ BK1) hb);replace BK23:=am_ (blk_below (g:=gb23) (o:= .cells #[.slice Ao47 t18.length co47, .int .i64 t21, .int .i64 t22] 113 (0,0)) (zw_ BK23) hb);replace HB:=am_ (below_step (zl2_ HB GE1 GE23) hb);(try clear hb);(try clear hb2);(try clear hk);(try clear hi);(try clear ho0))|((with_reducible refine gate_dst (N:=12) rfl ?_);(try (refine gate_guard (by rfl) ?_;dsimp only));refine bx_ (N:=12) (cs:=#[.slice none 0 0, .int .i64 0, .int .i64 0]) (t:=116) ?_;intro gb29 hg w51 hbox hb;have n0_:=am_ (Kd.R_below (zr_ HO11) hb);have n1_:=am_ (Kd.R_below (zr_ HO17) hb);have n2_:=am_ (Kd.R_below (zr_ HO20) hb);have n3_:=am_ (Kd.R_below (zr_ HO26) hb);have n4_:=am_ (blk_below (zb_ BK1) hb);have n5_:=am_ (blk_below (zb_ BK23) hb);have n6_:=am_ (below_step (zl2_ HB GE1 GE23) hb);have n7_:=am_ (hbox);have n8_:=am_ ((zg2_ HB GE1 GE23 hg:w.heap.size≤gb29));have n9_:=am_ ((zg2_ HB GE1 GE23 hg:w.heap.size≤gb29));have n10_:=am_ ((zn_ BK1 hg:gb1≠gb29));have n11_:=am_ ((zm_ BK1 hg:gb29≠gb1));have n12_:=am_ ((zn_ BK23 hg:gb23≠gb29));have n13_:=am_ ((zm_ BK23 hg:gb29≠gb23));clear HO11;clear HO17;clear HO20;clear HO26;clear BK1;clear BK23;clear HB;have HO11:=n0_;have HO17:=n1_;have HO20:=n2_;have HO26:=n3_;have BK1:=n4_;have BK23:=n5_;have HB:=n6_;have BK29:=n7_;have GE29:=n9_;have NB1_29:=n10_;have NB23_29:=n12_;have NB29_23:=n13_;clear n0_ n1_ n2_ n3_ n4_ n5_ n6_ n7_ n8_ n9_ n10_ n11_ n12_ n13_;clear hb hbox hg;obtain ⟨Ao52,co52,eo52⟩:=Kd.R_slice HO26.out;subst eo52;have hnc53:=NB1_29.out;have hnb54:=NB29_23.out;have hnc54:=NB23_29.out;obtain ⟨hcz55_0,hcz55_1,hcz55_2,hfz55_0,hfz55_1,hfz55_2⟩:=y3_ BK29;obtain ⟨hcz56_0,hcz56_1,hcz56_2⟩:=x3_ BK1)|((with_reducible refine gate_callee (f:=101) rfl ?_);refine gl_ (some 57) Try.func101 #[.slice A0 l0.length c0, .string a1, .agg #[.int .i64 a2_0, .int .i64 a2_1, .int .i64 a2_2], .slice A3 l3.length c3] ?_;(with_reducible refine (trial_Would.calls kj4 _ _ l0 a1 a2_0 a2_1 a2_2 _ _ l3 t30 t31 _ ?side1 ?side2 ?side3 ?side4 A25.out).mono ?_);(case side1=>exact Kd.C_below HR0.out (zl3_ HB GE1 GE23 GE29));(case side2=>exact HC0.out);(case side3=>exact Kd.C_below HR3.out (zl3_ HB GE1 GE23 GE29));(case side4=>exact HC3.out);rintro e w57 ⟨rfl,hb⟩;refine ⟨_,rfl, ?_⟩;replace HO11:=am_ (Kd.R_below (by refine zt_ ?_;exact (Kd.R_mono (Kd.R_far (p:=⟨gb29,2,none⟩) (Kd.R_far (p:=⟨gb29,1,none⟩) (Kd.R_far (p:=⟨gb29,0,none⟩) (Kd.R_types HO11.out BK29.out (by decide)) (fun _ hk=>hk.2) (.slice Ao52 t24.length co52)) (fun _ hk=>hk.2) (.int .i64 t27)) (fun _ hk=>hk.2) (.int .i64 t28)) (fun _ h_=>h_.1))) hb);replace HO17:=am_ (Kd.R_below (by refine zt_ ?_;exact (Kd.R_mono (Kd.R_far (p:=⟨gb29,2,none⟩) (Kd.R_far (p:=⟨gb29,1,none⟩) (Kd.R_far (p:=⟨gb29,0,none⟩) (Kd.R_types HO17.out BK29.out (by decide)) (fun _ hk=>hk.2) (.slice Ao52 t24.length co52)) (fun _ hk=>hk.2) (.int .i64 t27)) (fun _ hk=>hk.2) (.int .i64 t28)) (fun _ h_=>h_.1))) hb);replace HO20:=am_ (Kd.R_below (by refine zt_ ?_;exact (Kd.R_mono (Kd.R_far (p:=⟨gb29,2,none⟩) (Kd.R_far (p:=⟨gb29,1,none⟩) (Kd.R_far (p:=⟨gb29,0,none⟩) (Kd.R_types HO20.out BK29.out (by decide)) (fun _ hk=>hk.2) (.slice Ao52 t24.length co52)) (fun _ hk=>hk.2) (.int .i64 t27)) (fun _ hk=>hk.2) (.int .i64 t28)) (fun _ h_=>h_.1))) hb);replace HO26:=am_ (Kd.R_below (by refine zt_ ?_;exact (Kd.R_mono (Kd.R_far (p:=⟨gb29,2,none⟩) (Kd.R_far (p:=⟨gb29,1,none⟩) (Kd.R_far (p:=⟨gb29,0,none⟩) (Kd.R_types HO26.out BK29.out (by decide)) (fun _ hk=>hk.2) (.slice Ao52 t24.length co52)) (fun _ hk=>hk.2) (.int .i64 t27)) (fun _ hk=>hk.2) (.int .i64 t28)) (fun _ h_=>h_.1))) hb);replace BK1:=am_ (blk_below (g:=gb1) (o:= .cells #[.int .i64 a2_0, .int .i64 a2_1, .int .i64 a2_2] 27 (0,0)) (zw_ BK1) hb);replace BK23:=am_ (blk_below (g:=gb23) (o:= .cells #[.slice Ao47 t18.length co47, .int .i64 t21, .int .i64 t22] 113 (0,0)) (zw_ BK23) hb);replace BK29:=am_ (blk_below (g:=gb29) (o:= .cells #[.slice Ao52 t24.length co52, .int .i64 t27, .int .i64 t28] 116 (0,0)) (zw_ BK29) hb);replace HB:=am_ (below_step (zl3_ HB GE1 GE23 GE29) hb);(try clear hb);(try clear hb2);(try clear hk);(try clear hi);obtain ⟨hcz58_0,hcz58_1,hcz58_2⟩:=x3_ BK1)|((with_reducible refine gate_callee (f:=102) rfl ?_);refine gl_ (some 65) Try.func102 #[.slice A0 l0.length c0, .string a1, .agg #[.int .i64 a2_0, .int .i64 a2_1, .int .i64 a2_2], .slice A3 l3.length c3] ?_;(with_reducible refine (r10_Would.calls kj4 _ _ l0 a1 a2_0 a2_1 a2_2 _ _ l3 t32 t33 _ ?side1 ?side2 ?side3 ?side4 A26.out).mono ?_);(case side1=>exact zc_ (Kd.C_below HR0.out HB.out));(case side2=>exact HC0.out);(case side3=>exact zc_ (Kd.C_below HR3.out HB.out));(case side4=>exact HC3.out);rintro e w59 ⟨rfl,hb⟩;refine ⟨_,rfl, ?_⟩;replace HO11:=am_ (Kd.R_below (zr_ HO11) hb);replace HO17:=am_ (Kd.R_below (zr_ HO17) hb);replace HO20:=am_ (Kd.R_below (zr_ HO20) hb);replace HO26:=am_ (Kd.R_below (zr_ HO26) hb);replace BK1:=am_ (blk_below (zb_ BK1) hb);replace BK23:=am_ (blk_below (zb_ BK23) hb);replace BK29:=am_ (blk_below (zb_ BK29) hb);replace HB:=am_ (below_step (zl3_ HB GE1 GE23 GE29) hb);(try clear hb);(try clear hb2);(try clear hk);(try clear hi)))
   replace HO11:=am_ (Kd.R_drew HO11.out)
   replace HO17:=am_ (Kd.R_drew HO17.out)
   replace HO20:=am_ (Kd.R_drew HO20.out)
   replace HO26:=am_ (Kd.R_drew HO26.out)
   replace BK1:=am_ (blk_drew BK1.out)
   replace BK23:=am_ (blk_drew BK23.out)
   replace BK29:=am_ (blk_drew BK29.out)
   replace HB:=am_ (below_drew1 HB.out)
   refine start_ (n:=44) (S:=fun w'=>w'.cell? ⟨gb23,0,none⟩=some (.slice Ao47 t18.length co47)∧w'.cell? ⟨gb23,1,none⟩=some (.int .i64 t21)∧w'.cell? ⟨gb23,2,none⟩=some (.int .i64 t22)∧w'.cell? ⟨gb29,0,none⟩=some (.slice Ao52 t24.length co52)∧w'.cell? ⟨gb29,1,none⟩=some (.int .i64 t27)∧w'.cell? ⟨gb29,2,none⟩=some (.int .i64 t28)) (ds:=[]) (bt_ 44 0) (by kernel_rfl) rfl rfl ⟨(blk_cell BK23.out 0).trans rfl,(blk_cell BK23.out 1).trans rfl,(blk_cell BK23.out 2).trans rfl,(blk_cell BK29.out 0).trans rfl,(blk_cell BK29.out 1).trans rfl,(blk_cell BK29.out 2).trans rfl⟩ (fun hHeld=> ?_);refine with_tabW law19_TrialAll.tab8 law19_TrialAll.bits8 (fun HT_ HW_=> ?_)
   generalize w59.drew=w60 at HO11 HO17 HO20 HO26 BK1 BK23 BK29 HB hHeld ⊢
   refine pu_ (i:=0) (N:=some 68) (bt_ 44 1) HT_ ?_
   refine pu_ (i:=2) (N:=some 70) (bt_ 44 5) HT_ ?_
   refine tk_ (i:=1) (N:=some 69) (bt_ 44 7) HT_ HW_ hHeld ?_
   refine tk_ (i:=3) (N:=some 71) (bt_ 44 15) HT_ HW_ hHeld ?_
   refine on_ (i:=4) (N:=some 72) (bt_ 44 31) HT_ (fun K hK=> ?_)
   refine gs_ Try.func62 #[.slice Ao47 t18.length co47, .slice Ao52 t24.length co52] ?_
   with_reducible refine (r10_SameItems.calls kj4 _ _ t18 _ _ t24 true _ ?side1 ?side2 ?side3 ?side4 A27.out).mono ?_
   (case side1=>exact zc_ (Kd.R_reads' HO20.out).2.2)
   (case side2=>exact (Kd.R_reads' HO20.out).2.1)
   (case side3=>exact zc_ (Kd.R_reads' HO26.out).2.2)
   (case side4=>exact (Kd.R_reads' HO26.out).2.1)
   rintro e w' ⟨rfl,⟨nd,rfl⟩⟩
   refine ⟨_,rfl, ?_⟩
   refine hK.out _ _ ⟨(blk_cell BK23.out 0).trans rfl,(blk_cell BK23.out 1).trans rfl,(blk_cell BK23.out 2).trans rfl,(blk_cell BK29.out 0).trans rfl,(blk_cell BK29.out 1).trans rfl,(blk_cell BK29.out 2).trans rfl⟩ (fun hHeld=> ?_)
   clear hK K
   refine no_ (N:=some 72) ?_
   refine pu_ (i:=5) (N:=some 73) (bt_ 44 63) HT_ ?_
   refine pu_ (i:=6) (N:=some 74) (bt_ 44 127) HT_ ?_
   refine pu_ (i:=8) (N:=some 76) (bt_ 44 383) HT_ ?_
   refine tk_ (i:=7) (N:=some 75) (bt_ 44 511) HT_ HW_ hHeld ?_
   refine tk_ (i:=9) (N:=some 77) (bt_ 44 1023) HT_ HW_ hHeld ?_
   refine pu_ (i:=10) (N:=some 78) (bt_ 44 2047) HT_ ?_
   refine pu_ (i:=11) (N:=some 79) (bt_ 44 4095) HT_ ?_
   refine pu_ (i:=12) (N:=some 80) (bt_ 44 8191) HT_ ?_
   refine pu_ (i:=13) (N:=some 81) (bt_ 44 16383) HT_ ?_
   refine pu_ (i:=16) (N:=some 84) (bt_ 44 81919) HT_ ?_
   refine tk_ (i:=14) (N:=some 82) (bt_ 44 98303) HT_ HW_ hHeld ?_
   refine tk_ (i:=17) (N:=some 85) (bt_ 44 229375) HT_ HW_ hHeld ?_
   refine on_ (i:=15) (N:=some 83) (bt_ 44 262143) HT_ (fun K hK=> ?_)
   refine gs_ Try.func61 #[.int .i64 t22] ?_
   with_reducible refine (law1_Num.calls t22 t35 _ A30.out).mono ?_
   rintro e w' ⟨rfl,⟨nd,rfl⟩⟩
   refine ⟨_,rfl, ?_⟩
   obtain ⟨Ao61,co61,eo61⟩:=Kd.R_slice HO11.out
   (first|subst eo61|(injection eo61 with f1_ f2_ f3_;have f4_:=f1_.symm;have f5_:=f3_.symm;clear f1_ f2_ f3_;subst f4_;subst f5_))
   refine hK.out _ _ ⟨(blk_cell BK23.out 0).trans rfl,(blk_cell BK23.out 1).trans rfl,(blk_cell BK23.out 2).trans rfl,(blk_cell BK29.out 0).trans rfl,(blk_cell BK29.out 1).trans rfl,(blk_cell BK29.out 2).trans rfl⟩ (fun hHeld=> ?_)
   clear hK K
   refine no_ (N:=some 83) ?_
   refine pu_ (i:=18) (N:=some 86) (bt_ 44 524287) HT_ ?_
   refine pu_ (i:=19) (N:=some 87) (bt_ 44 1048575) HT_ ?_
   refine pu_ (i:=20) (N:=some 88) (bt_ 44 2097151) HT_ ?_
   refine pu_ (i:=21) (N:=some 89) (bt_ 44 4194303) HT_ ?_
   refine pu_ (i:=22) (N:=some 90) (bt_ 44 8388607) HT_ ?_
   refine pu_ (i:=23) (N:=some 91) (bt_ 44 16777215) HT_ ?_
   refine pu_ (i:=24) (N:=some 92) (bt_ 44 33554431) HT_ ?_
   refine pu_ (i:=25) (N:=some 93) (bt_ 44 67108863) HT_ ?_
   refine pu_ (i:=26) (N:=some 94) (bt_ 44 134217727) HT_ ?_
   refine pu_ (i:=27) (N:=some 95) (bt_ 44 268435455) HT_ ?_
   refine pu_ (i:=28) (N:=some 96) (bt_ 44 536870911) HT_ ?_
   refine pu_ (i:=29) (N:=some 97) (bt_ 44 1073741823) HT_ ?_
   refine pu_ (i:=30) (N:=some 98) (bt_ 44 2147483647) HT_ ?_
   refine pu_ (i:=31) (N:=some 99) (bt_ 44 4294967295) HT_ ?_
   refine pu_ (i:=32) (N:=some 100) (bt_ 44 8589934591) HT_ ?_
   refine on_ (i:=33) (N:=some 101) (bt_ 44 17179869183) HT_ (fun K hK=> ?_)
   refine gs_ Try.func62 #[.slice A0 l0.length c0, .slice Ao61 y9.length co61] ?_
   with_reducible refine (r10_SameItems.calls kj4 _ _ l0 _ _ y9 true _ ?side1 ?side2 ?side3 ?side4 A34.out).mono ?_
   (case side1=>repeat (first|exact (Kd.C_below HR0.out (zl3_ HB GE1 GE23 GE29))|(with_reducible refine Kd.C_alloc ?_ _)|(with_reducible refine Kd.C_drewN ?_ _)|(with_reducible refine Kd.C_drew ?_)))
   (case side2=>exact HC0.out)
   (case side3=>exact zc_ (Kd.R_reads' HO11.out).2.2)
   (case side4=>exact (Kd.R_reads' HO11.out).2.1)
   rintro e w' ⟨rfl,⟨nd,rfl⟩⟩
   refine ⟨_,rfl, ?_⟩
   obtain ⟨Ao62,co62,eo62⟩:=Kd.R_slice HO17.out
   (first|subst eo62|(injection eo62 with f1_ f2_ f3_;have f4_:=f1_.symm;have f5_:=f3_.symm;clear f1_ f2_ f3_;subst f4_;subst f5_))
   refine hK.out _ _ ⟨(blk_cell BK23.out 0).trans rfl,(blk_cell BK23.out 1).trans rfl,(blk_cell BK23.out 2).trans rfl,(blk_cell BK29.out 0).trans rfl,(blk_cell BK29.out 1).trans rfl,(blk_cell BK29.out 2).trans rfl⟩ (fun hHeld=> ?_)
   clear hK K
   refine no_ (N:=some 101) ?_
   refine pu_ (i:=34) (N:=some 102) (bt_ 44 34359738367) HT_ ?_
   refine pu_ (i:=35) (N:=some 103) (bt_ 44 68719476735) HT_ ?_
   refine pu_ (i:=36) (N:=some 104) (bt_ 44 137438953471) HT_ ?_
   refine pu_ (i:=37) (N:=some 105) (bt_ 44 274877906943) HT_ ?_
   refine on_ (i:=38) (N:=some 106) (bt_ 44 549755813887) HT_ (fun K hK=> ?_)
   refine gs_ Try.func103 #[.slice A3 l3.length c3, .slice Ao62 y15.length co62] ?_
   with_reducible refine (r16_SameSteps.calls kj4 _ _ l3 _ _ y15 true _ ?side1 ?side2 ?side3 ?side4 A36.out).mono ?_
   (case side1=>repeat (first|exact (Kd.C_below HR3.out (zl3_ HB GE1 GE23 GE29))|(with_reducible refine Kd.C_alloc ?_ _)|(with_reducible refine Kd.C_drewN ?_ _)|(with_reducible refine Kd.C_drew ?_)))
   (case side2=>exact HC3.out)
   (case side3=>exact zc_ (Kd.R_reads' HO17.out).2.2)
   (case side4=>exact (Kd.R_reads' HO17.out).2.1)
   rintro e w' ⟨rfl,⟨nd,rfl⟩⟩
   refine ⟨_,rfl, ?_⟩
   refine hK.out _ _ ⟨(blk_cell BK23.out 0).trans rfl,(blk_cell BK23.out 1).trans rfl,(blk_cell BK23.out 2).trans rfl,(blk_cell BK29.out 0).trans rfl,(blk_cell BK29.out 1).trans rfl,(blk_cell BK29.out 2).trans rfl⟩ (fun hHeld=> ?_)
   clear hK K
   refine no_ (N:=some 106) ?_
   refine pu_ (i:=39) (N:=some 107) (bt_ 44 1099511627775) HT_ ?_
   refine pu_ (i:=40) (N:=some 108) (bt_ 44 2199023255551) HT_ ?_
   refine on_ (i:=41) (N:=some 109) (bt_ 44 4398046511103) HT_ (fun K hK=> ?_)
   refine gs_ Try.func94 #[] ?_
   with_reducible refine (law19_awake.calls kj4 t38 _ A38.out).mono ?_
   rintro e w63 ⟨rfl,hb⟩
   refine ⟨_,rfl, ?_⟩
   replace HO11:=am_ (Kd.R_below (zr_ HO11) hb)
   replace HO17:=am_ (Kd.R_below (zr_ HO17) hb)
   replace HO20:=am_ (Kd.R_below (zr_ HO20) hb)
   replace HO26:=am_ (Kd.R_below (zr_ HO26) hb)
   replace BK1:=am_ (blk_below (zb_ BK1) hb)
   replace BK23:=am_ (blk_below (zb_ BK23) hb)
   replace BK29:=am_ (blk_below (zb_ BK29) hb)
   replace HB:=am_ (below_step (zl3_ HB GE1 GE23 GE29) hb)
   (try clear hb)
   (try clear hb2)
   (try clear hk)
   (try clear hi)
   refine hK.out _ _ ⟨(blk_cell BK23.out 0).trans rfl,(blk_cell BK23.out 1).trans rfl,(blk_cell BK23.out 2).trans rfl,(blk_cell BK29.out 0).trans rfl,(blk_cell BK29.out 1).trans rfl,(blk_cell BK29.out 2).trans rfl⟩ (fun hHeld=> ?_)
   clear hK K
   refine no_ (N:=some 109) ?_
   refine pu_ (i:=42) (N:=some 110) (bt_ 44 8796093022207) HT_ ?_
   refine pu_ (i:=43) (N:=some 8) (bt_ 44 17592186044415) HT_ ?_
   refine done_ (done_of HT_.out (by kernel_rfl)) ?_
   try go_wp2
   go_ret
   exact ⟨by first|rfl|(simp [errW_none,errW_some]<;>rfl)|(simp [*,errW_none,errW_some]<;>rfl),zl3_ HB GE1 GE23 GE29⟩
end Go.Proofs.Ytcgefpklljclgaa.Print
