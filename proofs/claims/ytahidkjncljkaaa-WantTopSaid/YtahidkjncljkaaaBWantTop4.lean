/- WantTop: a part -/
import Derived.Test.YtahidkjncljkaaaRows
import Derived.WalkKit
import Derived.ProofKit
import Derived.OpenShut
import Derived.JoinedOf
import Derived.SizedLaws
import Derived.ChangeSlices
import Derived.Test.YtahidkjncljkaaaBWantTop0
import Derived.Test.YtahidkjncljkaaaBWantTop1
import Derived.Test.YtahidkjncljkaaaBWantTop2
import Derived.Test.YtahidkjncljkaaaBWantTop3
set_option linter.unusedVariables false
set_option linter.unusedSimpArgs false
namespace Go.Proofs.Ytahidkjncljkaaa.Print
open Go.RowKit Go.Proofs.YtahidkjncljkaaaW.PrintWords Go.Proofs.YtahidkjncljkaaaW.PrintLast Go.Proofs.YtahidkjncljkaaaW.PrintMore
attribute [local go_sem] max2_int min2_int max_two min_two max_three min_three max_four min_four

attribute [local go_sem high] eqA39
mutual
noncomputable def law11_WantTop.l0:Nat→List (S39)→List (S39)→Int→Option (Bool)
 |0,_,_,_=>none
 |k+1,x3,x4,x5=>if x5<(x4.length:Int) then (if 0≤x5 then (law11_WantTop.l1 k x3 x4 x5 0 (((rd_T39 x4 x5).f1).toList==([]:List UInt8)) 0) else (none)) else ((law11_awake.f k).bind fun t8=>(some t8))
noncomputable def law11_WantTop.l1:Nat→List (S39)→List (S39)→Int→Int→Bool→Int→Option (Bool)
 |0,_,_,_,_,_,_=>none
 |k+1,x3,x4,x5,x6,x7,x8=>if x8<(x3.length:Int) then (if 0≤x8 then (if 0≤x5 then (if x5<(x4.length:Int) then (if ((((rd_T39 x3 x8).f0).toList)==(((rd_T39 x4 x5).f0).toList) && ((((rd_T39 x3 x8).f1).toList)==(((rd_T39 x4 x5).f1).toList) && ((((rd_T39 x3 x8).f2.f0)==((rd_T39 x4 x5).f2.f0) && (((rd_T39 x3 x8).f2.f1)==((rd_T39 x4 x5).f2.f1) && (((rd_T39 x3 x8).f2.f2)==((rd_T39 x4 x5).f2.f2)))))))=true then (if x7=true then (law11_WantTop.l1 k x3 x4 x5 (wrap64 (x6+1)) true (wrap64 (x8+1))) else (if x8<x5 then (if x8<(x4.length:Int) then (law11_WantTop.l1 k x3 x4 x5 (wrap64 (x6+1)) (((rd_T39 x4 x8).f0).toList==((rd_T39 x4 x5).f1).toList) (wrap64 (x8+1))) else (none)) else (law11_WantTop.l1 k x3 x4 x5 (wrap64 (x6+1)) false (wrap64 (x8+1))))) else (if x7=true then (law11_WantTop.l1 k x3 x4 x5 x6 true (wrap64 (x8+1))) else (if x8<x5 then (if x8<(x4.length:Int) then (law11_WantTop.l1 k x3 x4 x5 x6 (((rd_T39 x4 x8).f0).toList==((rd_T39 x4 x5).f1).toList) (wrap64 (x8+1))) else (none)) else (law11_WantTop.l1 k x3 x4 x5 x6 false (wrap64 (x8+1)))))) else (none)) else (none)) else (none)) else (if 0≤x5 then (if x5<(x4.length:Int) then ((want_Depth.f x3 ((rd_T39 x4 x5).f0)).bind fun t17=>(if x6=1 then (if x7=true then (if x5>0 then (if 0≤(wrap64 (x5 - 1)) then (if (wrap64 (x5 - 1))<(x4.length:Int) then ((want_Depth.f x3 ((rd_T39 x4 (wrap64 (x5 - 1))).f0)).bind fun t19=>(if t19>t17 then (some false) else ((want_Depth.f x3 ((rd_T39 x4 (wrap64 (x5 - 1))).f0)).bind fun t21=>(if t21=t17 then (if ((Op.bytesLess (((rd_T39 x4 (wrap64 (x5 - 1))).f0).toList) (((rd_T39 x4 x5).f0).toList))=true) then (law11_WantTop.l0 k x3 x4 (wrap64 (x5+1))) else (some false)) else (law11_WantTop.l0 k x3 x4 (wrap64 (x5+1))))))) else (none)) else (none)) else (law11_WantTop.l0 k x3 x4 (wrap64 (x5+1)))) else (some false)) else (some false))) else (none)) else (none))
end
noncomputable def law11_WantTop.f (k:Nat) (l0:List Int):Option (Bool):=if (l0.length:Int)>60 then ((law11_awake.f k).bind fun t1=>(some t1)) else ((law11_Make.f k l0 false).bind fun t2=>((want_Top.f t2).bind fun t5=>(if (t5.length:Int)=(t2.length:Int) then (law11_WantTop.l0 k t2 t5 0) else (some false))))
theorem law11_WantTop.mono_l: ∀k,(∀y0 y1 y2,LeO (law11_WantTop.l0 k y0 y1 y2) (law11_WantTop.l0 (k+1) y0 y1 y2))∧(∀y0 y1 y2 y3 y4 y5,LeO (law11_WantTop.l1 k y0 y1 y2 y3 y4 y5) (law11_WantTop.l1 (k+1) y0 y1 y2 y3 y4 y5))
 |0=>⟨fun _ _ _ r h=>by simp [law11_WantTop.l0] at h,fun _ _ _ _ _ _ r h=>by simp [law11_WantTop.l1] at h⟩
 |k+1=>by
  obtain ⟨ih0,ih1⟩:=law11_WantTop.mono_l k
  refine ⟨?_, ?_⟩
  ·intro y0 y1 y2
   unfold law11_WantTop.l0
   repeat' first
   |(with_reducible exact ih0 _ _ _)
   |(with_reducible exact ih1 _ _ _ _ _ _)
   |(with_reducible exact law11_Make.mono _ _ _)
   |(with_reducible exact law11_awake.mono _)
   |(with_reducible exact LeO.refl _)
   |(with_reducible exact LeO.none _)
   |(with_reducible refine LeO.ite ?_ ?_)
   |(with_reducible refine LeO.bind ?_ (fun _=> ?_))
   |exact ih0 _ _ _
   |exact ih1 _ _ _ _ _ _
   |exact law11_Make.mono _ _ _
   |exact law11_awake.mono _
   |exact LeO.none _
   |refine LeO.ite ?_ ?_
   |refine LeO.bind ?_ (fun _=> ?_)
  intro y0 y1 y2 y3 y4 y5
  unfold law11_WantTop.l1
  repeat' first
  |(with_reducible exact ih0 _ _ _)
  |(with_reducible exact ih1 _ _ _ _ _ _)
  |(with_reducible exact law11_Make.mono _ _ _)
  |(with_reducible exact law11_awake.mono _)
  |(with_reducible exact LeO.refl _)
  |(with_reducible exact LeO.none _)
  |(with_reducible refine LeO.ite ?_ ?_)
  |(with_reducible refine LeO.bind ?_ (fun _=> ?_))
  |exact ih0 _ _ _
  |exact ih1 _ _ _ _ _ _
  |exact law11_Make.mono _ _ _
  |exact law11_awake.mono _
  |exact LeO.none _
  |refine LeO.ite ?_ ?_
  |refine LeO.bind ?_ (fun _=> ?_)
theorem law11_WantTop.mono: ∀a0 k,LeO (law11_WantTop.f k a0) (law11_WantTop.f (k+1) a0):=by
 intro a0 k
 obtain ⟨ih0,ih1⟩:=law11_WantTop.mono_l k
 unfold law11_WantTop.f
 repeat' first
  |(with_reducible exact ih0 _ _ _)
  |(with_reducible exact ih1 _ _ _ _ _ _)
  |(with_reducible exact law11_Make.mono _ _ _)
  |(with_reducible exact law11_awake.mono _)
  |(with_reducible exact LeO.refl _)
  |(with_reducible exact LeO.none _)
  |(with_reducible refine LeO.ite ?_ ?_)
  |(with_reducible refine LeO.bind ?_ (fun _=> ?_))
  |exact ih0 _ _ _
  |exact ih1 _ _ _ _ _ _
  |exact law11_Make.mono _ _ _
  |exact law11_awake.mono _
  |exact LeO.none _
  |refine LeO.ite ?_ ?_
  |refine LeO.bind ?_ (fun _=> ?_)
noncomputable def law11_WantTop.T10:Bool×List (List Nat×List Nat):=(true,[([],[]),([],[]),([0,1],[0,1]),([2],[2]),([3],[3]),([4],[4]),([],[]),([5,6,0,1,2,3,4,5,6],[5])])
noncomputable def law11_WantTop.B10:List Nat:=[0,0,3,7,15,31,0,127]
theorem law11_WantTop.tab10:rtab .any (opsOf Try.f5 10)=law11_WantTop.T10:=by kernel_rfl
theorem law11_WantTop.bits10:waitsOk law11_WantTop.T10.2 law11_WantTop.B10=true:=by kernel_rfl
noncomputable def law11_WantTop.T14:Bool×List (List Nat×List Nat):=(true,[([],[]),([],[]),([0,1],[0,1]),([2],[2]),([],[]),([],[]),([4,5],[4,5]),([6],[6]),([3,7],[3,7])])
noncomputable def law11_WantTop.B14:List Nat:=[0,0,3,7,0,0,48,112,255]
theorem law11_WantTop.tab14:rtab .any (opsOf Try.f5 14)=law11_WantTop.T14:=by kernel_rfl
theorem law11_WantTop.bits14:waitsOk law11_WantTop.T14.2 law11_WantTop.B14=true:=by kernel_rfl
noncomputable def law11_WantTop.T16:Bool×List (List Nat×List Nat):=(true,[([],[]),([0],[0]),([1],[1]),([1],[1]),([2,3,1],[1,2,3]),([4,1,1],[1,4]),([5],[5]),([5],[5]),([6,7,5],[5,6,7]),([8,5],[5,8]),([9,5],[5,9]),([5],[5]),([5],[5]),([11,12,5],[5,11,12]),([13,5],[5,13]),([14,5],[5,14]),([10,15,5],[5,10,15]),([5,16,1],[1,5,16]),([1,17],[1,17]),([18,5,0,1,2,3,4,5,6,7,8,9,10,11,12,13,14,15,16,17,18],[0,18])])
noncomputable def law11_WantTop.B16:List Nat:=[0,1,3,3,15,31,63,63,255,511,1023,63,63,6207,14399,30783,65535,131071,262143,524287]
theorem law11_WantTop.tab16:rtab .any (opsOf Try.f5 16)=law11_WantTop.T16:=by kernel_rfl
theorem law11_WantTop.bits16:waitsOk law11_WantTop.T16.2 law11_WantTop.B16=true:=by kernel_rfl
noncomputable def law11_WantTop.T18:Bool×List (List Nat×List Nat):=(true,[([],[]),([0],[0]),([1],[1]),([2],[2]),([3,2],[2,3]),([2,4],[2,4]),([5,2],[5]),([6],[6]),([7,6],[6,7]),([8,6,6],[6,8]),([9],[9]),([9],[9]),([9],[9]),([12,9],[9,12]),([11,13,9],[9,11,13]),([14,9],[9,14]),([15,9],[9,15]),([10,16,9,9],[9,10,16]),([9],[9]),([17,18,9],[9,17,18]),([19,17,9],[9,19]),([20],[20]),([20],[20]),([20],[20]),([23,20],[20,23]),([22,24,20],[20,22,24]),([25,20],[20,25]),([26,20],[20,26]),([21,27,20,20],[20,21,27]),([20],[20]),([28,29,20],[20,28,29]),([30,28,20],[20,30]),([31],[31]),([31],[31]),([33,31],[31,33]),([32,34,31],[31,32,34]),([35,31],[31,35]),([36,31],[31,36]),([31],[31]),([31],[31]),([38,39,31],[31,38,39]),([40,31],[31,40]),([41,31],[31,41]),([37,42,31],[31,37,42]),([31,43,20],[20,31,43]),([20,44,9],[9,20,44]),([9,45,6],[6,9,45]),([6,46],[6,46])])
noncomputable def law11_WantTop.B18:List Nat:=[0,1,3,7,15,31,63,127,255,511,1023,1023,1023,5119,15359,31743,64511,131071,1023,524287,1048575,2097151,2097151,2097151,10485759,31457279,65011711,132120575,268435455,2097151,1073741823,2147483647,4294967295,4294967295,12884901887,34359738367,68719476735,137438953471,4294967295,4294967295,828928688127,1928440315903,4127463571455,8796093022207,17592186044415,35184372088831,70368744177663,140737488355327]
theorem law11_WantTop.tab18:rtab .any (opsOf Try.f5 18)=law11_WantTop.T18:=by kernel_rfl
theorem law11_WantTop.bits18:waitsOk law11_WantTop.T18.2 law11_WantTop.B18=true:=by kernel_rfl
set_option maxHeartbeats 8000000 in
set_option maxRecDepth 100000 in
theorem law11_WantTop.calls (k:Nat) (A0:Option Addr) (c0:Nat) (l0:List Int) (r:Bool) (w:World) (hr0:Kd.C (Kd.int .u8) w A0 l0.length l0) (hc0:l0.length≤c0) (h:law11_WantTop.f k l0=some r):
  Calls Try.prog 5 #[.slice A0 l0.length c0] w fun e w'=>e= .returned (.bool r)∧Below w.heap.size w w':=by
 have hu39:=Try.underlying39
 have HR0:=Aside0.mk hr0
 have HC0:=Aside0.mk hc0
 clear hr0 hc0
 have HB:=am_ (Below.refl w.heap.size w)
 have H:(if (l0.length:Int)>60 then ((law11_awake.f k).bind fun t1=>(some t1)) else ((law11_Make.f k l0 false).bind fun t2=>((want_Top.f t2).bind fun t5=>(if (t5.length:Int)=(t2.length:Int) then (law11_WantTop.l0 k t2 t5 0) else (some false)))))=some r:=h
 clear h
 by_cases c2:(l0.length:Int)>60
 ·rw [if_pos c2] at H
  have c2b0:decide (60<(l0.length:Int))=true:=decide_eq_true c2
  have c2b1:decide (60<l0.length)=true:=decide_eq_true (by omega)
  clear c2
  replace H:=Option.bind_eq_some_iff.mp H
  obtain ⟨t1,A30,H⟩:=H
  try dsimp only at H
  have A3:=Aside0.mk A30
  clear A30
  obtain rfl:=Option.some.inj H
  go_enter Try.func5,Try.ntmps5
  go_wp2_with (first|((with_reducible refine gate_callee (f:=23) rfl ?_);refine gl_ (some 13) Try.func23 #[] ?_;(with_reducible refine (law11_awake.calls k t1 _ A3.out).mono ?_);rintro e w4 ⟨rfl,hb⟩;refine ⟨_,rfl, ?_⟩;replace HB:=am_ (below_step (zl0_ HB) hb);(try clear hb);(try clear hb2);(try clear hk);(try clear hi)))
  go_ret
  exact ⟨by first|rfl|(simp [errW_none,errW_some]<;>rfl)|(simp [*,errW_none,errW_some]<;>rfl),zl0_ HB⟩
 rw [if_neg c2] at H
 have c2b0:decide (60<(l0.length:Int))=false:=decide_eq_false c2
 have c2b1:decide (60<l0.length)=false:=decide_eq_false (by omega)
 clear c2
 replace H:=Option.bind_eq_some_iff.mp H
 obtain ⟨t2,A50,H⟩:=H
 try dsimp only at H
 have A5:=Aside0.mk A50
 clear A50
 replace H:=Option.bind_eq_some_iff.mp H
 obtain ⟨t5,A60,H⟩:=H
 try dsimp only at H
 have A6:=Aside0.mk A60
 clear A60
 by_cases c7:(t5.length:Int)=(t2.length:Int)
 rotate_left
 ·rw [if_neg c7] at H
  have c7b0:((t5.length:Int)==(t2.length:Int))=false:=beq_eq_false_iff_ne.mpr c7
  have c7b1:((t5.length:Int) !=(t2.length:Int))=true:=bne_iff_ne.mpr c7
  have c7b2:(t5.length==t2.length)=false:=by first|simpa using c7|(simp at c7 ⊢;omega)
  obtain rfl:=Option.some.inj H
  go_enter Try.func5,Try.ntmps5
  go_wp2_with (first|((with_reducible refine gate_callee (f:=32) rfl ?_);refine gl_ (some 15) Try.func32 #[.slice A0 l0.length c0, .bool false] ?_;(with_reducible refine (law11_Make.calls k _ _ l0 false t2 _ ?side1 ?side2 A5.out).mono ?_);(case side1=>repeat (first|exact HR0.out|(with_reducible refine Kd.C_alloc ?_ _)|(with_reducible refine Kd.C_drewN ?_ _)|(with_reducible refine Kd.C_drew ?_)));(case side2=>exact HC0.out);rintro e w75 ⟨v3,rfl,ho0,hb⟩;refine ⟨_,rfl, ?_⟩;have HO4:=am_ (Kd.R_lower ho0 (below_size (zl0_ HB)));replace HB:=am_ (below_step (zl0_ HB) hb);(try clear hb);(try clear hb2);(try clear hk);(try clear hi);(try clear ho0);obtain ⟨Ao76,co76,eo76⟩:=Kd.R_slice HO4.out;subst eo76)|((with_reducible refine gate_callee (f:=30) rfl ?_);refine gl_ (some 17) Try.func30 #[.slice Ao76 t2.length co76] ?_;(with_reducible refine (want_Top.calls _ _ t2 t5 _ ?side1 ?side2 A6.out).mono ?_);(case side1=>exact zc_ (Kd.R_reads' HO4.out).2.2);(case side2=>exact (Kd.R_reads' HO4.out).2.1);rintro e w77 ⟨v6,rfl,ho0,hb⟩;refine ⟨_,rfl, ?_⟩;have HO7:=am_ (Kd.R_lower (Kd.R_new' ho0 (Kd.R_lt (zr_ HO4))) (below_size (zl0_ HB)));replace HO4:=am_ (Kd.R_elder' (zr_ HO4) (Kd.R_base ho0) hb);replace HB:=am_ (below_step (zl0_ HB) hb);(try clear hb);(try clear hb2);(try clear hk);(try clear hi);(try clear ho0);obtain ⟨Ao78,co78,eo78⟩:=Kd.R_slice HO7.out;subst eo78))
  go_ret
  exact ⟨by first|rfl|(simp [errW_none,errW_some]<;>rfl)|(simp [*,errW_none,errW_some]<;>rfl),zl0_ HB⟩

 rw [if_pos c7] at H
 have c7b0:((t5.length:Int)==(t2.length:Int))=true:=beq_iff_eq.mpr c7
 have c7b1:((t5.length:Int) !=(t2.length:Int))=false:=bne_eq_false_iff_eq.mpr c7
 have c7b2:(t5.length==t2.length)=true:=by first|simpa using c7|(simp at c7 ⊢;omega)
 clear c7
 have H':=Aside0.mk H
 clear H
 go_enter Try.func5,Try.ntmps5
 go_wp2_with (first|((with_reducible refine gate_callee (f:=32) rfl ?_);refine gl_ (some 15) Try.func32 #[.slice A0 l0.length c0, .bool false] ?_;(with_reducible refine (law11_Make.calls k _ _ l0 false t2 _ ?side1 ?side2 A5.out).mono ?_);(case side1=>repeat (first|exact HR0.out|(with_reducible refine Kd.C_alloc ?_ _)|(with_reducible refine Kd.C_drewN ?_ _)|(with_reducible refine Kd.C_drew ?_)));(case side2=>exact HC0.out);rintro e w8 ⟨v3,rfl,ho0,hb⟩;refine ⟨_,rfl, ?_⟩;have HO4:=am_ (Kd.R_lower ho0 (below_size (zl0_ HB)));replace HB:=am_ (below_step (zl0_ HB) hb);(try clear hb);(try clear hb2);(try clear hk);(try clear hi);(try clear ho0);obtain ⟨Ao9,co9,eo9⟩:=Kd.R_slice HO4.out;subst eo9)|((with_reducible refine gate_callee (f:=30) rfl ?_);refine gl_ (some 17) Try.func30 #[.slice Ao9 t2.length co9] ?_;(with_reducible refine (want_Top.calls _ _ t2 t5 _ ?side1 ?side2 A6.out).mono ?_);(case side1=>exact zc_ (Kd.R_reads' HO4.out).2.2);(case side2=>exact (Kd.R_reads' HO4.out).2.1);rintro e w10 ⟨v6,rfl,ho0,hb⟩;refine ⟨_,rfl, ?_⟩;have HO7:=am_ (Kd.R_lower (Kd.R_new' ho0 (Kd.R_lt (zr_ HO4))) (below_size (zl0_ HB)));replace HO4:=am_ (Kd.R_elder' (zr_ HO4) (Kd.R_base ho0) hb);replace HB:=am_ (below_step (zl0_ HB) hb);(try clear hb);(try clear hb2);(try clear hk);(try clear hi);(try clear ho0);obtain ⟨Ao11,co11,eo11⟩:=Kd.R_slice HO7.out;subst eo11))
 go_loopg [5] k (fun kq v5 w'=> ∃(x5_1:Int),v5= .int .i64 x5_1∧Aside0 (law11_WantTop.l0 kq t2 t5 x5_1=some r)∧Aside0 (kq≤k)∧Aside0 (Kd.R k39 39 w' w.heap.size (fun k_=>some k_≠((.slice Ao11 t5.length co11):Value).ownBlock) (.slice Ao9 t2.length co9) t2)∧Aside0 (Kd.R k39 39 w' w.heap.size (fun k_=>some k_≠((.slice Ao9 t2.length co9):Value).ownBlock) (.slice Ao11 t5.length co11) t5)∧Aside0 (Below w.heap.size w w'))
 case atStart=>exact ⟨(0),(by first|rfl|(simp;done)|(simp [*];done)),H',⟨Nat.le_refl _⟩,⟨by (with_reducible repeat (first|apply Kd.R_alloc|apply Kd.R_drewN|apply Kd.R_drew));exact Kd.R_mono HO4.out (fun _ hk=>hk.2)⟩,⟨by (with_reducible repeat (first|apply Kd.R_alloc|apply Kd.R_drewN|apply Kd.R_drew));exact Kd.R_mono HO7.out (fun _ hk=>hk.2)⟩,⟨zl0_ HB⟩⟩
 case round=>
  clear H'
  try clear c2
  try clear c2b0
  try clear c2b1
  try clear p2
  try clear c3
  try clear c5
  try clear c7
  try clear c7b0
  try clear c7b1
  try clear c7b2
  obtain ⟨x5_1,rfl,HA,HK1,HO_3,HO_4,HB⟩:=hrel
  cases gk with
  |zero=>exact absurd HA.out (by simp [law11_WantTop.l0])
  |succ k1=>
   have H:=HA.out
   clear HA
   simp only [law11_WantTop.l0] at H
   by_cases c12:x5_1<(t5.length:Int)
   rotate_left
   ·rw [if_neg c12] at H
    have c12b0:decide (x5_1<(t5.length:Int))=false:=decide_eq_false c12
    clear c12
    replace H:=Option.bind_eq_some_iff.mp H
    obtain ⟨t8,A730,H⟩:=H
    try dsimp only at H
    have A73:=Aside0.mk A730
    clear A730
    obtain rfl:=Option.some.inj H
    go_wp2_with (first|((with_reducible refine gate_callee (f:=23) rfl ?_);refine gl_ (some 126) Try.func23 #[] ?_;(with_reducible refine (law11_awake.calls k1 t8 _ A73.out).mono ?_);rintro e w74 ⟨rfl,hb⟩;refine ⟨_,rfl, ?_⟩;replace HO_3:=am_ (Kd.R_below (zr_ HO_3) hb);replace HO_4:=am_ (Kd.R_below (zr_ HO_4) hb);replace HB:=am_ (below_step (zl0_ HB) hb);(try clear hb);(try clear hb2);(try clear hk);(try clear hi)))
    go_ret
    exact ⟨by first|rfl|(simp [errW_none,errW_some]<;>rfl)|(simp [*,errW_none,errW_some]<;>rfl),zl0_ HB⟩
   rw [if_pos c12] at H
   have c12b0:decide (x5_1<(t5.length:Int))=true:=decide_eq_true c12
   clear c12
   by_cases c13:0≤x5_1
   rotate_left
   ·rw [if_neg c13] at H
    exact absurd H (by simp)
   rw [if_pos c13] at H
   have c13b0:decide (0≤x5_1)=true:=decide_eq_true c13
   clear c13
   have H':=Aside0.mk H
   clear H
   try go_wp2
   replace HO_3:=am_ (Kd.R_drew HO_3.out)
   replace HO_4:=am_ (Kd.R_drew HO_4.out)
   replace HB:=am_ (below_drew1 HB.out)
   have p9:0≤(x5_1:Int):=of_decide_eq_true zq_
   have q9:x5_1<(t5.length:Int):=of_decide_eq_true zq_
   obtain ⟨ad9,e9,hx9_0,hx9_1,hx9_2,hx9_3,hx9_4⟩:=at_T39 (Kd.R_reads' HO_4.out).2.2 x5_1 p9 q9
   cases e9
   replace p9:=eq_true p9
   replace q9:=eq_true q9
   refine start_ (n:=8) (S:=fun w'=>w'.cell? (ad9.add ((x5_1).toNat*5))=some (.string ((rd_T39 t5 x5_1).f0))∧w'.cell? ⟨(ad9.add ((x5_1).toNat*5)).block,(ad9.add ((x5_1).toNat*5)).off+1,none⟩=some (.string ((rd_T39 t5 x5_1).f1))∧w'.cell? ⟨(ad9.add ((x5_1).toNat*5)).block,(ad9.add ((x5_1).toNat*5)).off+2,none⟩=some (.int .i64 ((rd_T39 t5 x5_1).f2.f0))∧w'.cell? ⟨(ad9.add ((x5_1).toNat*5)).block,(ad9.add ((x5_1).toNat*5)).off+3,none⟩=some (.int .i64 ((rd_T39 t5 x5_1).f2.f1))∧w'.cell? ⟨(ad9.add ((x5_1).toNat*5)).block,(ad9.add ((x5_1).toNat*5)).off+4,none⟩=some (.int .i64 ((rd_T39 t5 x5_1).f2.f2))) (ds:=[]) (bt_ 8 0) (by kernel_rfl) rfl rfl ⟨hx9_0,hx9_1,hx9_2,hx9_3,hx9_4⟩ (fun hHeld=> ?_);refine with_tabW law11_WantTop.tab10 law11_WantTop.bits10 (fun HT_ HW_=> ?_)
   generalize wr.drew=w14 at HO_3 HO_4 HB hx9_0 hx9_1 hx9_2 hx9_3 hx9_4 hHeld ⊢
   refine pu_ (i:=0) (N:=some 29) (bt_ 8 1) HT_ ?_
   refine pu_ (i:=1) (N:=some 30) (bt_ 8 3) HT_ ?_
   refine pu_ (i:=2) (N:=some 31) (bt_ 8 7) HT_ ?_
   refine pu_ (i:=3) (N:=some 32) (bt_ 8 15) HT_ ?_
   refine pu_ (i:=6) (N:=some 6) (bt_ 8 79) HT_ ?_
   refine tk_ (i:=4) (N:=some 33) (bt_ 8 95) HT_ HW_ hHeld ?_
   refine pu_ (i:=5) (N:=some 34) (bt_ 8 127) HT_ ?_
   refine pu_ (i:=7) (N:=some 7) (bt_ 8 255) HT_ ?_
   refine done_ (done_of HT_.out (by kernel_rfl)) ?_
   try go_wp2
   go_loopg [6,7,8] k1 (fun kq v6 v7 v8 w'=> ∃(x6_2:Int) (x7_2:Bool) (x8_2:Int),v6= .int .i64 x6_2∧v7= .bool x7_2∧v8= .int .i64 x8_2∧Aside0 (law11_WantTop.l1 kq t2 t5 x5_1 x6_2 x7_2 x8_2=some r)∧Aside0 (kq≤k1)∧Aside0 (Kd.R k39 39 w' w.heap.size (fun k_=>some k_≠((.slice (some ad9) t5.length co11):Value).ownBlock) (.slice Ao9 t2.length co9) t2)∧Aside0 (Kd.R k39 39 w' w.heap.size (fun k_=>some k_≠((.slice Ao9 t2.length co9):Value).ownBlock) (.slice (some ad9) t5.length co11) t5)∧Aside0 (Below w.heap.size w w'))
   case atStart=>exact ⟨(0),((((rd_T39 t5 x5_1).f1).toList==([]:List UInt8))),(0),(by first|rfl|(simp;done)|(simp [*];done)),(by first|rfl|(simp;done)|(simp [*];done)),(by first|rfl|(simp;done)|(simp [*];done)),H',⟨Nat.le_refl _⟩,⟨by (with_reducible repeat (first|apply Kd.R_alloc|apply Kd.R_drewN|apply Kd.R_drew));exact HO_3.out⟩,⟨by (with_reducible repeat (first|apply Kd.R_alloc|apply Kd.R_drewN|apply Kd.R_drew));exact HO_4.out⟩,⟨zl0_ HB⟩⟩
   case round=>
    clear H'
    try clear c1
    try clear c2
    try clear c2b0
    try clear c2b1
    try clear p2
    try clear c3
    try clear c5
    try clear c7
    try clear c7b0
    try clear c7b1
    try clear c7b2
    try clear p9
    try clear q9
    try clear hx9
    try clear c12
    try clear c12b0
    try clear c13
    try clear c13b0
    try clear hx9_0
    try clear hx9_1
    try clear hx9_2
    try clear hx9_3
    try clear hx9_4
    try clear p2
    try clear p9
    try clear q9
    obtain ⟨x6_2,x7_2,x8_2,rfl,rfl,rfl,HA,HK2,HO_3,HO_4,HB⟩:=hrel
    cases gk with
    |zero=>exact absurd HA.out (by simp [law11_WantTop.l1])
    |succ k2=>
     have H:=HA.out
     clear HA
     simp only [law11_WantTop.l1] at H
     by_cases c15:x8_2<(t2.length:Int)
     ·rw [if_pos c15] at H
      have c15b0:decide (x8_2<(t2.length:Int))=true:=decide_eq_true c15
      clear c15
      by_cases c16:0≤x8_2
      rotate_left
      ·rw [if_neg c16] at H
       exact absurd H (by simp)
      rw [if_pos c16] at H
      have c16b0:decide (0≤x8_2)=true:=decide_eq_true c16
      clear c16
      by_cases c17:0≤x5_1
      rotate_left
      ·rw [if_neg c17] at H
       exact absurd H (by simp)
      rw [if_pos c17] at H
      have c17b0:decide (0≤x5_1)=true:=decide_eq_true c17
      clear c17
      by_cases c18:x5_1<(t5.length:Int)
      rotate_left
      ·rw [if_neg c18] at H
       exact absurd H (by simp)
      rw [if_pos c18] at H
      have c18b0:decide (x5_1<(t5.length:Int))=true:=decide_eq_true c18
      clear c18
      by_cases c19:((((rd_T39 t2 x8_2).f0).toList)==(((rd_T39 t5 x5_1).f0).toList) && ((((rd_T39 t2 x8_2).f1).toList)==(((rd_T39 t5 x5_1).f1).toList) && ((((rd_T39 t2 x8_2).f2.f0)==((rd_T39 t5 x5_1).f2.f0) && (((rd_T39 t2 x8_2).f2.f1)==((rd_T39 t5 x5_1).f2.f1) && (((rd_T39 t2 x8_2).f2.f2)==((rd_T39 t5 x5_1).f2.f2)))))))=true
      ·rw [if_pos c19] at H
       have c19b0:((((rd_T39 t2 x8_2).f0).toList)==(((rd_T39 t5 x5_1).f0).toList) && ((((rd_T39 t2 x8_2).f1).toList)==(((rd_T39 t5 x5_1).f1).toList) && ((((rd_T39 t2 x8_2).f2.f0)==((rd_T39 t5 x5_1).f2.f0) && (((rd_T39 t2 x8_2).f2.f1)==((rd_T39 t5 x5_1).f2.f1) && (((rd_T39 t2 x8_2).f2.f2)==((rd_T39 t5 x5_1).f2.f2)))))))=true:=c19
       (try (have c19b1:decide ((((rd_T39 t2 x8_2).f0).toList)=(((rd_T39 t5 x5_1).f0).toList) && ((((rd_T39 t2 x8_2).f1).toList)==(((rd_T39 t5 x5_1).f1).toList) && ((((rd_T39 t2 x8_2).f2.f0)==((rd_T39 t5 x5_1).f2.f0) && (((rd_T39 t2 x8_2).f2.f1)==((rd_T39 t5 x5_1).f2.f1) && (((rd_T39 t2 x8_2).f2.f2)==((rd_T39 t5 x5_1).f2.f2)))))))=true:=by simpa using c19))
       (try (have c19b2:((((rd_T39 t2 x8_2).f0).toList)==(((rd_T39 t5 x5_1).f0).toList) && ((((rd_T39 t2 x8_2).f1).toList)==(((rd_T39 t5 x5_1).f1).toList) && ((((rd_T39 t2 x8_2).f2.f0)==((rd_T39 t5 x5_1).f2.f0) && (((rd_T39 t2 x8_2).f2.f1)==((rd_T39 t5 x5_1).f2.f1) && (((rd_T39 t2 x8_2).f2.f2)==((rd_T39 t5 x5_1).f2.f2)))))))=true:=by simpa using c19))
       clear c19
       by_cases c20:x7_2=true
       ·subst c20
        have H1:(law11_WantTop.l1 k2 t2 t5 x5_1 (wrap64 (x6_2+1)) true (wrap64 (x8_2+1)))=some r:=by rw [if_pos rfl] at H;exact H
        clear H
        have H:=H1
        clear H1
        have H':=Aside0.mk H
        clear H
        try go_wp2
        replace HO_3:=am_ (Kd.R_drew HO_3.out)
        replace HO_4:=am_ (Kd.R_drew HO_4.out)
        replace HB:=am_ (below_drew1 HB.out)
        have p10:0≤(x8_2:Int):=of_decide_eq_true zq_
        have q10:x8_2<(t2.length:Int):=of_decide_eq_true zq_
        obtain ⟨ad10,e10,hx10_0,hx10_1,hx10_2,hx10_3,hx10_4⟩:=at_T39 (Kd.R_reads' HO_3.out).2.2 x8_2 p10 q10
        cases e10
        replace p10:=eq_true p10
        replace q10:=eq_true q10
        have p11:0≤(x5_1:Int):=of_decide_eq_true zq_
        have q11:x5_1<(t5.length:Int):=of_decide_eq_true zq_
        obtain ⟨ad11,e11,hx11_0,hx11_1,hx11_2,hx11_3,hx11_4⟩:=at_T39 (Kd.R_reads' HO_4.out).2.2 x5_1 p11 q11
        obtain rfl:ad9=ad11:=(by injection e11)
        replace p11:=eq_true p11
        replace q11:=eq_true q11
        refine start_ (n:=9) (S:=fun w'=>w'.cell? (ad10.add ((x8_2).toNat*5))=some (.string ((rd_T39 t2 x8_2).f0))∧w'.cell? ⟨(ad10.add ((x8_2).toNat*5)).block,(ad10.add ((x8_2).toNat*5)).off+1,none⟩=some (.string ((rd_T39 t2 x8_2).f1))∧w'.cell? ⟨(ad10.add ((x8_2).toNat*5)).block,(ad10.add ((x8_2).toNat*5)).off+2,none⟩=some (.int .i64 ((rd_T39 t2 x8_2).f2.f0))∧w'.cell? ⟨(ad10.add ((x8_2).toNat*5)).block,(ad10.add ((x8_2).toNat*5)).off+3,none⟩=some (.int .i64 ((rd_T39 t2 x8_2).f2.f1))∧w'.cell? ⟨(ad10.add ((x8_2).toNat*5)).block,(ad10.add ((x8_2).toNat*5)).off+4,none⟩=some (.int .i64 ((rd_T39 t2 x8_2).f2.f2))∧w'.cell? (ad9.add ((x5_1).toNat*5))=some (.string ((rd_T39 t5 x5_1).f0))∧w'.cell? ⟨(ad9.add ((x5_1).toNat*5)).block,(ad9.add ((x5_1).toNat*5)).off+1,none⟩=some (.string ((rd_T39 t5 x5_1).f1))∧w'.cell? ⟨(ad9.add ((x5_1).toNat*5)).block,(ad9.add ((x5_1).toNat*5)).off+2,none⟩=some (.int .i64 ((rd_T39 t5 x5_1).f2.f0))∧w'.cell? ⟨(ad9.add ((x5_1).toNat*5)).block,(ad9.add ((x5_1).toNat*5)).off+3,none⟩=some (.int .i64 ((rd_T39 t5 x5_1).f2.f1))∧w'.cell? ⟨(ad9.add ((x5_1).toNat*5)).block,(ad9.add ((x5_1).toNat*5)).off+4,none⟩=some (.int .i64 ((rd_T39 t5 x5_1).f2.f2))) (ds:=[]) (bt_ 9 0) (by kernel_rfl) rfl rfl ⟨hx10_0,hx10_1,hx10_2,hx10_3,hx10_4,hx11_0,hx11_1,hx11_2,hx11_3,hx11_4⟩ (fun hHeld=> ?_);refine with_tabW law11_WantTop.tab14 law11_WantTop.bits14 (fun HT_ HW_=> ?_)
        generalize wr.drew=w21 at HO_3 HO_4 HB hx10_0 hx10_1 hx10_2 hx10_3 hx10_4 hx11_0 hx11_1 hx11_2 hx11_3 hx11_4 hHeld ⊢
        refine pu_ (i:=0) (N:=some 41) (bt_ 9 1) HT_ ?_
        refine pu_ (i:=1) (N:=some 42) (bt_ 9 3) HT_ ?_
        refine pu_ (i:=2) (N:=some 43) (bt_ 9 7) HT_ ?_
        refine pu_ (i:=4) (N:=some 45) (bt_ 9 23) HT_ ?_
        refine pu_ (i:=5) (N:=some 46) (bt_ 9 55) HT_ ?_
        refine pu_ (i:=6) (N:=some 47) (bt_ 9 119) HT_ ?_
        refine tk_ (i:=3) (N:=some 44) (bt_ 9 127) HT_ HW_ hHeld ?_
        refine tk_ (i:=7) (N:=some 48) (bt_ 9 255) HT_ HW_ hHeld ?_
        refine pu_ (i:=8) (N:=some 49) (bt_ 9 511) HT_ ?_
        refine done_ (done_of HT_.out (by kernel_rfl)) ?_
        try go_wp2
        replace HO_3:=am_ (Kd.R_drew HO_3.out)
        replace HO_4:=am_ (Kd.R_drew HO_4.out)
        replace HB:=am_ (below_drew1 HB.out)
        refine start_ (n:=20) (S:=fun w'=>True) (ds:=[]) (bt_ 20 0) (by kernel_rfl) rfl rfl trivial (fun hHeld=> ?_);refine with_tabW law11_WantTop.tab16 law11_WantTop.bits16 (fun HT_ HW_=> ?_)
        generalize w21.drew=w22 at HO_3 HO_4 HB hHeld ⊢
        refine pu_ (i:=0) (N:=some 52) (bt_ 20 1) HT_ ?_
        refine pu_ (i:=1) (N:=some 53) (bt_ 20 3) HT_ ?_
        refine pn_ (i:=2) (N:=some 54) (bt_ 20 7) HT_ ?_
        refine pn_ (i:=3) (N:=some 55) (bt_ 20 15) HT_ ?_
        refine pn_ (i:=4) (N:=some 56) (bt_ 20 31) HT_ ?_
        refine pn_ (i:=5) (N:=some 57) (bt_ 20 63) HT_ ?_
        refine pn_ (i:=6) (N:=some 58) (bt_ 20 127) HT_ ?_
        refine pn_ (i:=7) (N:=some 59) (bt_ 20 255) HT_ ?_
        refine pn_ (i:=8) (N:=some 60) (bt_ 20 511) HT_ ?_
        refine pn_ (i:=9) (N:=some 61) (bt_ 20 1023) HT_ ?_
        refine pn_ (i:=10) (N:=some 62) (bt_ 20 2047) HT_ ?_
        refine pn_ (i:=11) (N:=some 63) (bt_ 20 4095) HT_ ?_
        refine pn_ (i:=12) (N:=some 64) (bt_ 20 8191) HT_ ?_
        refine pn_ (i:=13) (N:=some 65) (bt_ 20 16383) HT_ ?_
        refine pn_ (i:=14) (N:=some 66) (bt_ 20 32767) HT_ ?_
        refine pn_ (i:=15) (N:=some 67) (bt_ 20 65535) HT_ ?_
        refine pn_ (i:=16) (N:=some 68) (bt_ 20 131071) HT_ ?_
        refine pn_ (i:=17) (N:=some 69) (bt_ 20 262143) HT_ ?_
        refine pu_ (i:=18) (N:=some 70) (bt_ 20 524287) HT_ ?_
        refine pu_ (i:=19) (N:=some 7) (bt_ 20 1048575) HT_ ?_
        refine done_ (done_of HT_.out (by kernel_rfl)) ?_
        try go_wp2
        go_roundg k2
        case measure=>have:=HK1.out;have:=HK2.out;omega
        case rel=>exact ⟨(wrap64 (x6_2+1)),(true),(wrap64 (x8_2+1)),(by first|rfl|(simp;done)|(simp [*];done)),(by first|rfl|(simp;done)|(simp [*];done)),(by first|rfl|(simp;done)|(simp [*];done)),H',⟨by have:=HK1.out;have:=HK2.out;omega⟩,⟨by (with_reducible repeat (first|apply Kd.R_alloc|apply Kd.R_drewN|apply Kd.R_drew));exact HO_3.out⟩,⟨by (with_reducible repeat (first|apply Kd.R_alloc|apply Kd.R_drewN|apply Kd.R_drew));exact HO_4.out⟩,⟨zl0_ HB⟩⟩
       replace c20:=Bool.eq_false_iff.mpr c20
       subst c20
       have H1:(if x8_2<x5_1 then (if x8_2<(t5.length:Int) then (law11_WantTop.l1 k2 t2 t5 x5_1 (wrap64 (x6_2+1)) (((rd_T39 t5 x8_2).f0).toList==((rd_T39 t5 x5_1).f1).toList) (wrap64 (x8_2+1))) else (none)) else (law11_WantTop.l1 k2 t2 t5 x5_1 (wrap64 (x6_2+1)) false (wrap64 (x8_2+1))))=some r:=by rw [if_neg (show¬(false=true) by decide)] at H;exact H
       clear H
       have H:=H1
       clear H1
       by_cases c23:x8_2<x5_1
       rotate_left
       ·rw [if_neg c23] at H
        have c23b0:decide (x8_2<x5_1)=false:=decide_eq_false c23
        clear c23
        have H':=Aside0.mk H
        clear H
        try go_wp2
        replace HO_3:=am_ (Kd.R_drew HO_3.out)
        replace HO_4:=am_ (Kd.R_drew HO_4.out)
        replace HB:=am_ (below_drew1 HB.out)
        have p10:0≤(x8_2:Int):=of_decide_eq_true zq_
        have q10:x8_2<(t2.length:Int):=of_decide_eq_true zq_
        obtain ⟨ad10,e10,hx10_0,hx10_1,hx10_2,hx10_3,hx10_4⟩:=at_T39 (Kd.R_reads' HO_3.out).2.2 x8_2 p10 q10
        cases e10
        replace p10:=eq_true p10
        replace q10:=eq_true q10
        have p11:0≤(x5_1:Int):=of_decide_eq_true zq_
        have q11:x5_1<(t5.length:Int):=of_decide_eq_true zq_
        obtain ⟨ad11,e11,hx11_0,hx11_1,hx11_2,hx11_3,hx11_4⟩:=at_T39 (Kd.R_reads' HO_4.out).2.2 x5_1 p11 q11
        obtain rfl:ad9=ad11:=(by injection e11)
        replace p11:=eq_true p11
        replace q11:=eq_true q11
        refine start_ (n:=9) (S:=fun w'=>w'.cell? (ad10.add ((x8_2).toNat*5))=some (.string ((rd_T39 t2 x8_2).f0))∧w'.cell? ⟨(ad10.add ((x8_2).toNat*5)).block,(ad10.add ((x8_2).toNat*5)).off+1,none⟩=some (.string ((rd_T39 t2 x8_2).f1))∧w'.cell? ⟨(ad10.add ((x8_2).toNat*5)).block,(ad10.add ((x8_2).toNat*5)).off+2,none⟩=some (.int .i64 ((rd_T39 t2 x8_2).f2.f0))∧w'.cell? ⟨(ad10.add ((x8_2).toNat*5)).block,(ad10.add ((x8_2).toNat*5)).off+3,none⟩=some (.int .i64 ((rd_T39 t2 x8_2).f2.f1))∧w'.cell? ⟨(ad10.add ((x8_2).toNat*5)).block,(ad10.add ((x8_2).toNat*5)).off+4,none⟩=some (.int .i64 ((rd_T39 t2 x8_2).f2.f2))∧w'.cell? (ad9.add ((x5_1).toNat*5))=some (.string ((rd_T39 t5 x5_1).f0))∧w'.cell? ⟨(ad9.add ((x5_1).toNat*5)).block,(ad9.add ((x5_1).toNat*5)).off+1,none⟩=some (.string ((rd_T39 t5 x5_1).f1))∧w'.cell? ⟨(ad9.add ((x5_1).toNat*5)).block,(ad9.add ((x5_1).toNat*5)).off+2,none⟩=some (.int .i64 ((rd_T39 t5 x5_1).f2.f0))∧w'.cell? ⟨(ad9.add ((x5_1).toNat*5)).block,(ad9.add ((x5_1).toNat*5)).off+3,none⟩=some (.int .i64 ((rd_T39 t5 x5_1).f2.f1))∧w'.cell? ⟨(ad9.add ((x5_1).toNat*5)).block,(ad9.add ((x5_1).toNat*5)).off+4,none⟩=some (.int .i64 ((rd_T39 t5 x5_1).f2.f2))) (ds:=[]) (bt_ 9 0) (by kernel_rfl) rfl rfl ⟨hx10_0,hx10_1,hx10_2,hx10_3,hx10_4,hx11_0,hx11_1,hx11_2,hx11_3,hx11_4⟩ (fun hHeld=> ?_);refine with_tabW law11_WantTop.tab14 law11_WantTop.bits14 (fun HT_ HW_=> ?_)
        generalize wr.drew=w27 at HO_3 HO_4 HB hx10_0 hx10_1 hx10_2 hx10_3 hx10_4 hx11_0 hx11_1 hx11_2 hx11_3 hx11_4 hHeld ⊢
        refine pu_ (i:=0) (N:=some 41) (bt_ 9 1) HT_ ?_
        refine pu_ (i:=1) (N:=some 42) (bt_ 9 3) HT_ ?_
        refine pu_ (i:=2) (N:=some 43) (bt_ 9 7) HT_ ?_
        refine pu_ (i:=4) (N:=some 45) (bt_ 9 23) HT_ ?_
        refine pu_ (i:=5) (N:=some 46) (bt_ 9 55) HT_ ?_
        refine pu_ (i:=6) (N:=some 47) (bt_ 9 119) HT_ ?_
        refine tk_ (i:=3) (N:=some 44) (bt_ 9 127) HT_ HW_ hHeld ?_
        refine tk_ (i:=7) (N:=some 48) (bt_ 9 255) HT_ HW_ hHeld ?_
        refine pu_ (i:=8) (N:=some 49) (bt_ 9 511) HT_ ?_
        refine done_ (done_of HT_.out (by kernel_rfl)) ?_
        try go_wp2
        replace HO_3:=am_ (Kd.R_drew HO_3.out)
        replace HO_4:=am_ (Kd.R_drew HO_4.out)
        replace HB:=am_ (below_drew1 HB.out)
        refine start_ (n:=20) (S:=fun w'=>True) (ds:=[]) (bt_ 20 0) (by kernel_rfl) rfl rfl trivial (fun hHeld=> ?_);refine with_tabW law11_WantTop.tab16 law11_WantTop.bits16 (fun HT_ HW_=> ?_)
        generalize w27.drew=w28 at HO_3 HO_4 HB hHeld ⊢
        refine pu_ (i:=0) (N:=some 52) (bt_ 20 1) HT_ ?_
        refine pu_ (i:=1) (N:=some 53) (bt_ 20 3) HT_ ?_
        refine pu_ (i:=2) (N:=some 54) (bt_ 20 7) HT_ ?_
        refine pu_ (i:=3) (N:=some 55) (bt_ 20 15) HT_ ?_
        refine pu_ (i:=4) (N:=some 56) (bt_ 20 31) HT_ ?_
        refine pu_ (i:=5) (N:=some 57) (bt_ 20 63) HT_ ?_
        refine pn_ (i:=6) (N:=some 58) (bt_ 20 127) HT_ ?_
        refine pn_ (i:=7) (N:=some 59) (bt_ 20 255) HT_ ?_
        refine pn_ (i:=8) (N:=some 60) (bt_ 20 511) HT_ ?_
        refine pn_ (i:=9) (N:=some 61) (bt_ 20 1023) HT_ ?_
        refine pn_ (i:=10) (N:=some 62) (bt_ 20 2047) HT_ ?_
        refine pn_ (i:=11) (N:=some 63) (bt_ 20 4095) HT_ ?_
        refine pn_ (i:=12) (N:=some 64) (bt_ 20 8191) HT_ ?_
        refine pn_ (i:=13) (N:=some 65) (bt_ 20 16383) HT_ ?_
        refine pn_ (i:=14) (N:=some 66) (bt_ 20 32767) HT_ ?_
        refine pn_ (i:=15) (N:=some 67) (bt_ 20 65535) HT_ ?_
        refine pn_ (i:=16) (N:=some 68) (bt_ 20 131071) HT_ ?_
        refine pu_ (i:=17) (N:=some 69) (bt_ 20 262143) HT_ ?_
        refine pu_ (i:=18) (N:=some 70) (bt_ 20 524287) HT_ ?_
        refine pu_ (i:=19) (N:=some 7) (bt_ 20 1048575) HT_ ?_
        refine done_ (done_of HT_.out (by kernel_rfl)) ?_
        try go_wp2
        go_roundg k2
        case measure=>have:=HK1.out;have:=HK2.out;omega
        case rel=>exact ⟨(wrap64 (x6_2+1)),(false),(wrap64 (x8_2+1)),(by first|rfl|(simp;done)|(simp [*];done)),(by first|rfl|(simp;done)|(simp [*];done)),(by first|rfl|(simp;done)|(simp [*];done)),H',⟨by have:=HK1.out;have:=HK2.out;omega⟩,⟨by (with_reducible repeat (first|apply Kd.R_alloc|apply Kd.R_drewN|apply Kd.R_drew));exact HO_3.out⟩,⟨by (with_reducible repeat (first|apply Kd.R_alloc|apply Kd.R_drewN|apply Kd.R_drew));exact HO_4.out⟩,⟨zl0_ HB⟩⟩
       rw [if_pos c23] at H
       have c23b0:decide (x8_2<x5_1)=true:=decide_eq_true c23
       clear c23
       by_cases c24:x8_2<(t5.length:Int)
       rotate_left
       ·rw [if_neg c24] at H
        exact absurd H (by simp)
       rw [if_pos c24] at H
       have c24b0:decide (x8_2<(t5.length:Int))=true:=decide_eq_true c24
       clear c24
       have H':=Aside0.mk H
       clear H
       try go_wp2
       replace HO_3:=am_ (Kd.R_drew HO_3.out)
       replace HO_4:=am_ (Kd.R_drew HO_4.out)
       replace HB:=am_ (below_drew1 HB.out)
       have p10:0≤(x8_2:Int):=of_decide_eq_true zq_
       have q10:x8_2<(t2.length:Int):=of_decide_eq_true zq_
       obtain ⟨ad10,e10,hx10_0,hx10_1,hx10_2,hx10_3,hx10_4⟩:=at_T39 (Kd.R_reads' HO_3.out).2.2 x8_2 p10 q10
       cases e10
       replace p10:=eq_true p10
       replace q10:=eq_true q10
       have p11:0≤(x5_1:Int):=of_decide_eq_true zq_
       have q11:x5_1<(t5.length:Int):=of_decide_eq_true zq_
       obtain ⟨ad11,e11,hx11_0,hx11_1,hx11_2,hx11_3,hx11_4⟩:=at_T39 (Kd.R_reads' HO_4.out).2.2 x5_1 p11 q11
       obtain rfl:ad9=ad11:=(by injection e11)
       replace p11:=eq_true p11
       replace q11:=eq_true q11
       refine start_ (n:=9) (S:=fun w'=>w'.cell? (ad10.add ((x8_2).toNat*5))=some (.string ((rd_T39 t2 x8_2).f0))∧w'.cell? ⟨(ad10.add ((x8_2).toNat*5)).block,(ad10.add ((x8_2).toNat*5)).off+1,none⟩=some (.string ((rd_T39 t2 x8_2).f1))∧w'.cell? ⟨(ad10.add ((x8_2).toNat*5)).block,(ad10.add ((x8_2).toNat*5)).off+2,none⟩=some (.int .i64 ((rd_T39 t2 x8_2).f2.f0))∧w'.cell? ⟨(ad10.add ((x8_2).toNat*5)).block,(ad10.add ((x8_2).toNat*5)).off+3,none⟩=some (.int .i64 ((rd_T39 t2 x8_2).f2.f1))∧w'.cell? ⟨(ad10.add ((x8_2).toNat*5)).block,(ad10.add ((x8_2).toNat*5)).off+4,none⟩=some (.int .i64 ((rd_T39 t2 x8_2).f2.f2))∧w'.cell? (ad9.add ((x5_1).toNat*5))=some (.string ((rd_T39 t5 x5_1).f0))∧w'.cell? ⟨(ad9.add ((x5_1).toNat*5)).block,(ad9.add ((x5_1).toNat*5)).off+1,none⟩=some (.string ((rd_T39 t5 x5_1).f1))∧w'.cell? ⟨(ad9.add ((x5_1).toNat*5)).block,(ad9.add ((x5_1).toNat*5)).off+2,none⟩=some (.int .i64 ((rd_T39 t5 x5_1).f2.f0))∧w'.cell? ⟨(ad9.add ((x5_1).toNat*5)).block,(ad9.add ((x5_1).toNat*5)).off+3,none⟩=some (.int .i64 ((rd_T39 t5 x5_1).f2.f1))∧w'.cell? ⟨(ad9.add ((x5_1).toNat*5)).block,(ad9.add ((x5_1).toNat*5)).off+4,none⟩=some (.int .i64 ((rd_T39 t5 x5_1).f2.f2))) (ds:=[]) (bt_ 9 0) (by kernel_rfl) rfl rfl ⟨hx10_0,hx10_1,hx10_2,hx10_3,hx10_4,hx11_0,hx11_1,hx11_2,hx11_3,hx11_4⟩ (fun hHeld=> ?_);refine with_tabW law11_WantTop.tab14 law11_WantTop.bits14 (fun HT_ HW_=> ?_)
       generalize wr.drew=w25 at HO_3 HO_4 HB hx10_0 hx10_1 hx10_2 hx10_3 hx10_4 hx11_0 hx11_1 hx11_2 hx11_3 hx11_4 hHeld ⊢
       refine pu_ (i:=0) (N:=some 41) (bt_ 9 1) HT_ ?_
       refine pu_ (i:=1) (N:=some 42) (bt_ 9 3) HT_ ?_
       refine pu_ (i:=2) (N:=some 43) (bt_ 9 7) HT_ ?_
       refine pu_ (i:=4) (N:=some 45) (bt_ 9 23) HT_ ?_
       refine pu_ (i:=5) (N:=some 46) (bt_ 9 55) HT_ ?_
       refine pu_ (i:=6) (N:=some 47) (bt_ 9 119) HT_ ?_
       refine tk_ (i:=3) (N:=some 44) (bt_ 9 127) HT_ HW_ hHeld ?_
       refine tk_ (i:=7) (N:=some 48) (bt_ 9 255) HT_ HW_ hHeld ?_
       refine pu_ (i:=8) (N:=some 49) (bt_ 9 511) HT_ ?_
       refine done_ (done_of HT_.out (by kernel_rfl)) ?_
       try go_wp2
       replace HO_3:=am_ (Kd.R_drew HO_3.out)
       replace HO_4:=am_ (Kd.R_drew HO_4.out)
       replace HB:=am_ (below_drew1 HB.out)
       have p12:0≤(x8_2:Int):=of_decide_eq_true zq_
       have q12:x8_2<(t5.length:Int):=of_decide_eq_true zq_
       obtain ⟨ad12,e12,hx12_0,hx12_1,hx12_2,hx12_3,hx12_4⟩:=at_T39 (Kd.R_reads' HO_4.out).2.2 x8_2 p12 q12
       obtain rfl:ad9=ad12:=(by injection e12)
       replace p12:=eq_true p12
       replace q12:=eq_true q12
       have p13:0≤(x5_1:Int):=of_decide_eq_true zq_
       have q13:x5_1<(t5.length:Int):=of_decide_eq_true zq_
       obtain ⟨ad13,e13,hx13_0,hx13_1,hx13_2,hx13_3,hx13_4⟩:=at_T39 (Kd.R_reads' HO_4.out).2.2 x5_1 p13 q13
       obtain rfl:ad9=ad13:=(by injection e13)
       replace p13:=eq_true p13
       replace q13:=eq_true q13
       refine start_ (n:=20) (S:=fun w'=>w'.cell? (ad9.add ((x8_2).toNat*5))=some (.string ((rd_T39 t5 x8_2).f0))∧w'.cell? ⟨(ad9.add ((x8_2).toNat*5)).block,(ad9.add ((x8_2).toNat*5)).off+1,none⟩=some (.string ((rd_T39 t5 x8_2).f1))∧w'.cell? ⟨(ad9.add ((x8_2).toNat*5)).block,(ad9.add ((x8_2).toNat*5)).off+2,none⟩=some (.int .i64 ((rd_T39 t5 x8_2).f2.f0))∧w'.cell? ⟨(ad9.add ((x8_2).toNat*5)).block,(ad9.add ((x8_2).toNat*5)).off+3,none⟩=some (.int .i64 ((rd_T39 t5 x8_2).f2.f1))∧w'.cell? ⟨(ad9.add ((x8_2).toNat*5)).block,(ad9.add ((x8_2).toNat*5)).off+4,none⟩=some (.int .i64 ((rd_T39 t5 x8_2).f2.f2))∧w'.cell? (ad9.add ((x5_1).toNat*5))=some (.string ((rd_T39 t5 x5_1).f0))∧w'.cell? ⟨(ad9.add ((x5_1).toNat*5)).block,(ad9.add ((x5_1).toNat*5)).off+1,none⟩=some (.string ((rd_T39 t5 x5_1).f1))∧w'.cell? ⟨(ad9.add ((x5_1).toNat*5)).block,(ad9.add ((x5_1).toNat*5)).off+2,none⟩=some (.int .i64 ((rd_T39 t5 x5_1).f2.f0))∧w'.cell? ⟨(ad9.add ((x5_1).toNat*5)).block,(ad9.add ((x5_1).toNat*5)).off+3,none⟩=some (.int .i64 ((rd_T39 t5 x5_1).f2.f1))∧w'.cell? ⟨(ad9.add ((x5_1).toNat*5)).block,(ad9.add ((x5_1).toNat*5)).off+4,none⟩=some (.int .i64 ((rd_T39 t5 x5_1).f2.f2))) (ds:=[]) (bt_ 20 0) (by kernel_rfl) rfl rfl ⟨hx12_0,hx12_1,hx12_2,hx12_3,hx12_4,hx13_0,hx13_1,hx13_2,hx13_3,hx13_4⟩ (fun hHeld=> ?_);refine with_tabW law11_WantTop.tab16 law11_WantTop.bits16 (fun HT_ HW_=> ?_)
       generalize w25.drew=w26 at HO_3 HO_4 HB hx12_0 hx12_1 hx12_2 hx12_3 hx12_4 hx13_0 hx13_1 hx13_2 hx13_3 hx13_4 hHeld ⊢
       refine pu_ (i:=0) (N:=some 52) (bt_ 20 1) HT_ ?_
       refine pu_ (i:=1) (N:=some 53) (bt_ 20 3) HT_ ?_
       refine pu_ (i:=2) (N:=some 54) (bt_ 20 7) HT_ ?_
       refine pu_ (i:=3) (N:=some 55) (bt_ 20 15) HT_ ?_
       refine pu_ (i:=4) (N:=some 56) (bt_ 20 31) HT_ ?_
       refine pu_ (i:=5) (N:=some 57) (bt_ 20 63) HT_ ?_
       refine pu_ (i:=6) (N:=some 58) (bt_ 20 127) HT_ ?_
       refine pu_ (i:=7) (N:=some 59) (bt_ 20 255) HT_ ?_
       refine pu_ (i:=8) (N:=some 60) (bt_ 20 511) HT_ ?_
       refine pu_ (i:=9) (N:=some 61) (bt_ 20 1023) HT_ ?_
       refine pu_ (i:=11) (N:=some 63) (bt_ 20 3071) HT_ ?_
       refine pu_ (i:=12) (N:=some 64) (bt_ 20 7167) HT_ ?_
       refine pu_ (i:=13) (N:=some 65) (bt_ 20 15359) HT_ ?_
       refine pu_ (i:=14) (N:=some 66) (bt_ 20 31743) HT_ ?_
       refine tk_ (i:=10) (N:=some 62) (bt_ 20 32767) HT_ HW_ hHeld ?_
       refine tk_ (i:=15) (N:=some 67) (bt_ 20 65535) HT_ HW_ hHeld ?_
       refine pu_ (i:=16) (N:=some 68) (bt_ 20 131071) HT_ ?_
       refine pu_ (i:=17) (N:=some 69) (bt_ 20 262143) HT_ ?_
       refine pu_ (i:=18) (N:=some 70) (bt_ 20 524287) HT_ ?_
       refine pu_ (i:=19) (N:=some 7) (bt_ 20 1048575) HT_ ?_
       refine done_ (done_of HT_.out (by kernel_rfl)) ?_
       try go_wp2
       go_roundg k2
       case measure=>have:=HK1.out;have:=HK2.out;omega
       case rel=>exact ⟨(wrap64 (x6_2+1)),((((rd_T39 t5 x8_2).f0).toList==((rd_T39 t5 x5_1).f1).toList)),(wrap64 (x8_2+1)),(by first|rfl|(simp;done)|(simp [*];done)),(by first|rfl|(simp;done)|(simp [*];done)),(by first|rfl|(simp;done)|(simp [*];done)),H',⟨by have:=HK1.out;have:=HK2.out;omega⟩,⟨by (with_reducible repeat (first|apply Kd.R_alloc|apply Kd.R_drewN|apply Kd.R_drew));exact HO_3.out⟩,⟨by (with_reducible repeat (first|apply Kd.R_alloc|apply Kd.R_drewN|apply Kd.R_drew));exact HO_4.out⟩,⟨zl0_ HB⟩⟩
      rw [if_neg c19] at H
      have c19b0:((((rd_T39 t2 x8_2).f0).toList)==(((rd_T39 t5 x5_1).f0).toList) && ((((rd_T39 t2 x8_2).f1).toList)==(((rd_T39 t5 x5_1).f1).toList) && ((((rd_T39 t2 x8_2).f2.f0)==((rd_T39 t5 x5_1).f2.f0) && (((rd_T39 t2 x8_2).f2.f1)==((rd_T39 t5 x5_1).f2.f1) && (((rd_T39 t2 x8_2).f2.f2)==((rd_T39 t5 x5_1).f2.f2)))))))=false:=by simpa using c19
      (try (have c19b1:decide ((((rd_T39 t2 x8_2).f0).toList)=(((rd_T39 t5 x5_1).f0).toList) && ((((rd_T39 t2 x8_2).f1).toList)==(((rd_T39 t5 x5_1).f1).toList) && ((((rd_T39 t2 x8_2).f2.f0)==((rd_T39 t5 x5_1).f2.f0) && (((rd_T39 t2 x8_2).f2.f1)==((rd_T39 t5 x5_1).f2.f1) && (((rd_T39 t2 x8_2).f2.f2)==((rd_T39 t5 x5_1).f2.f2)))))))=false:=by simpa using c19))
      (try (have c19b2:((((rd_T39 t2 x8_2).f0).toList)==(((rd_T39 t5 x5_1).f0).toList) && ((((rd_T39 t2 x8_2).f1).toList)==(((rd_T39 t5 x5_1).f1).toList) && ((((rd_T39 t2 x8_2).f2.f0)==((rd_T39 t5 x5_1).f2.f0) && (((rd_T39 t2 x8_2).f2.f1)==((rd_T39 t5 x5_1).f2.f1) && (((rd_T39 t2 x8_2).f2.f2)==((rd_T39 t5 x5_1).f2.f2)))))))=false:=by simpa using c19))
      (try (have c19b3: ¬((((rd_T39 t2 x8_2).f0).toList)=(((rd_T39 t5 x5_1).f0).toList) && ((((rd_T39 t2 x8_2).f1).toList)==(((rd_T39 t5 x5_1).f1).toList) && ((((rd_T39 t2 x8_2).f2.f0)==((rd_T39 t5 x5_1).f2.f0) && (((rd_T39 t2 x8_2).f2.f1)==((rd_T39 t5 x5_1).f2.f1) && (((rd_T39 t2 x8_2).f2.f2)==((rd_T39 t5 x5_1).f2.f2))))))):=by simpa using c19))
      clear c19
      by_cases c29:x7_2=true
      ·subst c29
       have H1:(law11_WantTop.l1 k2 t2 t5 x5_1 x6_2 true (wrap64 (x8_2+1)))=some r:=by rw [if_pos rfl] at H;exact H
       clear H
       have H:=H1
       clear H1
       have H':=Aside0.mk H
       clear H
       try go_wp2
       replace HO_3:=am_ (Kd.R_drew HO_3.out)
       replace HO_4:=am_ (Kd.R_drew HO_4.out)
       replace HB:=am_ (below_drew1 HB.out)
       have p10:0≤(x8_2:Int):=of_decide_eq_true zq_
       have q10:x8_2<(t2.length:Int):=of_decide_eq_true zq_
       obtain ⟨ad10,e10,hx10_0,hx10_1,hx10_2,hx10_3,hx10_4⟩:=at_T39 (Kd.R_reads' HO_3.out).2.2 x8_2 p10 q10
       cases e10
       replace p10:=eq_true p10
       replace q10:=eq_true q10
       have p11:0≤(x5_1:Int):=of_decide_eq_true zq_
       have q11:x5_1<(t5.length:Int):=of_decide_eq_true zq_
       obtain ⟨ad11,e11,hx11_0,hx11_1,hx11_2,hx11_3,hx11_4⟩:=at_T39 (Kd.R_reads' HO_4.out).2.2 x5_1 p11 q11
       obtain rfl:ad9=ad11:=(by injection e11)
       replace p11:=eq_true p11
       replace q11:=eq_true q11
       refine start_ (n:=9) (S:=fun w'=>w'.cell? (ad10.add ((x8_2).toNat*5))=some (.string ((rd_T39 t2 x8_2).f0))∧w'.cell? ⟨(ad10.add ((x8_2).toNat*5)).block,(ad10.add ((x8_2).toNat*5)).off+1,none⟩=some (.string ((rd_T39 t2 x8_2).f1))∧w'.cell? ⟨(ad10.add ((x8_2).toNat*5)).block,(ad10.add ((x8_2).toNat*5)).off+2,none⟩=some (.int .i64 ((rd_T39 t2 x8_2).f2.f0))∧w'.cell? ⟨(ad10.add ((x8_2).toNat*5)).block,(ad10.add ((x8_2).toNat*5)).off+3,none⟩=some (.int .i64 ((rd_T39 t2 x8_2).f2.f1))∧w'.cell? ⟨(ad10.add ((x8_2).toNat*5)).block,(ad10.add ((x8_2).toNat*5)).off+4,none⟩=some (.int .i64 ((rd_T39 t2 x8_2).f2.f2))∧w'.cell? (ad9.add ((x5_1).toNat*5))=some (.string ((rd_T39 t5 x5_1).f0))∧w'.cell? ⟨(ad9.add ((x5_1).toNat*5)).block,(ad9.add ((x5_1).toNat*5)).off+1,none⟩=some (.string ((rd_T39 t5 x5_1).f1))∧w'.cell? ⟨(ad9.add ((x5_1).toNat*5)).block,(ad9.add ((x5_1).toNat*5)).off+2,none⟩=some (.int .i64 ((rd_T39 t5 x5_1).f2.f0))∧w'.cell? ⟨(ad9.add ((x5_1).toNat*5)).block,(ad9.add ((x5_1).toNat*5)).off+3,none⟩=some (.int .i64 ((rd_T39 t5 x5_1).f2.f1))∧w'.cell? ⟨(ad9.add ((x5_1).toNat*5)).block,(ad9.add ((x5_1).toNat*5)).off+4,none⟩=some (.int .i64 ((rd_T39 t5 x5_1).f2.f2))) (ds:=[]) (bt_ 9 0) (by kernel_rfl) rfl rfl ⟨hx10_0,hx10_1,hx10_2,hx10_3,hx10_4,hx11_0,hx11_1,hx11_2,hx11_3,hx11_4⟩ (fun hHeld=> ?_);refine with_tabW law11_WantTop.tab14 law11_WantTop.bits14 (fun HT_ HW_=> ?_)
       generalize wr.drew=w30 at HO_3 HO_4 HB hx10_0 hx10_1 hx10_2 hx10_3 hx10_4 hx11_0 hx11_1 hx11_2 hx11_3 hx11_4 hHeld ⊢
       refine pu_ (i:=0) (N:=some 41) (bt_ 9 1) HT_ ?_
       refine pu_ (i:=1) (N:=some 42) (bt_ 9 3) HT_ ?_
       refine pu_ (i:=2) (N:=some 43) (bt_ 9 7) HT_ ?_
       refine pu_ (i:=4) (N:=some 45) (bt_ 9 23) HT_ ?_
       refine pu_ (i:=5) (N:=some 46) (bt_ 9 55) HT_ ?_
       refine pu_ (i:=6) (N:=some 47) (bt_ 9 119) HT_ ?_
       refine tk_ (i:=3) (N:=some 44) (bt_ 9 127) HT_ HW_ hHeld ?_
       refine tk_ (i:=7) (N:=some 48) (bt_ 9 255) HT_ HW_ hHeld ?_
       refine pu_ (i:=8) (N:=some 49) (bt_ 9 511) HT_ ?_
       refine done_ (done_of HT_.out (by kernel_rfl)) ?_
       try go_wp2
       replace HO_3:=am_ (Kd.R_drew HO_3.out)
       replace HO_4:=am_ (Kd.R_drew HO_4.out)
       replace HB:=am_ (below_drew1 HB.out)
       refine start_ (n:=20) (S:=fun w'=>True) (ds:=[]) (bt_ 20 0) (by kernel_rfl) rfl rfl trivial (fun hHeld=> ?_);refine with_tabW law11_WantTop.tab16 law11_WantTop.bits16 (fun HT_ HW_=> ?_)
       generalize w30.drew=w31 at HO_3 HO_4 HB hHeld ⊢
       refine pu_ (i:=0) (N:=some 52) (bt_ 20 1) HT_ ?_
       refine pu_ (i:=1) (N:=some 53) (bt_ 20 3) HT_ ?_
       refine pn_ (i:=2) (N:=some 54) (bt_ 20 7) HT_ ?_
       refine pn_ (i:=3) (N:=some 55) (bt_ 20 15) HT_ ?_
       refine pn_ (i:=4) (N:=some 56) (bt_ 20 31) HT_ ?_
       refine pn_ (i:=5) (N:=some 57) (bt_ 20 63) HT_ ?_
       refine pn_ (i:=6) (N:=some 58) (bt_ 20 127) HT_ ?_
       refine pn_ (i:=7) (N:=some 59) (bt_ 20 255) HT_ ?_
       refine pn_ (i:=8) (N:=some 60) (bt_ 20 511) HT_ ?_
       refine pn_ (i:=9) (N:=some 61) (bt_ 20 1023) HT_ ?_
       refine pn_ (i:=10) (N:=some 62) (bt_ 20 2047) HT_ ?_
       refine pn_ (i:=11) (N:=some 63) (bt_ 20 4095) HT_ ?_
       refine pn_ (i:=12) (N:=some 64) (bt_ 20 8191) HT_ ?_
       refine pn_ (i:=13) (N:=some 65) (bt_ 20 16383) HT_ ?_
       refine pn_ (i:=14) (N:=some 66) (bt_ 20 32767) HT_ ?_
       refine pn_ (i:=15) (N:=some 67) (bt_ 20 65535) HT_ ?_
       refine pn_ (i:=16) (N:=some 68) (bt_ 20 131071) HT_ ?_
       refine pn_ (i:=17) (N:=some 69) (bt_ 20 262143) HT_ ?_
       refine pu_ (i:=18) (N:=some 70) (bt_ 20 524287) HT_ ?_
       refine pu_ (i:=19) (N:=some 7) (bt_ 20 1048575) HT_ ?_
       refine done_ (done_of HT_.out (by kernel_rfl)) ?_
       try go_wp2
       go_roundg k2
       case measure=>have:=HK1.out;have:=HK2.out;omega
       case rel=>exact ⟨(x6_2),(true),(wrap64 (x8_2+1)),(by first|rfl|(simp;done)|(simp [*];done)),(by first|rfl|(simp;done)|(simp [*];done)),(by first|rfl|(simp;done)|(simp [*];done)),H',⟨by have:=HK1.out;have:=HK2.out;omega⟩,⟨by (with_reducible repeat (first|apply Kd.R_alloc|apply Kd.R_drewN|apply Kd.R_drew));exact HO_3.out⟩,⟨by (with_reducible repeat (first|apply Kd.R_alloc|apply Kd.R_drewN|apply Kd.R_drew));exact HO_4.out⟩,⟨zl0_ HB⟩⟩
      replace c29:=Bool.eq_false_iff.mpr c29
      subst c29
      have H1:(if x8_2<x5_1 then (if x8_2<(t5.length:Int) then (law11_WantTop.l1 k2 t2 t5 x5_1 x6_2 (((rd_T39 t5 x8_2).f0).toList==((rd_T39 t5 x5_1).f1).toList) (wrap64 (x8_2+1))) else (none)) else (law11_WantTop.l1 k2 t2 t5 x5_1 x6_2 false (wrap64 (x8_2+1))))=some r:=by rw [if_neg (show¬(false=true) by decide)] at H;exact H
      clear H
      have H:=H1
      clear H1
      by_cases c32:x8_2<x5_1
      rotate_left
      ·rw [if_neg c32] at H
       have c32b0:decide (x8_2<x5_1)=false:=decide_eq_false c32
       clear c32
       have H':=Aside0.mk H
       clear H
       try go_wp2
       replace HO_3:=am_ (Kd.R_drew HO_3.out)
       replace HO_4:=am_ (Kd.R_drew HO_4.out)
       replace HB:=am_ (below_drew1 HB.out)
       have p10:0≤(x8_2:Int):=of_decide_eq_true zq_
       have q10:x8_2<(t2.length:Int):=of_decide_eq_true zq_
       obtain ⟨ad10,e10,hx10_0,hx10_1,hx10_2,hx10_3,hx10_4⟩:=at_T39 (Kd.R_reads' HO_3.out).2.2 x8_2 p10 q10
       cases e10
       replace p10:=eq_true p10
       replace q10:=eq_true q10
       have p11:0≤(x5_1:Int):=of_decide_eq_true zq_
       have q11:x5_1<(t5.length:Int):=of_decide_eq_true zq_
       obtain ⟨ad11,e11,hx11_0,hx11_1,hx11_2,hx11_3,hx11_4⟩:=at_T39 (Kd.R_reads' HO_4.out).2.2 x5_1 p11 q11
       obtain rfl:ad9=ad11:=(by injection e11)
       replace p11:=eq_true p11
       replace q11:=eq_true q11
       refine start_ (n:=9) (S:=fun w'=>w'.cell? (ad10.add ((x8_2).toNat*5))=some (.string ((rd_T39 t2 x8_2).f0))∧w'.cell? ⟨(ad10.add ((x8_2).toNat*5)).block,(ad10.add ((x8_2).toNat*5)).off+1,none⟩=some (.string ((rd_T39 t2 x8_2).f1))∧w'.cell? ⟨(ad10.add ((x8_2).toNat*5)).block,(ad10.add ((x8_2).toNat*5)).off+2,none⟩=some (.int .i64 ((rd_T39 t2 x8_2).f2.f0))∧w'.cell? ⟨(ad10.add ((x8_2).toNat*5)).block,(ad10.add ((x8_2).toNat*5)).off+3,none⟩=some (.int .i64 ((rd_T39 t2 x8_2).f2.f1))∧w'.cell? ⟨(ad10.add ((x8_2).toNat*5)).block,(ad10.add ((x8_2).toNat*5)).off+4,none⟩=some (.int .i64 ((rd_T39 t2 x8_2).f2.f2))∧w'.cell? (ad9.add ((x5_1).toNat*5))=some (.string ((rd_T39 t5 x5_1).f0))∧w'.cell? ⟨(ad9.add ((x5_1).toNat*5)).block,(ad9.add ((x5_1).toNat*5)).off+1,none⟩=some (.string ((rd_T39 t5 x5_1).f1))∧w'.cell? ⟨(ad9.add ((x5_1).toNat*5)).block,(ad9.add ((x5_1).toNat*5)).off+2,none⟩=some (.int .i64 ((rd_T39 t5 x5_1).f2.f0))∧w'.cell? ⟨(ad9.add ((x5_1).toNat*5)).block,(ad9.add ((x5_1).toNat*5)).off+3,none⟩=some (.int .i64 ((rd_T39 t5 x5_1).f2.f1))∧w'.cell? ⟨(ad9.add ((x5_1).toNat*5)).block,(ad9.add ((x5_1).toNat*5)).off+4,none⟩=some (.int .i64 ((rd_T39 t5 x5_1).f2.f2))) (ds:=[]) (bt_ 9 0) (by kernel_rfl) rfl rfl ⟨hx10_0,hx10_1,hx10_2,hx10_3,hx10_4,hx11_0,hx11_1,hx11_2,hx11_3,hx11_4⟩ (fun hHeld=> ?_);refine with_tabW law11_WantTop.tab14 law11_WantTop.bits14 (fun HT_ HW_=> ?_)
       generalize wr.drew=w36 at HO_3 HO_4 HB hx10_0 hx10_1 hx10_2 hx10_3 hx10_4 hx11_0 hx11_1 hx11_2 hx11_3 hx11_4 hHeld ⊢
       refine pu_ (i:=0) (N:=some 41) (bt_ 9 1) HT_ ?_
       refine pu_ (i:=1) (N:=some 42) (bt_ 9 3) HT_ ?_
       refine pu_ (i:=2) (N:=some 43) (bt_ 9 7) HT_ ?_
       refine pu_ (i:=4) (N:=some 45) (bt_ 9 23) HT_ ?_
       refine pu_ (i:=5) (N:=some 46) (bt_ 9 55) HT_ ?_
       refine pu_ (i:=6) (N:=some 47) (bt_ 9 119) HT_ ?_
       refine tk_ (i:=3) (N:=some 44) (bt_ 9 127) HT_ HW_ hHeld ?_
       refine tk_ (i:=7) (N:=some 48) (bt_ 9 255) HT_ HW_ hHeld ?_
       refine pu_ (i:=8) (N:=some 49) (bt_ 9 511) HT_ ?_
       refine done_ (done_of HT_.out (by kernel_rfl)) ?_
       try go_wp2
       replace HO_3:=am_ (Kd.R_drew HO_3.out)
       replace HO_4:=am_ (Kd.R_drew HO_4.out)
       replace HB:=am_ (below_drew1 HB.out)
       refine start_ (n:=20) (S:=fun w'=>True) (ds:=[]) (bt_ 20 0) (by kernel_rfl) rfl rfl trivial (fun hHeld=> ?_);refine with_tabW law11_WantTop.tab16 law11_WantTop.bits16 (fun HT_ HW_=> ?_)
       generalize w36.drew=w37 at HO_3 HO_4 HB hHeld ⊢
       refine pu_ (i:=0) (N:=some 52) (bt_ 20 1) HT_ ?_
       refine pu_ (i:=1) (N:=some 53) (bt_ 20 3) HT_ ?_
       refine pu_ (i:=2) (N:=some 54) (bt_ 20 7) HT_ ?_
       refine pu_ (i:=3) (N:=some 55) (bt_ 20 15) HT_ ?_
       refine pu_ (i:=4) (N:=some 56) (bt_ 20 31) HT_ ?_
       refine pu_ (i:=5) (N:=some 57) (bt_ 20 63) HT_ ?_
       refine pn_ (i:=6) (N:=some 58) (bt_ 20 127) HT_ ?_
       refine pn_ (i:=7) (N:=some 59) (bt_ 20 255) HT_ ?_
       refine pn_ (i:=8) (N:=some 60) (bt_ 20 511) HT_ ?_
       refine pn_ (i:=9) (N:=some 61) (bt_ 20 1023) HT_ ?_
       refine pn_ (i:=10) (N:=some 62) (bt_ 20 2047) HT_ ?_
       refine pn_ (i:=11) (N:=some 63) (bt_ 20 4095) HT_ ?_
       refine pn_ (i:=12) (N:=some 64) (bt_ 20 8191) HT_ ?_
       refine pn_ (i:=13) (N:=some 65) (bt_ 20 16383) HT_ ?_
       refine pn_ (i:=14) (N:=some 66) (bt_ 20 32767) HT_ ?_
       refine pn_ (i:=15) (N:=some 67) (bt_ 20 65535) HT_ ?_
       refine pn_ (i:=16) (N:=some 68) (bt_ 20 131071) HT_ ?_
       refine pu_ (i:=17) (N:=some 69) (bt_ 20 262143) HT_ ?_
       refine pu_ (i:=18) (N:=some 70) (bt_ 20 524287) HT_ ?_
       refine pu_ (i:=19) (N:=some 7) (bt_ 20 1048575) HT_ ?_
       refine done_ (done_of HT_.out (by kernel_rfl)) ?_
       try go_wp2
       go_roundg k2
       case measure=>have:=HK1.out;have:=HK2.out;omega
       case rel=>exact ⟨(x6_2),(false),(wrap64 (x8_2+1)),(by first|rfl|(simp;done)|(simp [*];done)),(by first|rfl|(simp;done)|(simp [*];done)),(by first|rfl|(simp;done)|(simp [*];done)),H',⟨by have:=HK1.out;have:=HK2.out;omega⟩,⟨by (with_reducible repeat (first|apply Kd.R_alloc|apply Kd.R_drewN|apply Kd.R_drew));exact HO_3.out⟩,⟨by (with_reducible repeat (first|apply Kd.R_alloc|apply Kd.R_drewN|apply Kd.R_drew));exact HO_4.out⟩,⟨zl0_ HB⟩⟩
      rw [if_pos c32] at H
      have c32b0:decide (x8_2<x5_1)=true:=decide_eq_true c32
      clear c32
      by_cases c33:x8_2<(t5.length:Int)
      rotate_left
      ·rw [if_neg c33] at H
       exact absurd H (by simp)
      rw [if_pos c33] at H
      have c33b0:decide (x8_2<(t5.length:Int))=true:=decide_eq_true c33
      clear c33
      have H':=Aside0.mk H
      clear H
      try go_wp2
      replace HO_3:=am_ (Kd.R_drew HO_3.out)
      replace HO_4:=am_ (Kd.R_drew HO_4.out)
      replace HB:=am_ (below_drew1 HB.out)
      have p10:0≤(x8_2:Int):=of_decide_eq_true zq_
      have q10:x8_2<(t2.length:Int):=of_decide_eq_true zq_
      obtain ⟨ad10,e10,hx10_0,hx10_1,hx10_2,hx10_3,hx10_4⟩:=at_T39 (Kd.R_reads' HO_3.out).2.2 x8_2 p10 q10
      cases e10
      replace p10:=eq_true p10
      replace q10:=eq_true q10
      have p11:0≤(x5_1:Int):=of_decide_eq_true zq_
      have q11:x5_1<(t5.length:Int):=of_decide_eq_true zq_
      obtain ⟨ad11,e11,hx11_0,hx11_1,hx11_2,hx11_3,hx11_4⟩:=at_T39 (Kd.R_reads' HO_4.out).2.2 x5_1 p11 q11
      obtain rfl:ad9=ad11:=(by injection e11)
      replace p11:=eq_true p11
      replace q11:=eq_true q11
      refine start_ (n:=9) (S:=fun w'=>w'.cell? (ad10.add ((x8_2).toNat*5))=some (.string ((rd_T39 t2 x8_2).f0))∧w'.cell? ⟨(ad10.add ((x8_2).toNat*5)).block,(ad10.add ((x8_2).toNat*5)).off+1,none⟩=some (.string ((rd_T39 t2 x8_2).f1))∧w'.cell? ⟨(ad10.add ((x8_2).toNat*5)).block,(ad10.add ((x8_2).toNat*5)).off+2,none⟩=some (.int .i64 ((rd_T39 t2 x8_2).f2.f0))∧w'.cell? ⟨(ad10.add ((x8_2).toNat*5)).block,(ad10.add ((x8_2).toNat*5)).off+3,none⟩=some (.int .i64 ((rd_T39 t2 x8_2).f2.f1))∧w'.cell? ⟨(ad10.add ((x8_2).toNat*5)).block,(ad10.add ((x8_2).toNat*5)).off+4,none⟩=some (.int .i64 ((rd_T39 t2 x8_2).f2.f2))∧w'.cell? (ad9.add ((x5_1).toNat*5))=some (.string ((rd_T39 t5 x5_1).f0))∧w'.cell? ⟨(ad9.add ((x5_1).toNat*5)).block,(ad9.add ((x5_1).toNat*5)).off+1,none⟩=some (.string ((rd_T39 t5 x5_1).f1))∧w'.cell? ⟨(ad9.add ((x5_1).toNat*5)).block,(ad9.add ((x5_1).toNat*5)).off+2,none⟩=some (.int .i64 ((rd_T39 t5 x5_1).f2.f0))∧w'.cell? ⟨(ad9.add ((x5_1).toNat*5)).block,(ad9.add ((x5_1).toNat*5)).off+3,none⟩=some (.int .i64 ((rd_T39 t5 x5_1).f2.f1))∧w'.cell? ⟨(ad9.add ((x5_1).toNat*5)).block,(ad9.add ((x5_1).toNat*5)).off+4,none⟩=some (.int .i64 ((rd_T39 t5 x5_1).f2.f2))) (ds:=[]) (bt_ 9 0) (by kernel_rfl) rfl rfl ⟨hx10_0,hx10_1,hx10_2,hx10_3,hx10_4,hx11_0,hx11_1,hx11_2,hx11_3,hx11_4⟩ (fun hHeld=> ?_);refine with_tabW law11_WantTop.tab14 law11_WantTop.bits14 (fun HT_ HW_=> ?_)
      generalize wr.drew=w34 at HO_3 HO_4 HB hx10_0 hx10_1 hx10_2 hx10_3 hx10_4 hx11_0 hx11_1 hx11_2 hx11_3 hx11_4 hHeld ⊢
      refine pu_ (i:=0) (N:=some 41) (bt_ 9 1) HT_ ?_
      refine pu_ (i:=1) (N:=some 42) (bt_ 9 3) HT_ ?_
      refine pu_ (i:=2) (N:=some 43) (bt_ 9 7) HT_ ?_
      refine pu_ (i:=4) (N:=some 45) (bt_ 9 23) HT_ ?_
      refine pu_ (i:=5) (N:=some 46) (bt_ 9 55) HT_ ?_
      refine pu_ (i:=6) (N:=some 47) (bt_ 9 119) HT_ ?_
      refine tk_ (i:=3) (N:=some 44) (bt_ 9 127) HT_ HW_ hHeld ?_
      refine tk_ (i:=7) (N:=some 48) (bt_ 9 255) HT_ HW_ hHeld ?_
      refine pu_ (i:=8) (N:=some 49) (bt_ 9 511) HT_ ?_
      refine done_ (done_of HT_.out (by kernel_rfl)) ?_
      try go_wp2
      replace HO_3:=am_ (Kd.R_drew HO_3.out)
      replace HO_4:=am_ (Kd.R_drew HO_4.out)
      replace HB:=am_ (below_drew1 HB.out)
      have p14:0≤(x8_2:Int):=of_decide_eq_true zq_
      have q14:x8_2<(t5.length:Int):=of_decide_eq_true zq_
      obtain ⟨ad14,e14,hx14_0,hx14_1,hx14_2,hx14_3,hx14_4⟩:=at_T39 (Kd.R_reads' HO_4.out).2.2 x8_2 p14 q14
      obtain rfl:ad9=ad14:=(by injection e14)
      replace p14:=eq_true p14
      replace q14:=eq_true q14
      have p15:0≤(x5_1:Int):=of_decide_eq_true zq_
      have q15:x5_1<(t5.length:Int):=of_decide_eq_true zq_
      obtain ⟨ad15,e15,hx15_0,hx15_1,hx15_2,hx15_3,hx15_4⟩:=at_T39 (Kd.R_reads' HO_4.out).2.2 x5_1 p15 q15
      obtain rfl:ad9=ad15:=(by injection e15)
      replace p15:=eq_true p15
      replace q15:=eq_true q15
      refine start_ (n:=20) (S:=fun w'=>w'.cell? (ad9.add ((x8_2).toNat*5))=some (.string ((rd_T39 t5 x8_2).f0))∧w'.cell? ⟨(ad9.add ((x8_2).toNat*5)).block,(ad9.add ((x8_2).toNat*5)).off+1,none⟩=some (.string ((rd_T39 t5 x8_2).f1))∧w'.cell? ⟨(ad9.add ((x8_2).toNat*5)).block,(ad9.add ((x8_2).toNat*5)).off+2,none⟩=some (.int .i64 ((rd_T39 t5 x8_2).f2.f0))∧w'.cell? ⟨(ad9.add ((x8_2).toNat*5)).block,(ad9.add ((x8_2).toNat*5)).off+3,none⟩=some (.int .i64 ((rd_T39 t5 x8_2).f2.f1))∧w'.cell? ⟨(ad9.add ((x8_2).toNat*5)).block,(ad9.add ((x8_2).toNat*5)).off+4,none⟩=some (.int .i64 ((rd_T39 t5 x8_2).f2.f2))∧w'.cell? (ad9.add ((x5_1).toNat*5))=some (.string ((rd_T39 t5 x5_1).f0))∧w'.cell? ⟨(ad9.add ((x5_1).toNat*5)).block,(ad9.add ((x5_1).toNat*5)).off+1,none⟩=some (.string ((rd_T39 t5 x5_1).f1))∧w'.cell? ⟨(ad9.add ((x5_1).toNat*5)).block,(ad9.add ((x5_1).toNat*5)).off+2,none⟩=some (.int .i64 ((rd_T39 t5 x5_1).f2.f0))∧w'.cell? ⟨(ad9.add ((x5_1).toNat*5)).block,(ad9.add ((x5_1).toNat*5)).off+3,none⟩=some (.int .i64 ((rd_T39 t5 x5_1).f2.f1))∧w'.cell? ⟨(ad9.add ((x5_1).toNat*5)).block,(ad9.add ((x5_1).toNat*5)).off+4,none⟩=some (.int .i64 ((rd_T39 t5 x5_1).f2.f2))) (ds:=[]) (bt_ 20 0) (by kernel_rfl) rfl rfl ⟨hx14_0,hx14_1,hx14_2,hx14_3,hx14_4,hx15_0,hx15_1,hx15_2,hx15_3,hx15_4⟩ (fun hHeld=> ?_);refine with_tabW law11_WantTop.tab16 law11_WantTop.bits16 (fun HT_ HW_=> ?_)
      generalize w34.drew=w35 at HO_3 HO_4 HB hx14_0 hx14_1 hx14_2 hx14_3 hx14_4 hx15_0 hx15_1 hx15_2 hx15_3 hx15_4 hHeld ⊢
      refine pu_ (i:=0) (N:=some 52) (bt_ 20 1) HT_ ?_
      refine pu_ (i:=1) (N:=some 53) (bt_ 20 3) HT_ ?_
      refine pu_ (i:=2) (N:=some 54) (bt_ 20 7) HT_ ?_
      refine pu_ (i:=3) (N:=some 55) (bt_ 20 15) HT_ ?_
      refine pu_ (i:=4) (N:=some 56) (bt_ 20 31) HT_ ?_
      refine pu_ (i:=5) (N:=some 57) (bt_ 20 63) HT_ ?_
      refine pu_ (i:=6) (N:=some 58) (bt_ 20 127) HT_ ?_
      refine pu_ (i:=7) (N:=some 59) (bt_ 20 255) HT_ ?_
      refine pu_ (i:=8) (N:=some 60) (bt_ 20 511) HT_ ?_
      refine pu_ (i:=9) (N:=some 61) (bt_ 20 1023) HT_ ?_
      refine pu_ (i:=11) (N:=some 63) (bt_ 20 3071) HT_ ?_
      refine pu_ (i:=12) (N:=some 64) (bt_ 20 7167) HT_ ?_
      refine pu_ (i:=13) (N:=some 65) (bt_ 20 15359) HT_ ?_
      refine pu_ (i:=14) (N:=some 66) (bt_ 20 31743) HT_ ?_
      refine tk_ (i:=10) (N:=some 62) (bt_ 20 32767) HT_ HW_ hHeld ?_
      refine tk_ (i:=15) (N:=some 67) (bt_ 20 65535) HT_ HW_ hHeld ?_
      refine pu_ (i:=16) (N:=some 68) (bt_ 20 131071) HT_ ?_
      refine pu_ (i:=17) (N:=some 69) (bt_ 20 262143) HT_ ?_
      refine pu_ (i:=18) (N:=some 70) (bt_ 20 524287) HT_ ?_
      refine pu_ (i:=19) (N:=some 7) (bt_ 20 1048575) HT_ ?_
      refine done_ (done_of HT_.out (by kernel_rfl)) ?_
      try go_wp2
      go_roundg k2
      case measure=>have:=HK1.out;have:=HK2.out;omega
      case rel=>exact ⟨(x6_2),((((rd_T39 t5 x8_2).f0).toList==((rd_T39 t5 x5_1).f1).toList)),(wrap64 (x8_2+1)),(by first|rfl|(simp;done)|(simp [*];done)),(by first|rfl|(simp;done)|(simp [*];done)),(by first|rfl|(simp;done)|(simp [*];done)),H',⟨by have:=HK1.out;have:=HK2.out;omega⟩,⟨by (with_reducible repeat (first|apply Kd.R_alloc|apply Kd.R_drewN|apply Kd.R_drew));exact HO_3.out⟩,⟨by (with_reducible repeat (first|apply Kd.R_alloc|apply Kd.R_drewN|apply Kd.R_drew));exact HO_4.out⟩,⟨zl0_ HB⟩⟩
     rw [if_neg c15] at H
     have c15b0:decide (x8_2<(t2.length:Int))=false:=decide_eq_false c15
     clear c15
     by_cases c38:0≤x5_1
     rotate_left
     ·rw [if_neg c38] at H
      exact absurd H (by simp)
     rw [if_pos c38] at H
     have c38b0:decide (0≤x5_1)=true:=decide_eq_true c38
     clear c38
     by_cases c39:x5_1<(t5.length:Int)
     rotate_left
     ·rw [if_neg c39] at H
      exact absurd H (by simp)
     rw [if_pos c39] at H
     have c39b0:decide (x5_1<(t5.length:Int))=true:=decide_eq_true c39
     clear c39
     replace H:=Option.bind_eq_some_iff.mp H
     obtain ⟨t17,A400,H⟩:=H
     try dsimp only at H
     have A40:=Aside0.mk A400
     clear A400
     by_cases c41:x6_2=1
     rotate_left
     ·rw [if_neg c41] at H
      have c41b0:(x6_2==1)=false:=beq_eq_false_iff_ne.mpr c41
      have c41b1:(x6_2 !=1)=true:=bne_iff_ne.mpr c41
      obtain rfl:=Option.some.inj H
      have p16:0≤(x5_1:Int):=of_decide_eq_true zq_
      have q16:x5_1<(t5.length:Int):=of_decide_eq_true zq_
      obtain ⟨ad16,e16,hx16_0,hx16_1,hx16_2,hx16_3,hx16_4⟩:=at_T39 (Kd.R_reads' HO_4.out).2.2 x5_1 p16 q16
      obtain rfl:ad9=ad16:=(by injection e16)
      replace p16:=eq_true p16
      replace q16:=eq_true q16
      try go_wp2_with (first|((with_reducible refine gate_callee (f:=27) rfl ?_);refine gl_ (some 77) Try.func27 #[.slice Ao9 t2.length co9, .string ((rd_T39 t5 x5_1).f0)] ?_;(with_reducible refine (want_Depth.calls _ _ t2 ((rd_T39 t5 x5_1).f0) t17 _ ?side1 ?side2 A40.out).mono ?_);(case side1=>exact zc_ (Kd.R_reads' HO_3.out).2.2);(case side2=>exact (Kd.R_reads' HO_3.out).2.1);rintro e w71 ⟨rfl,hb⟩;refine ⟨_,rfl, ?_⟩;replace HO_3:=am_ (Kd.R_below (zr_ HO_3) hb);replace HO_4:=am_ (Kd.R_below (zr_ HO_4) hb);replace HB:=am_ (below_step (zl0_ HB) hb);(try clear hb);(try clear hb2);(try clear hk);(try clear hi)))
      replace HO_3:=am_ (Kd.R_drew HO_3.out)
      replace HO_4:=am_ (Kd.R_drew HO_4.out)
      replace HB:=am_ (below_drew1 HB.out)
      refine start_ (n:=48) (S:=fun w'=>True) (ds:=[]) (bt_ 48 0) (by kernel_rfl) rfl rfl trivial (fun hHeld=> ?_);refine with_tabW law11_WantTop.tab18 law11_WantTop.bits18 (fun HT_ HW_=> ?_)
      generalize w71.drew=w72 at HO_3 HO_4 HB hHeld ⊢
      refine pu_ (i:=0) (N:=some 78) (bt_ 48 1) HT_ ?_
      refine pu_ (i:=1) (N:=some 79) (bt_ 48 3) HT_ ?_
      refine pu_ (i:=2) (N:=some 80) (bt_ 48 7) HT_ ?_
      refine pn_ (i:=3) (N:=some 81) (bt_ 48 15) HT_ ?_
      refine pn_ (i:=4) (N:=some 82) (bt_ 48 31) HT_ ?_
      refine pu_ (i:=5) (N:=some 83) (bt_ 48 63) HT_ ?_
      refine pu_ (i:=6) (N:=some 84) (bt_ 48 127) HT_ ?_
      refine pn_ (i:=7) (N:=some 85) (bt_ 48 255) HT_ ?_
      refine pn_ (i:=8) (N:=some 86) (bt_ 48 511) HT_ ?_
      refine pn_ (i:=9) (N:=some 87) (bt_ 48 1023) HT_ ?_
      refine pn_ (i:=10) (N:=some 88) (bt_ 48 2047) HT_ ?_
      refine pn_ (i:=11) (N:=some 89) (bt_ 48 4095) HT_ ?_
      refine pn_ (i:=12) (N:=some 90) (bt_ 48 8191) HT_ ?_
      refine pn_ (i:=13) (N:=some 91) (bt_ 48 16383) HT_ ?_
      refine pn_ (i:=14) (N:=some 92) (bt_ 48 32767) HT_ ?_
      refine pn_ (i:=15) (N:=some 93) (bt_ 48 65535) HT_ ?_
      refine pn_ (i:=16) (N:=some 94) (bt_ 48 131071) HT_ ?_
      refine pn_ (i:=17) (N:=some 95) (bt_ 48 262143) HT_ ?_
      refine pn_ (i:=18) (N:=some 96) (bt_ 48 524287) HT_ ?_
      refine pn_ (i:=19) (N:=some 97) (bt_ 48 1048575) HT_ ?_
      refine pn_ (i:=20) (N:=some 98) (bt_ 48 2097151) HT_ ?_
      refine pn_ (i:=21) (N:=some 99) (bt_ 48 4194303) HT_ ?_
      refine pn_ (i:=22) (N:=some 100) (bt_ 48 8388607) HT_ ?_
      refine pn_ (i:=23) (N:=some 101) (bt_ 48 16777215) HT_ ?_
      refine pn_ (i:=24) (N:=some 102) (bt_ 48 33554431) HT_ ?_
      refine pn_ (i:=25) (N:=some 103) (bt_ 48 67108863) HT_ ?_
      refine pn_ (i:=26) (N:=some 104) (bt_ 48 134217727) HT_ ?_
      refine pn_ (i:=27) (N:=some 105) (bt_ 48 268435455) HT_ ?_
      refine pn_ (i:=28) (N:=some 106) (bt_ 48 536870911) HT_ ?_
      refine pn_ (i:=29) (N:=some 107) (bt_ 48 1073741823) HT_ ?_
      refine pn_ (i:=30) (N:=some 108) (bt_ 48 2147483647) HT_ ?_
      refine pn_ (i:=31) (N:=some 109) (bt_ 48 4294967295) HT_ ?_
      refine pn_ (i:=32) (N:=some 110) (bt_ 48 8589934591) HT_ ?_
      refine pn_ (i:=33) (N:=some 111) (bt_ 48 17179869183) HT_ ?_
      refine pn_ (i:=34) (N:=some 112) (bt_ 48 34359738367) HT_ ?_
      refine pn_ (i:=35) (N:=some 113) (bt_ 48 68719476735) HT_ ?_
      refine pn_ (i:=36) (N:=some 114) (bt_ 48 137438953471) HT_ ?_
      refine pn_ (i:=37) (N:=some 115) (bt_ 48 274877906943) HT_ ?_
      refine pn_ (i:=38) (N:=some 116) (bt_ 48 549755813887) HT_ ?_
      refine pn_ (i:=39) (N:=some 117) (bt_ 48 1099511627775) HT_ ?_
      refine pn_ (i:=40) (N:=some 118) (bt_ 48 2199023255551) HT_ ?_
      refine pn_ (i:=41) (N:=some 119) (bt_ 48 4398046511103) HT_ ?_
      refine pn_ (i:=42) (N:=some 120) (bt_ 48 8796093022207) HT_ ?_
      refine pn_ (i:=43) (N:=some 121) (bt_ 48 17592186044415) HT_ ?_
      refine pn_ (i:=44) (N:=some 122) (bt_ 48 35184372088831) HT_ ?_
      refine pn_ (i:=45) (N:=some 123) (bt_ 48 70368744177663) HT_ ?_
      refine pn_ (i:=46) (N:=some 124) (bt_ 48 140737488355327) HT_ ?_
      refine pu_ (i:=47) (N:=some 125) (bt_ 48 281474976710655) HT_ ?_
      refine done_ (done_of HT_.out (by kernel_rfl)) ?_
      try go_wp2
      go_ret
      exact ⟨by first|rfl|(simp [errW_none,errW_some]<;>rfl)|(simp [*,errW_none,errW_some]<;>rfl),zl0_ HB⟩
     rw [if_pos c41] at H
     have c41b0:(x6_2==1)=true:=beq_iff_eq.mpr c41
     have c41b1:(x6_2 !=1)=false:=bne_eq_false_iff_eq.mpr c41
     clear c41
     by_cases c42:x7_2=true
     rotate_left
     ·replace c42:=Bool.eq_false_iff.mpr c42
      subst c42
      have H1:(some false)=some r:=by rw [if_neg (show¬(false=true) by decide)] at H;exact H
      clear H
      have H:=H1
      clear H1
      obtain rfl:=Option.some.inj H
      have p16:0≤(x5_1:Int):=of_decide_eq_true zq_
      have q16:x5_1<(t5.length:Int):=of_decide_eq_true zq_
      obtain ⟨ad16,e16,hx16_0,hx16_1,hx16_2,hx16_3,hx16_4⟩:=at_T39 (Kd.R_reads' HO_4.out).2.2 x5_1 p16 q16
      obtain rfl:ad9=ad16:=(by injection e16)
      replace p16:=eq_true p16
      replace q16:=eq_true q16
      try go_wp2_with (first|((with_reducible refine gate_callee (f:=27) rfl ?_);refine gl_ (some 77) Try.func27 #[.slice Ao9 t2.length co9, .string ((rd_T39 t5 x5_1).f0)] ?_;(with_reducible refine (want_Depth.calls _ _ t2 ((rd_T39 t5 x5_1).f0) t17 _ ?side1 ?side2 A40.out).mono ?_);(case side1=>exact zc_ (Kd.R_reads' HO_3.out).2.2);(case side2=>exact (Kd.R_reads' HO_3.out).2.1);rintro e w69 ⟨rfl,hb⟩;refine ⟨_,rfl, ?_⟩;replace HO_3:=am_ (Kd.R_below (zr_ HO_3) hb);replace HO_4:=am_ (Kd.R_below (zr_ HO_4) hb);replace HB:=am_ (below_step (zl0_ HB) hb);(try clear hb);(try clear hb2);(try clear hk);(try clear hi)))
      replace HO_3:=am_ (Kd.R_drew HO_3.out)
      replace HO_4:=am_ (Kd.R_drew HO_4.out)
      replace HB:=am_ (below_drew1 HB.out)
      refine start_ (n:=48) (S:=fun w'=>True) (ds:=[]) (bt_ 48 0) (by kernel_rfl) rfl rfl trivial (fun hHeld=> ?_);refine with_tabW law11_WantTop.tab18 law11_WantTop.bits18 (fun HT_ HW_=> ?_)
      generalize w69.drew=w70 at HO_3 HO_4 HB hHeld ⊢
      refine pu_ (i:=0) (N:=some 78) (bt_ 48 1) HT_ ?_
      refine pu_ (i:=1) (N:=some 79) (bt_ 48 3) HT_ ?_
      refine pu_ (i:=2) (N:=some 80) (bt_ 48 7) HT_ ?_
      refine pu_ (i:=3) (N:=some 81) (bt_ 48 15) HT_ ?_
      refine pu_ (i:=4) (N:=some 82) (bt_ 48 31) HT_ ?_
      refine pu_ (i:=5) (N:=some 83) (bt_ 48 63) HT_ ?_
      refine pu_ (i:=6) (N:=some 84) (bt_ 48 127) HT_ ?_
      refine pn_ (i:=7) (N:=some 85) (bt_ 48 255) HT_ ?_
      refine pn_ (i:=8) (N:=some 86) (bt_ 48 511) HT_ ?_
      refine pn_ (i:=9) (N:=some 87) (bt_ 48 1023) HT_ ?_
      refine pn_ (i:=10) (N:=some 88) (bt_ 48 2047) HT_ ?_
      refine pn_ (i:=11) (N:=some 89) (bt_ 48 4095) HT_ ?_
      refine pn_ (i:=12) (N:=some 90) (bt_ 48 8191) HT_ ?_
      refine pn_ (i:=13) (N:=some 91) (bt_ 48 16383) HT_ ?_
      refine pn_ (i:=14) (N:=some 92) (bt_ 48 32767) HT_ ?_
      refine pn_ (i:=15) (N:=some 93) (bt_ 48 65535) HT_ ?_
      refine pn_ (i:=16) (N:=some 94) (bt_ 48 131071) HT_ ?_
      refine pn_ (i:=17) (N:=some 95) (bt_ 48 262143) HT_ ?_
      refine pn_ (i:=18) (N:=some 96) (bt_ 48 524287) HT_ ?_
      refine pn_ (i:=19) (N:=some 97) (bt_ 48 1048575) HT_ ?_
      refine pn_ (i:=20) (N:=some 98) (bt_ 48 2097151) HT_ ?_
      refine pn_ (i:=21) (N:=some 99) (bt_ 48 4194303) HT_ ?_
      refine pn_ (i:=22) (N:=some 100) (bt_ 48 8388607) HT_ ?_
      refine pn_ (i:=23) (N:=some 101) (bt_ 48 16777215) HT_ ?_
      refine pn_ (i:=24) (N:=some 102) (bt_ 48 33554431) HT_ ?_
      refine pn_ (i:=25) (N:=some 103) (bt_ 48 67108863) HT_ ?_
      refine pn_ (i:=26) (N:=some 104) (bt_ 48 134217727) HT_ ?_
      refine pn_ (i:=27) (N:=some 105) (bt_ 48 268435455) HT_ ?_
      refine pn_ (i:=28) (N:=some 106) (bt_ 48 536870911) HT_ ?_
      refine pn_ (i:=29) (N:=some 107) (bt_ 48 1073741823) HT_ ?_
      refine pn_ (i:=30) (N:=some 108) (bt_ 48 2147483647) HT_ ?_
      refine pn_ (i:=31) (N:=some 109) (bt_ 48 4294967295) HT_ ?_
      refine pn_ (i:=32) (N:=some 110) (bt_ 48 8589934591) HT_ ?_
      refine pn_ (i:=33) (N:=some 111) (bt_ 48 17179869183) HT_ ?_
      refine pn_ (i:=34) (N:=some 112) (bt_ 48 34359738367) HT_ ?_
      refine pn_ (i:=35) (N:=some 113) (bt_ 48 68719476735) HT_ ?_
      refine pn_ (i:=36) (N:=some 114) (bt_ 48 137438953471) HT_ ?_
      refine pn_ (i:=37) (N:=some 115) (bt_ 48 274877906943) HT_ ?_
      refine pn_ (i:=38) (N:=some 116) (bt_ 48 549755813887) HT_ ?_
      refine pn_ (i:=39) (N:=some 117) (bt_ 48 1099511627775) HT_ ?_
      refine pn_ (i:=40) (N:=some 118) (bt_ 48 2199023255551) HT_ ?_
      refine pn_ (i:=41) (N:=some 119) (bt_ 48 4398046511103) HT_ ?_
      refine pn_ (i:=42) (N:=some 120) (bt_ 48 8796093022207) HT_ ?_
      refine pn_ (i:=43) (N:=some 121) (bt_ 48 17592186044415) HT_ ?_
      refine pn_ (i:=44) (N:=some 122) (bt_ 48 35184372088831) HT_ ?_
      refine pn_ (i:=45) (N:=some 123) (bt_ 48 70368744177663) HT_ ?_
      refine pn_ (i:=46) (N:=some 124) (bt_ 48 140737488355327) HT_ ?_
      refine pu_ (i:=47) (N:=some 125) (bt_ 48 281474976710655) HT_ ?_
      refine done_ (done_of HT_.out (by kernel_rfl)) ?_
      try go_wp2
      go_ret
      exact ⟨by first|rfl|(simp [errW_none,errW_some]<;>rfl)|(simp [*,errW_none,errW_some]<;>rfl),zl0_ HB⟩
     subst c42
     have H1:(if x5_1>0 then (if 0≤(wrap64 (x5_1 - 1)) then (if (wrap64 (x5_1 - 1))<(t5.length:Int) then ((want_Depth.f t2 ((rd_T39 t5 (wrap64 (x5_1 - 1))).f0)).bind fun t19=>(if t19>t17 then (some false) else ((want_Depth.f t2 ((rd_T39 t5 (wrap64 (x5_1 - 1))).f0)).bind fun t21=>(if t21=t17 then (if ((Op.bytesLess (((rd_T39 t5 (wrap64 (x5_1 - 1))).f0).toList) (((rd_T39 t5 x5_1).f0).toList))=true) then (law11_WantTop.l0 k2 t2 t5 (wrap64 (x5_1+1))) else (some false)) else (law11_WantTop.l0 k2 t2 t5 (wrap64 (x5_1+1))))))) else (none)) else (none)) else (law11_WantTop.l0 k2 t2 t5 (wrap64 (x5_1+1))))=some r:=by rw [if_pos rfl] at H;exact H
     clear H
     have H:=H1
     clear H1
     by_cases c43:x5_1>0
     rotate_left
     ·rw [if_neg c43] at H
      have c43b0:decide (0<x5_1)=false:=decide_eq_false c43
      clear c43
      have H':=Aside0.mk H
      clear H
      have p16:0≤(x5_1:Int):=of_decide_eq_true zq_
      have q16:x5_1<(t5.length:Int):=of_decide_eq_true zq_
      obtain ⟨ad16,e16,hx16_0,hx16_1,hx16_2,hx16_3,hx16_4⟩:=at_T39 (Kd.R_reads' HO_4.out).2.2 x5_1 p16 q16
      obtain rfl:ad9=ad16:=(by injection e16)
      replace p16:=eq_true p16
      replace q16:=eq_true q16
      try go_wp2_with (first|((with_reducible refine gate_callee (f:=27) rfl ?_);refine gl_ (some 77) Try.func27 #[.slice Ao9 t2.length co9, .string ((rd_T39 t5 x5_1).f0)] ?_;(with_reducible refine (want_Depth.calls _ _ t2 ((rd_T39 t5 x5_1).f0) t17 _ ?side1 ?side2 A40.out).mono ?_);(case side1=>exact zc_ (Kd.R_reads' HO_3.out).2.2);(case side2=>exact (Kd.R_reads' HO_3.out).2.1);rintro e w67 ⟨rfl,hb⟩;refine ⟨_,rfl, ?_⟩;replace HO_3:=am_ (Kd.R_below (zr_ HO_3) hb);replace HO_4:=am_ (Kd.R_below (zr_ HO_4) hb);replace HB:=am_ (below_step (zl0_ HB) hb);(try clear hb);(try clear hb2);(try clear hk);(try clear hi)))
      replace HO_3:=am_ (Kd.R_drew HO_3.out)
      replace HO_4:=am_ (Kd.R_drew HO_4.out)
      replace HB:=am_ (below_drew1 HB.out)
      refine start_ (n:=48) (S:=fun w'=>True) (ds:=[]) (bt_ 48 0) (by kernel_rfl) rfl rfl trivial (fun hHeld=> ?_);refine with_tabW law11_WantTop.tab18 law11_WantTop.bits18 (fun HT_ HW_=> ?_)
      generalize w67.drew=w68 at HO_3 HO_4 HB hHeld ⊢
      refine pu_ (i:=0) (N:=some 78) (bt_ 48 1) HT_ ?_
      refine pu_ (i:=1) (N:=some 79) (bt_ 48 3) HT_ ?_
      refine pu_ (i:=2) (N:=some 80) (bt_ 48 7) HT_ ?_
      refine pu_ (i:=3) (N:=some 81) (bt_ 48 15) HT_ ?_
      refine pu_ (i:=4) (N:=some 82) (bt_ 48 31) HT_ ?_
      refine pu_ (i:=5) (N:=some 83) (bt_ 48 63) HT_ ?_
      refine pu_ (i:=6) (N:=some 84) (bt_ 48 127) HT_ ?_
      refine pu_ (i:=7) (N:=some 85) (bt_ 48 255) HT_ ?_
      refine pu_ (i:=8) (N:=some 86) (bt_ 48 511) HT_ ?_
      refine pu_ (i:=9) (N:=some 87) (bt_ 48 1023) HT_ ?_
      refine pn_ (i:=10) (N:=some 88) (bt_ 48 2047) HT_ ?_
      refine pn_ (i:=11) (N:=some 89) (bt_ 48 4095) HT_ ?_
      refine pn_ (i:=12) (N:=some 90) (bt_ 48 8191) HT_ ?_
      refine pn_ (i:=13) (N:=some 91) (bt_ 48 16383) HT_ ?_
      refine pn_ (i:=14) (N:=some 92) (bt_ 48 32767) HT_ ?_
      refine pn_ (i:=15) (N:=some 93) (bt_ 48 65535) HT_ ?_
      refine pn_ (i:=16) (N:=some 94) (bt_ 48 131071) HT_ ?_
      refine pn_ (i:=17) (N:=some 95) (bt_ 48 262143) HT_ ?_
      refine pn_ (i:=18) (N:=some 96) (bt_ 48 524287) HT_ ?_
      refine pn_ (i:=19) (N:=some 97) (bt_ 48 1048575) HT_ ?_
      refine pn_ (i:=20) (N:=some 98) (bt_ 48 2097151) HT_ ?_
      refine pn_ (i:=21) (N:=some 99) (bt_ 48 4194303) HT_ ?_
      refine pn_ (i:=22) (N:=some 100) (bt_ 48 8388607) HT_ ?_
      refine pn_ (i:=23) (N:=some 101) (bt_ 48 16777215) HT_ ?_
      refine pn_ (i:=24) (N:=some 102) (bt_ 48 33554431) HT_ ?_
      refine pn_ (i:=25) (N:=some 103) (bt_ 48 67108863) HT_ ?_
      refine pn_ (i:=26) (N:=some 104) (bt_ 48 134217727) HT_ ?_
      refine pn_ (i:=27) (N:=some 105) (bt_ 48 268435455) HT_ ?_
      refine pn_ (i:=28) (N:=some 106) (bt_ 48 536870911) HT_ ?_
      refine pn_ (i:=29) (N:=some 107) (bt_ 48 1073741823) HT_ ?_
      refine pn_ (i:=30) (N:=some 108) (bt_ 48 2147483647) HT_ ?_
      refine pn_ (i:=31) (N:=some 109) (bt_ 48 4294967295) HT_ ?_
      refine pn_ (i:=32) (N:=some 110) (bt_ 48 8589934591) HT_ ?_
      refine pn_ (i:=33) (N:=some 111) (bt_ 48 17179869183) HT_ ?_
      refine pn_ (i:=34) (N:=some 112) (bt_ 48 34359738367) HT_ ?_
      refine pn_ (i:=35) (N:=some 113) (bt_ 48 68719476735) HT_ ?_
      refine pn_ (i:=36) (N:=some 114) (bt_ 48 137438953471) HT_ ?_
      refine pn_ (i:=37) (N:=some 115) (bt_ 48 274877906943) HT_ ?_
      refine pn_ (i:=38) (N:=some 116) (bt_ 48 549755813887) HT_ ?_
      refine pn_ (i:=39) (N:=some 117) (bt_ 48 1099511627775) HT_ ?_
      refine pn_ (i:=40) (N:=some 118) (bt_ 48 2199023255551) HT_ ?_
      refine pn_ (i:=41) (N:=some 119) (bt_ 48 4398046511103) HT_ ?_
      refine pn_ (i:=42) (N:=some 120) (bt_ 48 8796093022207) HT_ ?_
      refine pn_ (i:=43) (N:=some 121) (bt_ 48 17592186044415) HT_ ?_
      refine pn_ (i:=44) (N:=some 122) (bt_ 48 35184372088831) HT_ ?_
      refine pn_ (i:=45) (N:=some 123) (bt_ 48 70368744177663) HT_ ?_
      refine pu_ (i:=46) (N:=some 124) (bt_ 48 140737488355327) HT_ ?_
      refine pu_ (i:=47) (N:=some 125) (bt_ 48 281474976710655) HT_ ?_
      refine done_ (done_of HT_.out (by kernel_rfl)) ?_
      try go_wp2
      go_roundg k2
      case measure=>have:=HK1.out;have:=HK2.out;omega
      case rel=>exact ⟨(wrap64 (x5_1+1)),(by first|rfl|(simp;done)|(simp [*];done)),H',⟨by have:=HK1.out;have:=HK2.out;omega⟩,⟨by (with_reducible repeat (first|apply Kd.R_alloc|apply Kd.R_drewN|apply Kd.R_drew));exact HO_3.out⟩,⟨by (with_reducible repeat (first|apply Kd.R_alloc|apply Kd.R_drewN|apply Kd.R_drew));exact HO_4.out⟩,⟨zl0_ HB⟩⟩
     rw [if_pos c43] at H
     have c43b0:decide (0<x5_1)=true:=decide_eq_true c43
     clear c43
     obtain ⟨ji44,hji44⟩: ∃j_:Int,(wrap64 (x5_1 - 1))=j_:=⟨_,rfl⟩
     replace H:(if 0≤(ji44) then (if (ji44)<(t5.length:Int) then ((want_Depth.f t2 ((rd_T39 t5 (ji44)).f0)).bind fun t19=>(if t19>t17 then (some false) else ((want_Depth.f t2 ((rd_T39 t5 (ji44)).f0)).bind fun t21=>(if t21=t17 then (if ((Op.bytesLess (((rd_T39 t5 (ji44)).f0).toList) (((rd_T39 t5 x5_1).f0).toList))=true) then (law11_WantTop.l0 k2 t2 t5 (wrap64 (x5_1+1))) else (some false)) else (law11_WantTop.l0 k2 t2 t5 (wrap64 (x5_1+1))))))) else (none)) else (none))=some r:=by first|(rw [hji44] at H;exact H)|(simp only [hji44] at H ⊢;exact H)
     (try rw [hji44] at A40)
     have hji44w:(IntKind.i64.wrap (x5_1 - 1))=ji44:=(i64_w _).trans hji44
     by_cases c45:0≤(ji44)
     rotate_left
     ·rw [if_neg c45] at H
      exact absurd H (by simp)
     rw [if_pos c45] at H
     have c45b0:decide (0≤(ji44))=true:=decide_eq_true c45
     clear c45
     by_cases c46:(ji44)<(t5.length:Int)
     rotate_left
     ·rw [if_neg c46] at H
      exact absurd H (by simp)
     rw [if_pos c46] at H
     have c46b0:decide ((ji44)<(t5.length:Int))=true:=decide_eq_true c46
     clear c46
     replace H:=Option.bind_eq_some_iff.mp H
     obtain ⟨t19,A470,H⟩:=H
     try dsimp only at H
     have A47:=Aside0.mk A470
     clear A470
     by_cases c48:t19>t17
     ·rw [if_pos c48] at H
      have c48b0:decide (t17<t19)=true:=decide_eq_true c48
      clear c48
      obtain rfl:=Option.some.inj H
      have p16:0≤(x5_1:Int):=of_decide_eq_true zq_
      have q16:x5_1<(t5.length:Int):=of_decide_eq_true zq_
      obtain ⟨ad16,e16,hx16_0,hx16_1,hx16_2,hx16_3,hx16_4⟩:=at_T39 (Kd.R_reads' HO_4.out).2.2 x5_1 p16 q16
      obtain rfl:ad9=ad16:=(by injection e16)
      replace p16:=eq_true p16
      replace q16:=eq_true q16
      try go_wp2_with (first|((with_reducible refine gate_callee (f:=27) rfl ?_);refine gl_ (some 77) Try.func27 #[.slice Ao9 t2.length co9, .string ((rd_T39 t5 x5_1).f0)] ?_;(with_reducible refine (want_Depth.calls _ _ t2 ((rd_T39 t5 x5_1).f0) t17 _ ?side1 ?side2 A40.out).mono ?_);(case side1=>exact zc_ (Kd.R_reads' HO_3.out).2.2);(case side2=>exact (Kd.R_reads' HO_3.out).2.1);rintro e w49 ⟨rfl,hb⟩;refine ⟨_,rfl, ?_⟩;replace HO_3:=am_ (Kd.R_below (zr_ HO_3) hb);replace HO_4:=am_ (Kd.R_below (zr_ HO_4) hb);replace HB:=am_ (below_step (zl0_ HB) hb);(try clear hb);(try clear hb2);(try clear hk);(try clear hi)))
      replace HO_3:=am_ (Kd.R_drew HO_3.out)
      replace HO_4:=am_ (Kd.R_drew HO_4.out)
      replace HB:=am_ (below_drew1 HB.out)
      have p18:0≤((ji44):Int):=of_decide_eq_true zq_
      have q18:(ji44)<(t5.length:Int):=of_decide_eq_true zq_
      obtain ⟨ad18,e18,hx18_0,hx18_1,hx18_2,hx18_3,hx18_4⟩:=at_T39 (Kd.R_reads' HO_4.out).2.2 (ji44) p18 q18
      obtain rfl:ad9=ad18:=(by injection e18)
      replace p18:=eq_true p18
      replace q18:=eq_true q18
      refine start_ (n:=48) (S:=fun w'=>w'.cell? (ad9.add (((ji44)).toNat*5))=some (.string ((rd_T39 t5 (ji44)).f0))∧w'.cell? ⟨(ad9.add (((ji44)).toNat*5)).block,(ad9.add (((ji44)).toNat*5)).off+1,none⟩=some (.string ((rd_T39 t5 (ji44)).f1))∧w'.cell? ⟨(ad9.add (((ji44)).toNat*5)).block,(ad9.add (((ji44)).toNat*5)).off+2,none⟩=some (.int .i64 ((rd_T39 t5 (ji44)).f2.f0))∧w'.cell? ⟨(ad9.add (((ji44)).toNat*5)).block,(ad9.add (((ji44)).toNat*5)).off+3,none⟩=some (.int .i64 ((rd_T39 t5 (ji44)).f2.f1))∧w'.cell? ⟨(ad9.add (((ji44)).toNat*5)).block,(ad9.add (((ji44)).toNat*5)).off+4,none⟩=some (.int .i64 ((rd_T39 t5 (ji44)).f2.f2))) (ds:=[]) (bt_ 48 0) (by kernel_rfl) rfl rfl ⟨hx18_0,hx18_1,hx18_2,hx18_3,hx18_4⟩ (fun hHeld=> ?_);refine with_tabW law11_WantTop.tab18 law11_WantTop.bits18 (fun HT_ HW_=> ?_)
      generalize w49.drew=w50 at HO_3 HO_4 HB hx18_0 hx18_1 hx18_2 hx18_3 hx18_4 hHeld ⊢
      refine pu_ (i:=0) (N:=some 78) (bt_ 48 1) HT_ ?_
      refine pu_ (i:=1) (N:=some 79) (bt_ 48 3) HT_ ?_
      refine pu_ (i:=2) (N:=some 80) (bt_ 48 7) HT_ ?_
      refine pu_ (i:=3) (N:=some 81) (bt_ 48 15) HT_ ?_
      refine pu_ (i:=4) (N:=some 82) (bt_ 48 31) HT_ ?_
      refine pu_ (i:=5) (N:=some 83) (bt_ 48 63) HT_ ?_
      refine pu_ (i:=6) (N:=some 84) (bt_ 48 127) HT_ ?_
      refine pu_ (i:=7) (N:=some 85) (bt_ 48 255) HT_ ?_
      refine pu_ (i:=8) (N:=some 86) (bt_ 48 511) HT_ ?_
      refine pu_ (i:=9) (N:=some 87) (bt_ 48 1023) HT_ ?_
      refine pu_ (i:=10) (N:=some 88) (bt_ 48 2047) HT_ ?_
      refine pu_ (i:=11) (N:=some 89) (bt_ 48 4095) HT_ ?_
      refine pu_ (i:=12) (N:=some 90) (bt_ 48 8191) HT_ ?_
      refine pu_ (i:=13) (N:=some 91) (bt_ 48 16383) HT_ ?_
      refine pu_ (i:=14) (N:=some 92) (bt_ 48 32767) HT_ ?_
      refine pu_ (i:=15) (N:=some 93) (bt_ 48 65535) HT_ ?_
      refine pu_ (i:=18) (N:=some 96) (bt_ 48 327679) HT_ ?_
      refine tk_ (i:=16) (N:=some 94) (bt_ 48 393215) HT_ HW_ hHeld ?_
      refine on_ (i:=17) (N:=some 95) (bt_ 48 524287) HT_ (fun K hK=> ?_)
      refine goes_ Try.func27 (by kernel_rfl) rfl #[.slice Ao9 t2.length co9, .string ((rd_T39 t5 (ji44)).f0)] (by rfl) rfl rfl (by (try simp only [List.map_toArray,List.map_cons,List.map_nil]);first|done|(simp only [hji44];rfl)|rfl|(simp only [List.length_drop,List.length_take];rfl)) ?_
      with_reducible refine (want_Depth.calls _ _ t2 ((rd_T39 t5 (ji44)).f0) t19 _ ?side1 ?side2 A47.out).mono ?_
      (case side1=>exact zc_ (Kd.R_reads' HO_3.out).2.2)
      (case side2=>exact (Kd.R_reads' HO_3.out).2.1)
      rintro e w51 ⟨rfl,hb⟩
      have HS0_:=zh_ hb (hHeld.1)
      have HS1_:=zh_ hb (hHeld.2.1)
      have HS2_:=zh_ hb (hHeld.2.2.1)
      have HS3_:=zh_ hb (hHeld.2.2.2.1)
      have HS4_:=zh_ hb (hHeld.2.2.2.2)
      refine ⟨_,rfl, ?_⟩
      replace HO_3:=am_ (Kd.R_below (zr_ HO_3) hb)
      replace HO_4:=am_ (Kd.R_below (zr_ HO_4) hb)
      replace HB:=am_ (below_step (zl0_ HB) hb)
      (try clear hb)
      (try clear hb2)
      (try clear hk)
      (try clear hi)
      refine hK.out _ _ ⟨HS0_,HS1_,HS2_,HS3_,HS4_⟩ (fun hHeld=> ?_)
      clear hK K
      refine no_ (N:=some 95) ?_
      refine pu_ (i:=19) (N:=some 97) (bt_ 48 1048575) HT_ ?_
      refine pu_ (i:=20) (N:=some 98) (bt_ 48 2097151) HT_ ?_
      refine pn_ (i:=21) (N:=some 99) (bt_ 48 4194303) HT_ ?_
      refine pn_ (i:=22) (N:=some 100) (bt_ 48 8388607) HT_ ?_
      refine pn_ (i:=23) (N:=some 101) (bt_ 48 16777215) HT_ ?_
      refine pn_ (i:=24) (N:=some 102) (bt_ 48 33554431) HT_ ?_
      refine pn_ (i:=25) (N:=some 103) (bt_ 48 67108863) HT_ ?_
      refine pn_ (i:=26) (N:=some 104) (bt_ 48 134217727) HT_ ?_
      refine pn_ (i:=27) (N:=some 105) (bt_ 48 268435455) HT_ ?_
      refine pn_ (i:=28) (N:=some 106) (bt_ 48 536870911) HT_ ?_
      refine pn_ (i:=29) (N:=some 107) (bt_ 48 1073741823) HT_ ?_
      refine pn_ (i:=30) (N:=some 108) (bt_ 48 2147483647) HT_ ?_
      refine pn_ (i:=31) (N:=some 109) (bt_ 48 4294967295) HT_ ?_
      refine pn_ (i:=32) (N:=some 110) (bt_ 48 8589934591) HT_ ?_
      refine pn_ (i:=33) (N:=some 111) (bt_ 48 17179869183) HT_ ?_
      refine pn_ (i:=34) (N:=some 112) (bt_ 48 34359738367) HT_ ?_
      refine pn_ (i:=35) (N:=some 113) (bt_ 48 68719476735) HT_ ?_
      refine pn_ (i:=36) (N:=some 114) (bt_ 48 137438953471) HT_ ?_
      refine pn_ (i:=37) (N:=some 115) (bt_ 48 274877906943) HT_ ?_
      refine pn_ (i:=38) (N:=some 116) (bt_ 48 549755813887) HT_ ?_
      refine pn_ (i:=39) (N:=some 117) (bt_ 48 1099511627775) HT_ ?_
      refine pn_ (i:=40) (N:=some 118) (bt_ 48 2199023255551) HT_ ?_
      refine pn_ (i:=41) (N:=some 119) (bt_ 48 4398046511103) HT_ ?_
      refine pn_ (i:=42) (N:=some 120) (bt_ 48 8796093022207) HT_ ?_
      refine pn_ (i:=43) (N:=some 121) (bt_ 48 17592186044415) HT_ ?_
      refine pn_ (i:=44) (N:=some 122) (bt_ 48 35184372088831) HT_ ?_
      refine pu_ (i:=45) (N:=some 123) (bt_ 48 70368744177663) HT_ ?_
      refine pu_ (i:=46) (N:=some 124) (bt_ 48 140737488355327) HT_ ?_
      refine pu_ (i:=47) (N:=some 125) (bt_ 48 281474976710655) HT_ ?_
      refine done_ (done_of HT_.out (by kernel_rfl)) ?_
      try go_wp2
      go_ret
      exact ⟨by first|rfl|(simp [errW_none,errW_some]<;>rfl)|(simp only [←hji44];first|rfl|(simp [errW_none,errW_some]<;>rfl))|(simp [*,errW_none,errW_some]<;>rfl),zl0_ HB⟩
     rw [if_neg c48] at H
     have c48b0:decide (t17<t19)=false:=decide_eq_false c48
     clear c48
     replace H:=Option.bind_eq_some_iff.mp H
     obtain ⟨t21,A520,H⟩:=H
     try dsimp only at H
     have A52:=Aside0.mk A520
     clear A520
     obtain rfl:t19=t21:=Option.some.inj (A47.out.symm.trans A52.out)
     by_cases c53:t19=t17
     rotate_left
     ·rw [if_neg c53] at H
      have c53b0:(t19==t17)=false:=beq_eq_false_iff_ne.mpr c53
      have c53b1:(t19 !=t17)=true:=bne_iff_ne.mpr c53
      have H':=Aside0.mk H
      clear H
      have p16:0≤(x5_1:Int):=of_decide_eq_true zq_
      have q16:x5_1<(t5.length:Int):=of_decide_eq_true zq_
      obtain ⟨ad16,e16,hx16_0,hx16_1,hx16_2,hx16_3,hx16_4⟩:=at_T39 (Kd.R_reads' HO_4.out).2.2 x5_1 p16 q16
      obtain rfl:ad9=ad16:=(by injection e16)
      replace p16:=eq_true p16
      replace q16:=eq_true q16
      try go_wp2_with (first|((with_reducible refine gate_callee (f:=27) rfl ?_);refine gl_ (some 77) Try.func27 #[.slice Ao9 t2.length co9, .string ((rd_T39 t5 x5_1).f0)] ?_;(with_reducible refine (want_Depth.calls _ _ t2 ((rd_T39 t5 x5_1).f0) t17 _ ?side1 ?side2 A40.out).mono ?_);(case side1=>exact zc_ (Kd.R_reads' HO_3.out).2.2);(case side2=>exact (Kd.R_reads' HO_3.out).2.1);rintro e w63 ⟨rfl,hb⟩;refine ⟨_,rfl, ?_⟩;replace HO_3:=am_ (Kd.R_below (zr_ HO_3) hb);replace HO_4:=am_ (Kd.R_below (zr_ HO_4) hb);replace HB:=am_ (below_step (zl0_ HB) hb);(try clear hb);(try clear hb2);(try clear hk);(try clear hi)))
      replace HO_3:=am_ (Kd.R_drew HO_3.out)
      replace HO_4:=am_ (Kd.R_drew HO_4.out)
      replace HB:=am_ (below_drew1 HB.out)
      have p18:0≤((ji44):Int):=of_decide_eq_true zq_
      have q18:(ji44)<(t5.length:Int):=of_decide_eq_true zq_
      obtain ⟨ad18,e18,hx18_0,hx18_1,hx18_2,hx18_3,hx18_4⟩:=at_T39 (Kd.R_reads' HO_4.out).2.2 (ji44) p18 q18
      obtain rfl:ad9=ad18:=(by injection e18)
      replace p18:=eq_true p18
      replace q18:=eq_true q18
      have p20:0≤((ji44):Int):=of_decide_eq_true zq_
      have q20:(ji44)<(t5.length:Int):=of_decide_eq_true zq_
      obtain ⟨ad20,e20,hx20_0,hx20_1,hx20_2,hx20_3,hx20_4⟩:=at_T39 (Kd.R_reads' HO_4.out).2.2 (ji44) p20 q20
      obtain rfl:ad9=ad20:=(by injection e20)
      replace p20:=eq_true p20
      replace q20:=eq_true q20
      refine start_ (n:=48) (S:=fun w'=>w'.cell? (ad9.add (((ji44)).toNat*5))=some (.string ((rd_T39 t5 (ji44)).f0))∧w'.cell? ⟨(ad9.add (((ji44)).toNat*5)).block,(ad9.add (((ji44)).toNat*5)).off+1,none⟩=some (.string ((rd_T39 t5 (ji44)).f1))∧w'.cell? ⟨(ad9.add (((ji44)).toNat*5)).block,(ad9.add (((ji44)).toNat*5)).off+2,none⟩=some (.int .i64 ((rd_T39 t5 (ji44)).f2.f0))∧w'.cell? ⟨(ad9.add (((ji44)).toNat*5)).block,(ad9.add (((ji44)).toNat*5)).off+3,none⟩=some (.int .i64 ((rd_T39 t5 (ji44)).f2.f1))∧w'.cell? ⟨(ad9.add (((ji44)).toNat*5)).block,(ad9.add (((ji44)).toNat*5)).off+4,none⟩=some (.int .i64 ((rd_T39 t5 (ji44)).f2.f2))∧w'.cell? (ad9.add (((ji44)).toNat*5))=some (.string ((rd_T39 t5 (ji44)).f0))∧w'.cell? ⟨(ad9.add (((ji44)).toNat*5)).block,(ad9.add (((ji44)).toNat*5)).off+1,none⟩=some (.string ((rd_T39 t5 (ji44)).f1))∧w'.cell? ⟨(ad9.add (((ji44)).toNat*5)).block,(ad9.add (((ji44)).toNat*5)).off+2,none⟩=some (.int .i64 ((rd_T39 t5 (ji44)).f2.f0))∧w'.cell? ⟨(ad9.add (((ji44)).toNat*5)).block,(ad9.add (((ji44)).toNat*5)).off+3,none⟩=some (.int .i64 ((rd_T39 t5 (ji44)).f2.f1))∧w'.cell? ⟨(ad9.add (((ji44)).toNat*5)).block,(ad9.add (((ji44)).toNat*5)).off+4,none⟩=some (.int .i64 ((rd_T39 t5 (ji44)).f2.f2))) (ds:=[]) (bt_ 48 0) (by kernel_rfl) rfl rfl ⟨hx18_0,hx18_1,hx18_2,hx18_3,hx18_4,hx20_0,hx20_1,hx20_2,hx20_3,hx20_4⟩ (fun hHeld=> ?_);refine with_tabW law11_WantTop.tab18 law11_WantTop.bits18 (fun HT_ HW_=> ?_)
      generalize w63.drew=w64 at HO_3 HO_4 HB hx18_0 hx18_1 hx18_2 hx18_3 hx18_4 hx20_0 hx20_1 hx20_2 hx20_3 hx20_4 hHeld ⊢
      refine pu_ (i:=0) (N:=some 78) (bt_ 48 1) HT_ ?_
      refine pu_ (i:=1) (N:=some 79) (bt_ 48 3) HT_ ?_
      refine pu_ (i:=2) (N:=some 80) (bt_ 48 7) HT_ ?_
      refine pu_ (i:=3) (N:=some 81) (bt_ 48 15) HT_ ?_
      refine pu_ (i:=4) (N:=some 82) (bt_ 48 31) HT_ ?_
      refine pu_ (i:=5) (N:=some 83) (bt_ 48 63) HT_ ?_
      refine pu_ (i:=6) (N:=some 84) (bt_ 48 127) HT_ ?_
      refine pu_ (i:=7) (N:=some 85) (bt_ 48 255) HT_ ?_
      refine pu_ (i:=8) (N:=some 86) (bt_ 48 511) HT_ ?_
      refine pu_ (i:=9) (N:=some 87) (bt_ 48 1023) HT_ ?_
      refine pu_ (i:=10) (N:=some 88) (bt_ 48 2047) HT_ ?_
      refine pu_ (i:=11) (N:=some 89) (bt_ 48 4095) HT_ ?_
      refine pu_ (i:=12) (N:=some 90) (bt_ 48 8191) HT_ ?_
      refine pu_ (i:=13) (N:=some 91) (bt_ 48 16383) HT_ ?_
      refine pu_ (i:=14) (N:=some 92) (bt_ 48 32767) HT_ ?_
      refine pu_ (i:=15) (N:=some 93) (bt_ 48 65535) HT_ ?_
      refine pu_ (i:=18) (N:=some 96) (bt_ 48 327679) HT_ ?_
      refine tk_ (i:=16) (N:=some 94) (bt_ 48 393215) HT_ HW_ hHeld ?_
      refine on_ (i:=17) (N:=some 95) (bt_ 48 524287) HT_ (fun K hK=> ?_)
      refine goes_ Try.func27 (by kernel_rfl) rfl #[.slice Ao9 t2.length co9, .string ((rd_T39 t5 (ji44)).f0)] (by rfl) rfl rfl (by (try simp only [List.map_toArray,List.map_cons,List.map_nil]);first|done|(simp only [hji44];rfl)|rfl|(simp only [List.length_drop,List.length_take];rfl)) ?_
      with_reducible refine (want_Depth.calls _ _ t2 ((rd_T39 t5 (ji44)).f0) t19 _ ?side1 ?side2 A47.out).mono ?_
      (case side1=>exact zc_ (Kd.R_reads' HO_3.out).2.2)
      (case side2=>exact (Kd.R_reads' HO_3.out).2.1)
      rintro e w65 ⟨rfl,hb⟩
      have HS0_:=zh_ hb (hHeld.1)
      have HS1_:=zh_ hb (hHeld.2.1)
      have HS2_:=zh_ hb (hHeld.2.2.1)
      have HS3_:=zh_ hb (hHeld.2.2.2.1)
      have HS4_:=zh_ hb (hHeld.2.2.2.2.1)
      have HS5_:=zh_ hb (hHeld.2.2.2.2.2.1)
      have HS6_:=zh_ hb (hHeld.2.2.2.2.2.2.1)
      have HS7_:=zh_ hb (hHeld.2.2.2.2.2.2.2.1)
      have HS8_:=zh_ hb (hHeld.2.2.2.2.2.2.2.2.1)
      have HS9_:=zh_ hb (hHeld.2.2.2.2.2.2.2.2.2)
      refine ⟨_,rfl, ?_⟩
      replace HO_3:=am_ (Kd.R_below (zr_ HO_3) hb)
      replace HO_4:=am_ (Kd.R_below (zr_ HO_4) hb)
      replace HB:=am_ (below_step (zl0_ HB) hb)
      (try clear hb)
      (try clear hb2)
      (try clear hk)
      (try clear hi)
      refine hK.out _ _ ⟨HS0_,HS1_,HS2_,HS3_,HS4_,HS5_,HS6_,HS7_,HS8_,HS9_⟩ (fun hHeld=> ?_)
      clear hK K
      refine no_ (N:=some 95) ?_
      refine pu_ (i:=19) (N:=some 97) (bt_ 48 1048575) HT_ ?_
      refine pu_ (i:=20) (N:=some 98) (bt_ 48 2097151) HT_ ?_
      refine pu_ (i:=21) (N:=some 99) (bt_ 48 4194303) HT_ ?_
      refine pu_ (i:=22) (N:=some 100) (bt_ 48 8388607) HT_ ?_
      refine pu_ (i:=23) (N:=some 101) (bt_ 48 16777215) HT_ ?_
      refine pu_ (i:=24) (N:=some 102) (bt_ 48 33554431) HT_ ?_
      refine pu_ (i:=25) (N:=some 103) (bt_ 48 67108863) HT_ ?_
      refine pu_ (i:=26) (N:=some 104) (bt_ 48 134217727) HT_ ?_
      refine pu_ (i:=29) (N:=some 107) (bt_ 48 671088639) HT_ ?_
      refine tk_ (i:=27) (N:=some 105) (bt_ 48 805306367) HT_ HW_ hHeld ?_
      refine on_ (i:=28) (N:=some 106) (bt_ 48 1073741823) HT_ (fun K hK=> ?_)
      refine goes_ Try.func27 (by kernel_rfl) rfl #[.slice Ao9 t2.length co9, .string ((rd_T39 t5 (ji44)).f0)] (by rfl) rfl rfl (by (try simp only [List.map_toArray,List.map_cons,List.map_nil]);first|done|(simp only [hji44];rfl)|rfl|(simp only [List.length_drop,List.length_take];rfl)) ?_
      with_reducible refine (want_Depth.calls _ _ t2 ((rd_T39 t5 (ji44)).f0) t19 _ ?side1 ?side2 A52.out).mono ?_
      (case side1=>exact zc_ (Kd.R_reads' HO_3.out).2.2)
      (case side2=>exact (Kd.R_reads' HO_3.out).2.1)
      rintro e w66 ⟨rfl,hb⟩
      have HS0_:=zh_ hb (hHeld.1)
      have HS1_:=zh_ hb (hHeld.2.1)
      have HS2_:=zh_ hb (hHeld.2.2.1)
      have HS3_:=zh_ hb (hHeld.2.2.2.1)
      have HS4_:=zh_ hb (hHeld.2.2.2.2.1)
      have HS5_:=zh_ hb (hHeld.2.2.2.2.2.1)
      have HS6_:=zh_ hb (hHeld.2.2.2.2.2.2.1)
      have HS7_:=zh_ hb (hHeld.2.2.2.2.2.2.2.1)
      have HS8_:=zh_ hb (hHeld.2.2.2.2.2.2.2.2.1)
      have HS9_:=zh_ hb (hHeld.2.2.2.2.2.2.2.2.2)
      refine ⟨_,rfl, ?_⟩
      replace HO_3:=am_ (Kd.R_below (zr_ HO_3) hb)
      replace HO_4:=am_ (Kd.R_below (zr_ HO_4) hb)
      replace HB:=am_ (below_step (zl0_ HB) hb)
      (try clear hb)
      (try clear hb2)
      (try clear hk)
      (try clear hi)
      refine hK.out _ _ ⟨HS0_,HS1_,HS2_,HS3_,HS4_,HS5_,HS6_,HS7_,HS8_,HS9_⟩ (fun hHeld=> ?_)
      clear hK K
      refine no_ (N:=some 106) ?_
      refine pu_ (i:=30) (N:=some 108) (bt_ 48 2147483647) HT_ ?_
      refine pu_ (i:=31) (N:=some 109) (bt_ 48 4294967295) HT_ ?_
      refine pn_ (i:=32) (N:=some 110) (bt_ 48 8589934591) HT_ ?_
      refine pn_ (i:=33) (N:=some 111) (bt_ 48 17179869183) HT_ ?_
      refine pn_ (i:=34) (N:=some 112) (bt_ 48 34359738367) HT_ ?_
      refine pn_ (i:=35) (N:=some 113) (bt_ 48 68719476735) HT_ ?_
      refine pn_ (i:=36) (N:=some 114) (bt_ 48 137438953471) HT_ ?_
      refine pn_ (i:=37) (N:=some 115) (bt_ 48 274877906943) HT_ ?_
      refine pn_ (i:=38) (N:=some 116) (bt_ 48 549755813887) HT_ ?_
      refine pn_ (i:=39) (N:=some 117) (bt_ 48 1099511627775) HT_ ?_
      refine pn_ (i:=40) (N:=some 118) (bt_ 48 2199023255551) HT_ ?_
      refine pn_ (i:=41) (N:=some 119) (bt_ 48 4398046511103) HT_ ?_
      refine pn_ (i:=42) (N:=some 120) (bt_ 48 8796093022207) HT_ ?_
      refine pn_ (i:=43) (N:=some 121) (bt_ 48 17592186044415) HT_ ?_
      refine pu_ (i:=44) (N:=some 122) (bt_ 48 35184372088831) HT_ ?_
      refine pu_ (i:=45) (N:=some 123) (bt_ 48 70368744177663) HT_ ?_
      refine pu_ (i:=46) (N:=some 124) (bt_ 48 140737488355327) HT_ ?_
      refine pu_ (i:=47) (N:=some 125) (bt_ 48 281474976710655) HT_ ?_
      refine done_ (done_of HT_.out (by kernel_rfl)) ?_
      try go_wp2
      go_roundg k2
      case measure=>have:=HK1.out;have:=HK2.out;omega
      case rel=>exact ⟨(wrap64 (x5_1+1)),(by first|rfl|(simp;done)|(simp [*];done)),H',⟨by have:=HK1.out;have:=HK2.out;omega⟩,⟨by (with_reducible repeat (first|apply Kd.R_alloc|apply Kd.R_drewN|apply Kd.R_drew));exact HO_3.out⟩,⟨by (with_reducible repeat (first|apply Kd.R_alloc|apply Kd.R_drewN|apply Kd.R_drew));exact HO_4.out⟩,⟨zl0_ HB⟩⟩
     rw [if_pos c53] at H
     have c53b0:(t19==t17)=true:=beq_iff_eq.mpr c53
     have c53b1:(t19 !=t17)=false:=bne_eq_false_iff_eq.mpr c53
     clear c53
     by_cases c54:((Op.bytesLess (((rd_T39 t5 (ji44)).f0).toList) (((rd_T39 t5 x5_1).f0).toList))=true)
     rotate_left
     ·rw [if_neg c54] at H
      have c54b0:(Op.bytesLess (((rd_T39 t5 (ji44)).f0).toList) (((rd_T39 t5 x5_1).f0).toList))=false:=by simpa using c54
      clear c54
      obtain rfl:=Option.some.inj H
      have p16:0≤(x5_1:Int):=of_decide_eq_true zq_
      have q16:x5_1<(t5.length:Int):=of_decide_eq_true zq_
      obtain ⟨ad16,e16,hx16_0,hx16_1,hx16_2,hx16_3,hx16_4⟩:=at_T39 (Kd.R_reads' HO_4.out).2.2 x5_1 p16 q16
      obtain rfl:ad9=ad16:=(by injection e16)
      replace p16:=eq_true p16
      replace q16:=eq_true q16
      try go_wp2_with (first|((with_reducible refine gate_callee (f:=27) rfl ?_);refine gl_ (some 77) Try.func27 #[.slice Ao9 t2.length co9, .string ((rd_T39 t5 x5_1).f0)] ?_;(with_reducible refine (want_Depth.calls _ _ t2 ((rd_T39 t5 x5_1).f0) t17 _ ?side1 ?side2 A40.out).mono ?_);(case side1=>exact zc_ (Kd.R_reads' HO_3.out).2.2);(case side2=>exact (Kd.R_reads' HO_3.out).2.1);rintro e w59 ⟨rfl,hb⟩;refine ⟨_,rfl, ?_⟩;replace HO_3:=am_ (Kd.R_below (zr_ HO_3) hb);replace HO_4:=am_ (Kd.R_below (zr_ HO_4) hb);replace HB:=am_ (below_step (zl0_ HB) hb);(try clear hb);(try clear hb2);(try clear hk);(try clear hi)))
      replace HO_3:=am_ (Kd.R_drew HO_3.out)
      replace HO_4:=am_ (Kd.R_drew HO_4.out)
      replace HB:=am_ (below_drew1 HB.out)
      have p18:0≤((ji44):Int):=of_decide_eq_true zq_
      have q18:(ji44)<(t5.length:Int):=of_decide_eq_true zq_
      obtain ⟨ad18,e18,hx18_0,hx18_1,hx18_2,hx18_3,hx18_4⟩:=at_T39 (Kd.R_reads' HO_4.out).2.2 (ji44) p18 q18
      obtain rfl:ad9=ad18:=(by injection e18)
      replace p18:=eq_true p18
      replace q18:=eq_true q18
      have p20:0≤((ji44):Int):=of_decide_eq_true zq_
      have q20:(ji44)<(t5.length:Int):=of_decide_eq_true zq_
      obtain ⟨ad20,e20,hx20_0,hx20_1,hx20_2,hx20_3,hx20_4⟩:=at_T39 (Kd.R_reads' HO_4.out).2.2 (ji44) p20 q20
      obtain rfl:ad9=ad20:=(by injection e20)
      replace p20:=eq_true p20
      replace q20:=eq_true q20
      have p22:0≤((ji44):Int):=of_decide_eq_true zq_
      have q22:(ji44)<(t5.length:Int):=of_decide_eq_true zq_
      obtain ⟨ad22,e22,hx22_0,hx22_1,hx22_2,hx22_3,hx22_4⟩:=at_T39 (Kd.R_reads' HO_4.out).2.2 (ji44) p22 q22
      obtain rfl:ad9=ad22:=(by injection e22)
      replace p22:=eq_true p22
      replace q22:=eq_true q22
      have p23:0≤(x5_1:Int):=of_decide_eq_true zq_
      have q23:x5_1<(t5.length:Int):=of_decide_eq_true zq_
      obtain ⟨ad23,e23,hx23_0,hx23_1,hx23_2,hx23_3,hx23_4⟩:=at_T39 (Kd.R_reads' HO_4.out).2.2 x5_1 p23 q23
      obtain rfl:ad9=ad23:=(by injection e23)
      replace p23:=eq_true p23
      replace q23:=eq_true q23
      refine start_ (n:=48) (S:=fun w'=>w'.cell? (ad9.add (((ji44)).toNat*5))=some (.string ((rd_T39 t5 (ji44)).f0))∧w'.cell? ⟨(ad9.add (((ji44)).toNat*5)).block,(ad9.add (((ji44)).toNat*5)).off+1,none⟩=some (.string ((rd_T39 t5 (ji44)).f1))∧w'.cell? ⟨(ad9.add (((ji44)).toNat*5)).block,(ad9.add (((ji44)).toNat*5)).off+2,none⟩=some (.int .i64 ((rd_T39 t5 (ji44)).f2.f0))∧w'.cell? ⟨(ad9.add (((ji44)).toNat*5)).block,(ad9.add (((ji44)).toNat*5)).off+3,none⟩=some (.int .i64 ((rd_T39 t5 (ji44)).f2.f1))∧w'.cell? ⟨(ad9.add (((ji44)).toNat*5)).block,(ad9.add (((ji44)).toNat*5)).off+4,none⟩=some (.int .i64 ((rd_T39 t5 (ji44)).f2.f2))∧w'.cell? (ad9.add (((ji44)).toNat*5))=some (.string ((rd_T39 t5 (ji44)).f0))∧w'.cell? ⟨(ad9.add (((ji44)).toNat*5)).block,(ad9.add (((ji44)).toNat*5)).off+1,none⟩=some (.string ((rd_T39 t5 (ji44)).f1))∧w'.cell? ⟨(ad9.add (((ji44)).toNat*5)).block,(ad9.add (((ji44)).toNat*5)).off+2,none⟩=some (.int .i64 ((rd_T39 t5 (ji44)).f2.f0))∧w'.cell? ⟨(ad9.add (((ji44)).toNat*5)).block,(ad9.add (((ji44)).toNat*5)).off+3,none⟩=some (.int .i64 ((rd_T39 t5 (ji44)).f2.f1))∧w'.cell? ⟨(ad9.add (((ji44)).toNat*5)).block,(ad9.add (((ji44)).toNat*5)).off+4,none⟩=some (.int .i64 ((rd_T39 t5 (ji44)).f2.f2))∧w'.cell? (ad9.add (((ji44)).toNat*5))=some (.string ((rd_T39 t5 (ji44)).f0))∧w'.cell? ⟨(ad9.add (((ji44)).toNat*5)).block,(ad9.add (((ji44)).toNat*5)).off+1,none⟩=some (.string ((rd_T39 t5 (ji44)).f1))∧w'.cell? ⟨(ad9.add (((ji44)).toNat*5)).block,(ad9.add (((ji44)).toNat*5)).off+2,none⟩=some (.int .i64 ((rd_T39 t5 (ji44)).f2.f0))∧w'.cell? ⟨(ad9.add (((ji44)).toNat*5)).block,(ad9.add (((ji44)).toNat*5)).off+3,none⟩=some (.int .i64 ((rd_T39 t5 (ji44)).f2.f1))∧w'.cell? ⟨(ad9.add (((ji44)).toNat*5)).block,(ad9.add (((ji44)).toNat*5)).off+4,none⟩=some (.int .i64 ((rd_T39 t5 (ji44)).f2.f2))∧w'.cell? (ad9.add ((x5_1).toNat*5))=some (.string ((rd_T39 t5 x5_1).f0))∧w'.cell? ⟨(ad9.add ((x5_1).toNat*5)).block,(ad9.add ((x5_1).toNat*5)).off+1,none⟩=some (.string ((rd_T39 t5 x5_1).f1))∧w'.cell? ⟨(ad9.add ((x5_1).toNat*5)).block,(ad9.add ((x5_1).toNat*5)).off+2,none⟩=some (.int .i64 ((rd_T39 t5 x5_1).f2.f0))∧w'.cell? ⟨(ad9.add ((x5_1).toNat*5)).block,(ad9.add ((x5_1).toNat*5)).off+3,none⟩=some (.int .i64 ((rd_T39 t5 x5_1).f2.f1))∧w'.cell? ⟨(ad9.add ((x5_1).toNat*5)).block,(ad9.add ((x5_1).toNat*5)).off+4,none⟩=some (.int .i64 ((rd_T39 t5 x5_1).f2.f2))) (ds:=[]) (bt_ 48 0) (by kernel_rfl) rfl rfl ⟨hx18_0,hx18_1,hx18_2,hx18_3,hx18_4,hx20_0,hx20_1,hx20_2,hx20_3,hx20_4,hx22_0,hx22_1,hx22_2,hx22_3,hx22_4,hx23_0,hx23_1,hx23_2,hx23_3,hx23_4⟩ (fun hHeld=> ?_);refine with_tabW law11_WantTop.tab18 law11_WantTop.bits18 (fun HT_ HW_=> ?_)
      generalize w59.drew=w60 at HO_3 HO_4 HB hx18_0 hx18_1 hx18_2 hx18_3 hx18_4 hx20_0 hx20_1 hx20_2 hx20_3 hx20_4 hx22_0 hx22_1 hx22_2 hx22_3 hx22_4 hx23_0 hx23_1 hx23_2 hx23_3 hx23_4 hHeld ⊢
      refine pu_ (i:=0) (N:=some 78) (bt_ 48 1) HT_ ?_
      refine pu_ (i:=1) (N:=some 79) (bt_ 48 3) HT_ ?_
      refine pu_ (i:=2) (N:=some 80) (bt_ 48 7) HT_ ?_
      refine pu_ (i:=3) (N:=some 81) (bt_ 48 15) HT_ ?_
      refine pu_ (i:=4) (N:=some 82) (bt_ 48 31) HT_ ?_
      refine pu_ (i:=5) (N:=some 83) (bt_ 48 63) HT_ ?_
      refine pu_ (i:=6) (N:=some 84) (bt_ 48 127) HT_ ?_
      refine pu_ (i:=7) (N:=some 85) (bt_ 48 255) HT_ ?_
      refine pu_ (i:=8) (N:=some 86) (bt_ 48 511) HT_ ?_
      refine pu_ (i:=9) (N:=some 87) (bt_ 48 1023) HT_ ?_
      refine pu_ (i:=10) (N:=some 88) (bt_ 48 2047) HT_ ?_
      refine pu_ (i:=11) (N:=some 89) (bt_ 48 4095) HT_ ?_
      refine pu_ (i:=12) (N:=some 90) (bt_ 48 8191) HT_ ?_
      refine pu_ (i:=13) (N:=some 91) (bt_ 48 16383) HT_ ?_
      refine pu_ (i:=14) (N:=some 92) (bt_ 48 32767) HT_ ?_
      refine pu_ (i:=15) (N:=some 93) (bt_ 48 65535) HT_ ?_
      refine pu_ (i:=18) (N:=some 96) (bt_ 48 327679) HT_ ?_
      refine tk_ (i:=16) (N:=some 94) (bt_ 48 393215) HT_ HW_ hHeld ?_
      refine on_ (i:=17) (N:=some 95) (bt_ 48 524287) HT_ (fun K hK=> ?_)
      refine goes_ Try.func27 (by kernel_rfl) rfl #[.slice Ao9 t2.length co9, .string ((rd_T39 t5 (ji44)).f0)] (by rfl) rfl rfl (by (try simp only [List.map_toArray,List.map_cons,List.map_nil]);first|done|(simp only [hji44];rfl)|rfl|(simp only [List.length_drop,List.length_take];rfl)) ?_
      with_reducible refine (want_Depth.calls _ _ t2 ((rd_T39 t5 (ji44)).f0) t19 _ ?side1 ?side2 A47.out).mono ?_
      (case side1=>exact zc_ (Kd.R_reads' HO_3.out).2.2)
      (case side2=>exact (Kd.R_reads' HO_3.out).2.1)
      rintro e w61 ⟨rfl,hb⟩
      have HS0_:=zh_ hb (hHeld.1)
      have HS1_:=zh_ hb (hHeld.2.1)
      have HS2_:=zh_ hb (hHeld.2.2.1)
      have HS3_:=zh_ hb (hHeld.2.2.2.1)
      have HS4_:=zh_ hb (hHeld.2.2.2.2.1)
      have HS5_:=zh_ hb (hHeld.2.2.2.2.2.1)
      have HS6_:=zh_ hb (hHeld.2.2.2.2.2.2.1)
      have HS7_:=zh_ hb (hHeld.2.2.2.2.2.2.2.1)
      have HS8_:=zh_ hb (hHeld.2.2.2.2.2.2.2.2.1)
      have HS9_:=zh_ hb (hHeld.2.2.2.2.2.2.2.2.2.1)
      have HS10_:=zh_ hb (hHeld.2.2.2.2.2.2.2.2.2.2.1)
      have HS11_:=zh_ hb (hHeld.2.2.2.2.2.2.2.2.2.2.2.1)
      have HS12_:=zh_ hb (hHeld.2.2.2.2.2.2.2.2.2.2.2.2.1)
      have HS13_:=zh_ hb (hHeld.2.2.2.2.2.2.2.2.2.2.2.2.2.1)
      have HS14_:=zh_ hb (hHeld.2.2.2.2.2.2.2.2.2.2.2.2.2.2.1)
      have HS15_:=zh_ hb (hHeld.2.2.2.2.2.2.2.2.2.2.2.2.2.2.2.1)
      have HS16_:=zh_ hb (hHeld.2.2.2.2.2.2.2.2.2.2.2.2.2.2.2.2.1)
      have HS17_:=zh_ hb (hHeld.2.2.2.2.2.2.2.2.2.2.2.2.2.2.2.2.2.1)
      have HS18_:=zh_ hb (hHeld.2.2.2.2.2.2.2.2.2.2.2.2.2.2.2.2.2.2.1)
      have HS19_:=zh_ hb (hHeld.2.2.2.2.2.2.2.2.2.2.2.2.2.2.2.2.2.2.2)
      refine ⟨_,rfl, ?_⟩
      replace HO_3:=am_ (Kd.R_below (zr_ HO_3) hb)
      replace HO_4:=am_ (Kd.R_below (zr_ HO_4) hb)
      replace HB:=am_ (below_step (zl0_ HB) hb)
      (try clear hb)
      (try clear hb2)
      (try clear hk)
      (try clear hi)
      refine hK.out _ _ ⟨HS0_,HS1_,HS2_,HS3_,HS4_,HS5_,HS6_,HS7_,HS8_,HS9_,HS10_,HS11_,HS12_,HS13_,HS14_,HS15_,HS16_,HS17_,HS18_,HS19_⟩ (fun hHeld=> ?_)
      clear hK K
      refine no_ (N:=some 95) ?_
      refine pu_ (i:=19) (N:=some 97) (bt_ 48 1048575) HT_ ?_
      refine pu_ (i:=20) (N:=some 98) (bt_ 48 2097151) HT_ ?_
      refine pu_ (i:=21) (N:=some 99) (bt_ 48 4194303) HT_ ?_
      refine pu_ (i:=22) (N:=some 100) (bt_ 48 8388607) HT_ ?_
      refine pu_ (i:=23) (N:=some 101) (bt_ 48 16777215) HT_ ?_
      refine pu_ (i:=24) (N:=some 102) (bt_ 48 33554431) HT_ ?_
      refine pu_ (i:=25) (N:=some 103) (bt_ 48 67108863) HT_ ?_
      refine pu_ (i:=26) (N:=some 104) (bt_ 48 134217727) HT_ ?_
      refine pu_ (i:=29) (N:=some 107) (bt_ 48 671088639) HT_ ?_
      refine tk_ (i:=27) (N:=some 105) (bt_ 48 805306367) HT_ HW_ hHeld ?_
      refine on_ (i:=28) (N:=some 106) (bt_ 48 1073741823) HT_ (fun K hK=> ?_)
      refine goes_ Try.func27 (by kernel_rfl) rfl #[.slice Ao9 t2.length co9, .string ((rd_T39 t5 (ji44)).f0)] (by rfl) rfl rfl (by (try simp only [List.map_toArray,List.map_cons,List.map_nil]);first|done|(simp only [hji44];rfl)|rfl|(simp only [List.length_drop,List.length_take];rfl)) ?_
      with_reducible refine (want_Depth.calls _ _ t2 ((rd_T39 t5 (ji44)).f0) t19 _ ?side1 ?side2 A52.out).mono ?_
      (case side1=>exact zc_ (Kd.R_reads' HO_3.out).2.2)
      (case side2=>exact (Kd.R_reads' HO_3.out).2.1)
      rintro e w62 ⟨rfl,hb⟩
      have HS0_:=zh_ hb (hHeld.1)
      have HS1_:=zh_ hb (hHeld.2.1)
      have HS2_:=zh_ hb (hHeld.2.2.1)
      have HS3_:=zh_ hb (hHeld.2.2.2.1)
      have HS4_:=zh_ hb (hHeld.2.2.2.2.1)
      have HS5_:=zh_ hb (hHeld.2.2.2.2.2.1)
      have HS6_:=zh_ hb (hHeld.2.2.2.2.2.2.1)
      have HS7_:=zh_ hb (hHeld.2.2.2.2.2.2.2.1)
      have HS8_:=zh_ hb (hHeld.2.2.2.2.2.2.2.2.1)
      have HS9_:=zh_ hb (hHeld.2.2.2.2.2.2.2.2.2.1)
      have HS10_:=zh_ hb (hHeld.2.2.2.2.2.2.2.2.2.2.1)
      have HS11_:=zh_ hb (hHeld.2.2.2.2.2.2.2.2.2.2.2.1)
      have HS12_:=zh_ hb (hHeld.2.2.2.2.2.2.2.2.2.2.2.2.1)
      have HS13_:=zh_ hb (hHeld.2.2.2.2.2.2.2.2.2.2.2.2.2.1)
      have HS14_:=zh_ hb (hHeld.2.2.2.2.2.2.2.2.2.2.2.2.2.2.1)
      have HS15_:=zh_ hb (hHeld.2.2.2.2.2.2.2.2.2.2.2.2.2.2.2.1)
      have HS16_:=zh_ hb (hHeld.2.2.2.2.2.2.2.2.2.2.2.2.2.2.2.2.1)
      have HS17_:=zh_ hb (hHeld.2.2.2.2.2.2.2.2.2.2.2.2.2.2.2.2.2.1)
      have HS18_:=zh_ hb (hHeld.2.2.2.2.2.2.2.2.2.2.2.2.2.2.2.2.2.2.1)
      have HS19_:=zh_ hb (hHeld.2.2.2.2.2.2.2.2.2.2.2.2.2.2.2.2.2.2.2)
      refine ⟨_,rfl, ?_⟩
      replace HO_3:=am_ (Kd.R_below (zr_ HO_3) hb)
      replace HO_4:=am_ (Kd.R_below (zr_ HO_4) hb)
      replace HB:=am_ (below_step (zl0_ HB) hb)
      (try clear hb)
      (try clear hb2)
      (try clear hk)
      (try clear hi)
      refine hK.out _ _ ⟨HS0_,HS1_,HS2_,HS3_,HS4_,HS5_,HS6_,HS7_,HS8_,HS9_,HS10_,HS11_,HS12_,HS13_,HS14_,HS15_,HS16_,HS17_,HS18_,HS19_⟩ (fun hHeld=> ?_)
      clear hK K
      refine no_ (N:=some 106) ?_
      refine pu_ (i:=30) (N:=some 108) (bt_ 48 2147483647) HT_ ?_
      refine pu_ (i:=31) (N:=some 109) (bt_ 48 4294967295) HT_ ?_
      refine pu_ (i:=32) (N:=some 110) (bt_ 48 8589934591) HT_ ?_
      refine pu_ (i:=33) (N:=some 111) (bt_ 48 17179869183) HT_ ?_
      refine pu_ (i:=34) (N:=some 112) (bt_ 48 34359738367) HT_ ?_
      refine pu_ (i:=35) (N:=some 113) (bt_ 48 68719476735) HT_ ?_
      refine pu_ (i:=36) (N:=some 114) (bt_ 48 137438953471) HT_ ?_
      refine pu_ (i:=38) (N:=some 116) (bt_ 48 412316860415) HT_ ?_
      refine pu_ (i:=39) (N:=some 117) (bt_ 48 962072674303) HT_ ?_
      refine pu_ (i:=40) (N:=some 118) (bt_ 48 2061584302079) HT_ ?_
      refine pu_ (i:=41) (N:=some 119) (bt_ 48 4260607557631) HT_ ?_
      refine tk_ (i:=37) (N:=some 115) (bt_ 48 4398046511103) HT_ HW_ hHeld ?_
      refine tk_ (i:=42) (N:=some 120) (bt_ 48 8796093022207) HT_ HW_ hHeld ?_
      refine pu_ (i:=43) (N:=some 121) (bt_ 48 17592186044415) HT_ ?_
      refine pu_ (i:=44) (N:=some 122) (bt_ 48 35184372088831) HT_ ?_
      refine pu_ (i:=45) (N:=some 123) (bt_ 48 70368744177663) HT_ ?_
      refine pu_ (i:=46) (N:=some 124) (bt_ 48 140737488355327) HT_ ?_
      refine pu_ (i:=47) (N:=some 125) (bt_ 48 281474976710655) HT_ ?_
      refine done_ (done_of HT_.out (by kernel_rfl)) ?_
      try go_wp2
      go_ret
      exact ⟨by first|rfl|(simp [errW_none,errW_some]<;>rfl)|(simp only [←hji44];first|rfl|(simp [errW_none,errW_some]<;>rfl))|(simp [*,errW_none,errW_some]<;>rfl),zl0_ HB⟩
     rw [if_pos c54] at H
     have c54b0:(Op.bytesLess (((rd_T39 t5 (ji44)).f0).toList) (((rd_T39 t5 x5_1).f0).toList))=true:=c54
     clear c54
     have H':=Aside0.mk H
     clear H
     have p16:0≤(x5_1:Int):=of_decide_eq_true zq_
     have q16:x5_1<(t5.length:Int):=of_decide_eq_true zq_
     obtain ⟨ad16,e16,hx16_0,hx16_1,hx16_2,hx16_3,hx16_4⟩:=at_T39 (Kd.R_reads' HO_4.out).2.2 x5_1 p16 q16
     obtain rfl:ad9=ad16:=(by injection e16)
     replace p16:=eq_true p16
     replace q16:=eq_true q16
     try go_wp2_with (first|((with_reducible refine gate_callee (f:=27) rfl ?_);refine gl_ (some 77) Try.func27 #[.slice Ao9 t2.length co9, .string ((rd_T39 t5 x5_1).f0)] ?_;(with_reducible refine (want_Depth.calls _ _ t2 ((rd_T39 t5 x5_1).f0) t17 _ ?side1 ?side2 A40.out).mono ?_);(case side1=>exact zc_ (Kd.R_reads' HO_3.out).2.2);(case side2=>exact (Kd.R_reads' HO_3.out).2.1);rintro e w55 ⟨rfl,hb⟩;refine ⟨_,rfl, ?_⟩;replace HO_3:=am_ (Kd.R_below (zr_ HO_3) hb);replace HO_4:=am_ (Kd.R_below (zr_ HO_4) hb);replace HB:=am_ (below_step (zl0_ HB) hb);(try clear hb);(try clear hb2);(try clear hk);(try clear hi)))
     replace HO_3:=am_ (Kd.R_drew HO_3.out)
     replace HO_4:=am_ (Kd.R_drew HO_4.out)
     replace HB:=am_ (below_drew1 HB.out)
     have p18:0≤((ji44):Int):=of_decide_eq_true zq_
     have q18:(ji44)<(t5.length:Int):=of_decide_eq_true zq_
     obtain ⟨ad18,e18,hx18_0,hx18_1,hx18_2,hx18_3,hx18_4⟩:=at_T39 (Kd.R_reads' HO_4.out).2.2 (ji44) p18 q18
     obtain rfl:ad9=ad18:=(by injection e18)
     replace p18:=eq_true p18
     replace q18:=eq_true q18
     have p20:0≤((ji44):Int):=of_decide_eq_true zq_
     have q20:(ji44)<(t5.length:Int):=of_decide_eq_true zq_
     obtain ⟨ad20,e20,hx20_0,hx20_1,hx20_2,hx20_3,hx20_4⟩:=at_T39 (Kd.R_reads' HO_4.out).2.2 (ji44) p20 q20
     obtain rfl:ad9=ad20:=(by injection e20)
     replace p20:=eq_true p20
     replace q20:=eq_true q20
     have p22:0≤((ji44):Int):=of_decide_eq_true zq_
     have q22:(ji44)<(t5.length:Int):=of_decide_eq_true zq_
     obtain ⟨ad22,e22,hx22_0,hx22_1,hx22_2,hx22_3,hx22_4⟩:=at_T39 (Kd.R_reads' HO_4.out).2.2 (ji44) p22 q22
     obtain rfl:ad9=ad22:=(by injection e22)
     replace p22:=eq_true p22
     replace q22:=eq_true q22
     have p23:0≤(x5_1:Int):=of_decide_eq_true zq_
     have q23:x5_1<(t5.length:Int):=of_decide_eq_true zq_
     obtain ⟨ad23,e23,hx23_0,hx23_1,hx23_2,hx23_3,hx23_4⟩:=at_T39 (Kd.R_reads' HO_4.out).2.2 x5_1 p23 q23
     obtain rfl:ad9=ad23:=(by injection e23)
     replace p23:=eq_true p23
     replace q23:=eq_true q23
     refine start_ (n:=48) (S:=fun w'=>w'.cell? (ad9.add (((ji44)).toNat*5))=some (.string ((rd_T39 t5 (ji44)).f0))∧w'.cell? ⟨(ad9.add (((ji44)).toNat*5)).block,(ad9.add (((ji44)).toNat*5)).off+1,none⟩=some (.string ((rd_T39 t5 (ji44)).f1))∧w'.cell? ⟨(ad9.add (((ji44)).toNat*5)).block,(ad9.add (((ji44)).toNat*5)).off+2,none⟩=some (.int .i64 ((rd_T39 t5 (ji44)).f2.f0))∧w'.cell? ⟨(ad9.add (((ji44)).toNat*5)).block,(ad9.add (((ji44)).toNat*5)).off+3,none⟩=some (.int .i64 ((rd_T39 t5 (ji44)).f2.f1))∧w'.cell? ⟨(ad9.add (((ji44)).toNat*5)).block,(ad9.add (((ji44)).toNat*5)).off+4,none⟩=some (.int .i64 ((rd_T39 t5 (ji44)).f2.f2))∧w'.cell? (ad9.add (((ji44)).toNat*5))=some (.string ((rd_T39 t5 (ji44)).f0))∧w'.cell? ⟨(ad9.add (((ji44)).toNat*5)).block,(ad9.add (((ji44)).toNat*5)).off+1,none⟩=some (.string ((rd_T39 t5 (ji44)).f1))∧w'.cell? ⟨(ad9.add (((ji44)).toNat*5)).block,(ad9.add (((ji44)).toNat*5)).off+2,none⟩=some (.int .i64 ((rd_T39 t5 (ji44)).f2.f0))∧w'.cell? ⟨(ad9.add (((ji44)).toNat*5)).block,(ad9.add (((ji44)).toNat*5)).off+3,none⟩=some (.int .i64 ((rd_T39 t5 (ji44)).f2.f1))∧w'.cell? ⟨(ad9.add (((ji44)).toNat*5)).block,(ad9.add (((ji44)).toNat*5)).off+4,none⟩=some (.int .i64 ((rd_T39 t5 (ji44)).f2.f2))∧w'.cell? (ad9.add (((ji44)).toNat*5))=some (.string ((rd_T39 t5 (ji44)).f0))∧w'.cell? ⟨(ad9.add (((ji44)).toNat*5)).block,(ad9.add (((ji44)).toNat*5)).off+1,none⟩=some (.string ((rd_T39 t5 (ji44)).f1))∧w'.cell? ⟨(ad9.add (((ji44)).toNat*5)).block,(ad9.add (((ji44)).toNat*5)).off+2,none⟩=some (.int .i64 ((rd_T39 t5 (ji44)).f2.f0))∧w'.cell? ⟨(ad9.add (((ji44)).toNat*5)).block,(ad9.add (((ji44)).toNat*5)).off+3,none⟩=some (.int .i64 ((rd_T39 t5 (ji44)).f2.f1))∧w'.cell? ⟨(ad9.add (((ji44)).toNat*5)).block,(ad9.add (((ji44)).toNat*5)).off+4,none⟩=some (.int .i64 ((rd_T39 t5 (ji44)).f2.f2))∧w'.cell? (ad9.add ((x5_1).toNat*5))=some (.string ((rd_T39 t5 x5_1).f0))∧w'.cell? ⟨(ad9.add ((x5_1).toNat*5)).block,(ad9.add ((x5_1).toNat*5)).off+1,none⟩=some (.string ((rd_T39 t5 x5_1).f1))∧w'.cell? ⟨(ad9.add ((x5_1).toNat*5)).block,(ad9.add ((x5_1).toNat*5)).off+2,none⟩=some (.int .i64 ((rd_T39 t5 x5_1).f2.f0))∧w'.cell? ⟨(ad9.add ((x5_1).toNat*5)).block,(ad9.add ((x5_1).toNat*5)).off+3,none⟩=some (.int .i64 ((rd_T39 t5 x5_1).f2.f1))∧w'.cell? ⟨(ad9.add ((x5_1).toNat*5)).block,(ad9.add ((x5_1).toNat*5)).off+4,none⟩=some (.int .i64 ((rd_T39 t5 x5_1).f2.f2))) (ds:=[]) (bt_ 48 0) (by kernel_rfl) rfl rfl ⟨hx18_0,hx18_1,hx18_2,hx18_3,hx18_4,hx20_0,hx20_1,hx20_2,hx20_3,hx20_4,hx22_0,hx22_1,hx22_2,hx22_3,hx22_4,hx23_0,hx23_1,hx23_2,hx23_3,hx23_4⟩ (fun hHeld=> ?_);refine with_tabW law11_WantTop.tab18 law11_WantTop.bits18 (fun HT_ HW_=> ?_)
     generalize w55.drew=w56 at HO_3 HO_4 HB hx18_0 hx18_1 hx18_2 hx18_3 hx18_4 hx20_0 hx20_1 hx20_2 hx20_3 hx20_4 hx22_0 hx22_1 hx22_2 hx22_3 hx22_4 hx23_0 hx23_1 hx23_2 hx23_3 hx23_4 hHeld ⊢
     refine pu_ (i:=0) (N:=some 78) (bt_ 48 1) HT_ ?_
     refine pu_ (i:=1) (N:=some 79) (bt_ 48 3) HT_ ?_
     refine pu_ (i:=2) (N:=some 80) (bt_ 48 7) HT_ ?_
     refine pu_ (i:=3) (N:=some 81) (bt_ 48 15) HT_ ?_
     refine pu_ (i:=4) (N:=some 82) (bt_ 48 31) HT_ ?_
     refine pu_ (i:=5) (N:=some 83) (bt_ 48 63) HT_ ?_
     refine pu_ (i:=6) (N:=some 84) (bt_ 48 127) HT_ ?_
     refine pu_ (i:=7) (N:=some 85) (bt_ 48 255) HT_ ?_
     refine pu_ (i:=8) (N:=some 86) (bt_ 48 511) HT_ ?_
     refine pu_ (i:=9) (N:=some 87) (bt_ 48 1023) HT_ ?_
     refine pu_ (i:=10) (N:=some 88) (bt_ 48 2047) HT_ ?_
     refine pu_ (i:=11) (N:=some 89) (bt_ 48 4095) HT_ ?_
     refine pu_ (i:=12) (N:=some 90) (bt_ 48 8191) HT_ ?_
     refine pu_ (i:=13) (N:=some 91) (bt_ 48 16383) HT_ ?_
     refine pu_ (i:=14) (N:=some 92) (bt_ 48 32767) HT_ ?_
     refine pu_ (i:=15) (N:=some 93) (bt_ 48 65535) HT_ ?_
     refine pu_ (i:=18) (N:=some 96) (bt_ 48 327679) HT_ ?_
     refine tk_ (i:=16) (N:=some 94) (bt_ 48 393215) HT_ HW_ hHeld ?_
     refine on_ (i:=17) (N:=some 95) (bt_ 48 524287) HT_ (fun K hK=> ?_)
     refine goes_ Try.func27 (by kernel_rfl) rfl #[.slice Ao9 t2.length co9, .string ((rd_T39 t5 (ji44)).f0)] (by rfl) rfl rfl (by (try simp only [List.map_toArray,List.map_cons,List.map_nil]);first|done|(simp only [hji44];rfl)|rfl|(simp only [List.length_drop,List.length_take];rfl)) ?_
     with_reducible refine (want_Depth.calls _ _ t2 ((rd_T39 t5 (ji44)).f0) t19 _ ?side1 ?side2 A47.out).mono ?_
     (case side1=>exact zc_ (Kd.R_reads' HO_3.out).2.2)
     (case side2=>exact (Kd.R_reads' HO_3.out).2.1)
     rintro e w57 ⟨rfl,hb⟩
     have HS0_:=zh_ hb (hHeld.1)
     have HS1_:=zh_ hb (hHeld.2.1)
     have HS2_:=zh_ hb (hHeld.2.2.1)
     have HS3_:=zh_ hb (hHeld.2.2.2.1)
     have HS4_:=zh_ hb (hHeld.2.2.2.2.1)
     have HS5_:=zh_ hb (hHeld.2.2.2.2.2.1)
     have HS6_:=zh_ hb (hHeld.2.2.2.2.2.2.1)
     have HS7_:=zh_ hb (hHeld.2.2.2.2.2.2.2.1)
     have HS8_:=zh_ hb (hHeld.2.2.2.2.2.2.2.2.1)
     have HS9_:=zh_ hb (hHeld.2.2.2.2.2.2.2.2.2.1)
     have HS10_:=zh_ hb (hHeld.2.2.2.2.2.2.2.2.2.2.1)
     have HS11_:=zh_ hb (hHeld.2.2.2.2.2.2.2.2.2.2.2.1)
     have HS12_:=zh_ hb (hHeld.2.2.2.2.2.2.2.2.2.2.2.2.1)
     have HS13_:=zh_ hb (hHeld.2.2.2.2.2.2.2.2.2.2.2.2.2.1)
     have HS14_:=zh_ hb (hHeld.2.2.2.2.2.2.2.2.2.2.2.2.2.2.1)
     have HS15_:=zh_ hb (hHeld.2.2.2.2.2.2.2.2.2.2.2.2.2.2.2.1)
     have HS16_:=zh_ hb (hHeld.2.2.2.2.2.2.2.2.2.2.2.2.2.2.2.2.1)
     have HS17_:=zh_ hb (hHeld.2.2.2.2.2.2.2.2.2.2.2.2.2.2.2.2.2.1)
     have HS18_:=zh_ hb (hHeld.2.2.2.2.2.2.2.2.2.2.2.2.2.2.2.2.2.2.1)
     have HS19_:=zh_ hb (hHeld.2.2.2.2.2.2.2.2.2.2.2.2.2.2.2.2.2.2.2)
     refine ⟨_,rfl, ?_⟩
     replace HO_3:=am_ (Kd.R_below (zr_ HO_3) hb)
     replace HO_4:=am_ (Kd.R_below (zr_ HO_4) hb)
     replace HB:=am_ (below_step (zl0_ HB) hb)
     (try clear hb)
     (try clear hb2)
     (try clear hk)
     (try clear hi)
     refine hK.out _ _ ⟨HS0_,HS1_,HS2_,HS3_,HS4_,HS5_,HS6_,HS7_,HS8_,HS9_,HS10_,HS11_,HS12_,HS13_,HS14_,HS15_,HS16_,HS17_,HS18_,HS19_⟩ (fun hHeld=> ?_)
     clear hK K
     refine no_ (N:=some 95) ?_
     refine pu_ (i:=19) (N:=some 97) (bt_ 48 1048575) HT_ ?_
     refine pu_ (i:=20) (N:=some 98) (bt_ 48 2097151) HT_ ?_
     refine pu_ (i:=21) (N:=some 99) (bt_ 48 4194303) HT_ ?_
     refine pu_ (i:=22) (N:=some 100) (bt_ 48 8388607) HT_ ?_
     refine pu_ (i:=23) (N:=some 101) (bt_ 48 16777215) HT_ ?_
     refine pu_ (i:=24) (N:=some 102) (bt_ 48 33554431) HT_ ?_
     refine pu_ (i:=25) (N:=some 103) (bt_ 48 67108863) HT_ ?_
     refine pu_ (i:=26) (N:=some 104) (bt_ 48 134217727) HT_ ?_
     refine pu_ (i:=29) (N:=some 107) (bt_ 48 671088639) HT_ ?_
     refine tk_ (i:=27) (N:=some 105) (bt_ 48 805306367) HT_ HW_ hHeld ?_
     refine on_ (i:=28) (N:=some 106) (bt_ 48 1073741823) HT_ (fun K hK=> ?_)
     refine goes_ Try.func27 (by kernel_rfl) rfl #[.slice Ao9 t2.length co9, .string ((rd_T39 t5 (ji44)).f0)] (by rfl) rfl rfl (by (try simp only [List.map_toArray,List.map_cons,List.map_nil]);first|done|(simp only [hji44];rfl)|rfl|(simp only [List.length_drop,List.length_take];rfl)) ?_
     with_reducible refine (want_Depth.calls _ _ t2 ((rd_T39 t5 (ji44)).f0) t19 _ ?side1 ?side2 A52.out).mono ?_
     (case side1=>exact zc_ (Kd.R_reads' HO_3.out).2.2)
     (case side2=>exact (Kd.R_reads' HO_3.out).2.1)
     rintro e w58 ⟨rfl,hb⟩
     have HS0_:=zh_ hb (hHeld.1)
     have HS1_:=zh_ hb (hHeld.2.1)
     have HS2_:=zh_ hb (hHeld.2.2.1)
     have HS3_:=zh_ hb (hHeld.2.2.2.1)
     have HS4_:=zh_ hb (hHeld.2.2.2.2.1)
     have HS5_:=zh_ hb (hHeld.2.2.2.2.2.1)
     have HS6_:=zh_ hb (hHeld.2.2.2.2.2.2.1)
     have HS7_:=zh_ hb (hHeld.2.2.2.2.2.2.2.1)
     have HS8_:=zh_ hb (hHeld.2.2.2.2.2.2.2.2.1)
     have HS9_:=zh_ hb (hHeld.2.2.2.2.2.2.2.2.2.1)
     have HS10_:=zh_ hb (hHeld.2.2.2.2.2.2.2.2.2.2.1)
     have HS11_:=zh_ hb (hHeld.2.2.2.2.2.2.2.2.2.2.2.1)
     have HS12_:=zh_ hb (hHeld.2.2.2.2.2.2.2.2.2.2.2.2.1)
     have HS13_:=zh_ hb (hHeld.2.2.2.2.2.2.2.2.2.2.2.2.2.1)
     have HS14_:=zh_ hb (hHeld.2.2.2.2.2.2.2.2.2.2.2.2.2.2.1)
     have HS15_:=zh_ hb (hHeld.2.2.2.2.2.2.2.2.2.2.2.2.2.2.2.1)
     have HS16_:=zh_ hb (hHeld.2.2.2.2.2.2.2.2.2.2.2.2.2.2.2.2.1)
     have HS17_:=zh_ hb (hHeld.2.2.2.2.2.2.2.2.2.2.2.2.2.2.2.2.2.1)
     have HS18_:=zh_ hb (hHeld.2.2.2.2.2.2.2.2.2.2.2.2.2.2.2.2.2.2.1)
     have HS19_:=zh_ hb (hHeld.2.2.2.2.2.2.2.2.2.2.2.2.2.2.2.2.2.2.2)
     refine ⟨_,rfl, ?_⟩
     replace HO_3:=am_ (Kd.R_below (zr_ HO_3) hb)
     replace HO_4:=am_ (Kd.R_below (zr_ HO_4) hb)
     replace HB:=am_ (below_step (zl0_ HB) hb)
     (try clear hb)
     (try clear hb2)
     (try clear hk)
     (try clear hi)
     refine hK.out _ _ ⟨HS0_,HS1_,HS2_,HS3_,HS4_,HS5_,HS6_,HS7_,HS8_,HS9_,HS10_,HS11_,HS12_,HS13_,HS14_,HS15_,HS16_,HS17_,HS18_,HS19_⟩ (fun hHeld=> ?_)
     clear hK K
     refine no_ (N:=some 106) ?_
     refine pu_ (i:=30) (N:=some 108) (bt_ 48 2147483647) HT_ ?_
     refine pu_ (i:=31) (N:=some 109) (bt_ 48 4294967295) HT_ ?_
     refine pu_ (i:=32) (N:=some 110) (bt_ 48 8589934591) HT_ ?_
     refine pu_ (i:=33) (N:=some 111) (bt_ 48 17179869183) HT_ ?_
     refine pu_ (i:=34) (N:=some 112) (bt_ 48 34359738367) HT_ ?_
     refine pu_ (i:=35) (N:=some 113) (bt_ 48 68719476735) HT_ ?_
     refine pu_ (i:=36) (N:=some 114) (bt_ 48 137438953471) HT_ ?_
     refine pu_ (i:=38) (N:=some 116) (bt_ 48 412316860415) HT_ ?_
     refine pu_ (i:=39) (N:=some 117) (bt_ 48 962072674303) HT_ ?_
     refine pu_ (i:=40) (N:=some 118) (bt_ 48 2061584302079) HT_ ?_
     refine pu_ (i:=41) (N:=some 119) (bt_ 48 4260607557631) HT_ ?_
     refine tk_ (i:=37) (N:=some 115) (bt_ 48 4398046511103) HT_ HW_ hHeld ?_
     refine tk_ (i:=42) (N:=some 120) (bt_ 48 8796093022207) HT_ HW_ hHeld ?_
     refine pu_ (i:=43) (N:=some 121) (bt_ 48 17592186044415) HT_ ?_
     refine pu_ (i:=44) (N:=some 122) (bt_ 48 35184372088831) HT_ ?_
     refine pu_ (i:=45) (N:=some 123) (bt_ 48 70368744177663) HT_ ?_
     refine pu_ (i:=46) (N:=some 124) (bt_ 48 140737488355327) HT_ ?_
     refine pu_ (i:=47) (N:=some 125) (bt_ 48 281474976710655) HT_ ?_
     refine done_ (done_of HT_.out (by kernel_rfl)) ?_
     try go_wp2
     go_roundg k2
     case measure=>have:=HK1.out;have:=HK2.out;omega
     case rel=>exact ⟨(wrap64 (x5_1+1)),(by first|rfl|(simp;done)|(simp [*];done)),H',⟨by have:=HK1.out;have:=HK2.out;omega⟩,⟨by (with_reducible repeat (first|apply Kd.R_alloc|apply Kd.R_drewN|apply Kd.R_drew));exact HO_3.out⟩,⟨by (with_reducible repeat (first|apply Kd.R_alloc|apply Kd.R_drewN|apply Kd.R_drew));exact HO_4.out⟩,⟨zl0_ HB⟩⟩
noncomputable def law11_WantTop.Pure:Prop:= ∀(l0:List Int),l0.length≤maxLen→l0.length*1≤140737488351232→(∀x∈l0,(Lit.int .u8 x).wf=true)→ ∃k,law11_WantTop.f k l0=some true
theorem law11_WantTop.walk (P:law11_WantTop.Pure) (a0:Option Addr) (len0 cap0:Nat) (z0:List Int) (w:World) (w0:(a0=none∧len0=0∧cap0=0∧z0=[])∨ ∃x,a0=some x∧len0≤cap0∧cap0≤maxLen∧z0.length=cap0∧(∀i,i<z0.length→w.cell? (x.add i)=some (.int .u8 (z0.getD i 0)))∧ ∀n∈z0,(Lit.int .u8 n).wf=true) (y0:len0*1≤140737488351232):
  Calls Try.prog 5 #[.slice a0 len0 cap0] w fun e w'=>e= .returned (.bool true)∧Below w.heap.size w w':=by
 obtain ⟨l0,rfl,hr0,hm0,hw0,hc0⟩:=ReadsInt.ofRowC w0
 obtain ⟨k,h⟩:=P l0 hm0 y0 hw0
 refine (law11_WantTop.calls k _ _ l0 true w (Kd.C_of_reads (d:=(0:Int)) (h1:=fun _=>rfl) hr0) hc0 h).mono ?_
 rintro e w' ⟨rfl,hd⟩
 exact ⟨rfl,hd⟩

end Go.Proofs.Ytahidkjncljkaaa.Print

namespace Go.Proofs.Ytahidkjncljkaaa.Print
open Go.RowKit Go.Proofs.YtahidkjncljkaaaW.PrintWords Go.Proofs.YtahidkjncljkaaaW.PrintLast
theorem wplace_eq (l:List Want) (n:ByteArray):wplace l n=wfnd l n:=rfl
theorem wmay_eq (w:Want):wmay w=mayW w:=by
 unfold wmay mayW
 rw [Bool.eq_iff_iff,decide_eq_true_iff,decide_eq_true_iff,and_assoc]
theorem wfnd_at {pre ws:List Want} {w:Want}:wfnd (pre++w::ws) w.f0=pre.length↔lookW pre w.f0=none:=by
  obtain ⟨x,hx⟩: ∃x,lookW (pre++w::ws) w.f0=some x:=by
    cases h:lookW (pre++w::ws) w.f0 with
    |some x=>exact ⟨x,rfl⟩
    |none=>exact absurd rfl (lookW_none.1 h w (by simp))
  obtain ⟨j,h1,h2,h3,h4,h5⟩:=wfnd_some hx
  rw [h2]
  have hw:(pre++w::ws).getD pre.length zWant=w:=by rw [List.getD_eq_getElem?_getD];simp
  have hj:j≤pre.length:=by
    by_cases c:j≤pre.length
    · exact c
    exact absurd (by rw [hw]) (h5 pre.length (by omega))
  rw [lookW_none]
  constructor
  · intro e y hy q
    obtain ⟨m,hm,rfl⟩:=List.getElem_of_mem hy
    refine h5 m (by omega) ?_
    rw [List.getD_eq_getElem?_getD,List.getElem?_append_left hm,List.getElem?_eq_getElem hm]
    exact q
  intro q
  by_cases c:j=pre.length
  · rw [c]
  have hlt:j<pre.length:=by omega
  refine absurd ?_ (q pre[j] (List.getElem_mem hlt))
  rw [List.getD_eq_getElem?_getD,List.getElem?_append_left hlt,List.getElem?_eq_getElem hlt] at h3
  rw [show pre[j]=x from h3]
  exact h4
theorem wnames_ph1 {l:List Want}: ∀(ws pre:List Want),pre++ws=l→wnames l ws pre.length=ph1 pre ws
  |[],pre,_=>rfl
  | w :: ws, pre, h => by
    unfold wnames ph1
    rw [wmay_eq,wplace_eq]
    by_cases c:mayW w=true
    rotate_left
    · rw [if_neg c,if_neg c]
    rw [if_pos c,if_pos c]
    by_cases d:lookW pre w.f0=none
    · rw [if_pos (by rw [← h]; exact wfnd_at.2 d), if_neg (by rw [d]; simp)]
      have:=wnames_ph1 (l:=l) ws (pre++ [w]) (by rw [←h];simp)
      rwa [List.length_append,List.length_singleton] at this
    rw [if_neg (by rw [←h];exact fun q=>d (wfnd_at.1 q)),if_pos]
    cases e:lookW pre w.f0 with
    |none=>exact absurd e d
    |some _=>rfl
theorem wnames_eq (l:List Want):wnames l l 0=ph1 [] l:=wnames_ph1 l [] rfl
theorem wloose_eq (l:List Want):wloose l=noPar l:=by
 funext w
 unfold wloose noPar
 rw [wplace_eq,Bool.eq_iff_iff]
 simp [wfnd_neg]
structure GoodD (l:List Want) (f:ByteArray→Int):Prop where
 or: ∀n,f n=0∨(0<depR l n∧f n=depR l n)
theorem lookW_self {l:List Want} (hn:(l.map (·.f0)).Nodup) {w:Want} (hw:w∈l):lookW l w.f0=some w:=by
  unfold lookW
  induction l with
  |nil=>cases hw
  | cons x l ih =>
    rw [List.map_cons,List.nodup_cons] at hn
    rw [List.find?_cons]
    by_cases e:x.f0=w.f0
    · rw [decide_eq_true e]
      rcases List.mem_cons.1 hw with rfl|hw
      · rfl
      exact absurd (e▸List.mem_map_of_mem hw) hn.1
    rw [decide_eq_false e]
    rcases List.mem_cons.1 hw with rfl|hw
    · exact absurd rfl e
    exact ih hn.2 hw
theorem depR_up {l:List Want} (hp:ParW l) {w:Want} (hx:lookW l w.f0=some w) (h:w.f1=⟨#[]⟩∨0<depR l w.f1):depR l w.f0=depR l w.f1+1:=by
  have c: ∃us,ChainW l w.f1 us:=by
    by_cases c: ∃us,ChainW l w.f1 us
    · exact c
    rcases h with h|h
    · exact ⟨[],by rw [h];exact chainW_nil hp.root⟩
    rw [depR_none hp (fun us k=>c ⟨us,k⟩)] at h;omega
  obtain ⟨us,c⟩:=c
  rw [depR_chain hp c,depR_chain hp (chainW_cons hx c),List.length_cons]
  omega
theorem small_dep {l:List Want} (hl:l.length≤1000) (hp:ParW l) (n:ByteArray) (h:0<depR l n):wrap64 (depR l n+1)=depR l n+1:=by
 have:=depR_le hp n
 exact w64 (by omega) (by omega)
theorem fstep_at {l:List Want} (hl:l.length≤1000) (hp:ParW l) (hn:(l.map (·.f0)).Nodup) {f:ByteArray→Int} (G:GoodD l f) {w:Want} (hw:w∈l) (n:ByteArray):fstep f w n=f n∨(0<depR l n∧fstep f w n=depR l n):=by
  have hx:=lookW_self hn hw
  unfold fstep
  by_cases e:w.f1=⟨#[]⟩
  · rw [if_pos e]
    unfold updM
    by_cases c:n=w.f0
    rotate_left
    · rw [if_neg c];exact .inl rfl
    rw [if_pos c,c]
    have:=depR_up hp hx (.inl e)
    rw [e,depR_root hp] at this
    exact .inr ⟨by omega,by omega⟩
  rw [if_neg e]
  by_cases d:f w.f1>0
  rotate_left
  · rw [if_neg d];exact .inl rfl
  rw [if_pos d]
  unfold updM
  by_cases c:n=w.f0
  rotate_left
  · rw [if_neg c];exact .inl rfl
  rw [if_pos c,c]
  have g:=G.or w.f1
  have g':0<depR l w.f1∧f w.f1=depR l w.f1:=g.resolve_left (by omega)
  rw [g'.2,small_dep hl hp _ g'.1,depR_up hp hx (.inr g'.1)]
  exact .inr ⟨by omega,rfl⟩
theorem fstep_good {l:List Want} (hl:l.length≤1000) (hp:ParW l) (hn:(l.map (·.f0)).Nodup) {f:ByteArray→Int} (G:GoodD l f) {w:Want} (hw:w∈l):GoodD l (fstep f w):=⟨fun n=>by
  rcases fstep_at hl hp hn G hw n with h|h
  · rw [h];exact G.or n
  exact .inr h⟩
theorem fstep_keep {l:List Want} (hl:l.length≤1000) (hp:ParW l) (hn:(l.map (·.f0)).Nodup) {f:ByteArray→Int} (G:GoodD l f) {w:Want} (hw:w∈l) {n:ByteArray} (h:0<depR l n) (q:f n=depR l n):fstep f w n=depR l n:=by
  rcases fstep_at hl hp hn G hw n with h|h
  · rw [h,q]
  exact h.2
theorem fstep_hit {l:List Want} (hl:l.length≤1000) (hp:ParW l) (hn:(l.map (·.f0)).Nodup) {f:ByteArray→Int} (G:GoodD l f) {w:Want} (hw:w∈l) (h:0<depR l w.f0) (q:0<depR l w.f1→f w.f1=depR l w.f1):fstep f w w.f0=depR l w.f0:=by
  have hx:=lookW_self hn hw
  obtain ⟨h1,h2,h3⟩:=depR_some hp hx h
  unfold fstep
  by_cases e:w.f1=⟨#[]⟩
  · rw [if_pos e]
    unfold updM
    rw [if_pos rfl,h1,e,depR_root hp]
    rfl
  have d:=h3 e
  rw [if_neg e,if_pos (by rw [q d];exact d)]
  unfold updM
  rw [if_pos rfl,q d,small_dep hl hp _ d,h1]
theorem fround_all {l:List Want} (hl:l.length≤1000) (hp:ParW l) (hn:(l.map (·.f0)).Nodup): ∀(ws:List Want) (f:ByteArray→Int),(∀w∈ws,w∈l)→GoodD l f→GoodD l (ws.foldl fstep f)∧(∀n,0<depR l n→f n=depR l n→ws.foldl fstep f n=depR l n)∧
    ∀w∈ws,0<depR l w.f0→(0<depR l w.f1→f w.f1=depR l w.f1)→ws.foldl fstep f w.f0=depR l w.f0
  |[],f,_,G=>⟨G,fun _ _ h=>h,fun w hw=>by cases hw⟩
  | x :: ws, f, hs, G => by
    have hx:=hs x (by simp)
    obtain ⟨a,b,c⟩:=fround_all hl hp hn ws (fstep f x) (fun w hw=>hs w (by simp [hw])) (fstep_good hl hp hn G hx)
    rw [List.foldl_cons]
    refine ⟨a,fun n h q=>b n h (fstep_keep hl hp hn G hx h q),fun w hw h q=> ?_⟩
    rcases List.mem_cons.1 hw with rfl|hw
    · exact b _ h (fstep_hit hl hp hn G hx h q)
    exact c w hw h (fun d=>fstep_keep hl hp hn G hx d (q d))
theorem frounds_all {l:List Want} (hl:l.length≤1000) (hp:ParW l) (hn:(l.map (·.f0)).Nodup): ∀(m r:Nat) (f:ByteArray→Int),GoodD l f→(∀n,0<depR l n→depR l n≤r→f n=depR l n)→GoodD l (frounds l m f)∧ ∀n,0<depR l n→depR l n≤(r+m:Nat)→frounds l m f n=depR l n
  |0,r,f,G,h=>⟨G,h⟩
  | m + 1, r, f, G, h => by
    obtain ⟨a,b,c⟩:=fround_all hl hp hn l f (fun _ h=>h) G
    have k:=frounds_all hl hp hn m (r+1) (fround l f) a (fun n d e=>by
      cases hx:lookW l n with
      |none=>rw [depR_absent hp hx] at d;omega
      | some x =>
        obtain ⟨hm,hf⟩:=lookW_mem hx
        subst hf
        obtain ⟨h1,h2,h3⟩:=depR_some hp hx d
        exact c x hm d (fun d2=>h _ d2 (by omega)))
    refine ⟨k.1,fun n d e=>k.2 n d (by omega)⟩
theorem fillR_eq {l:List Want} (hl:l.length≤1000) (hp:ParW l) (hn:(l.map (·.f0)).Nodup) (n:ByteArray):fillR l n=if 0<depR l n then depR l n else 0:=by
  obtain ⟨a,b⟩:=frounds_all hl hp hn l.length 0 (fun _=>0) ⟨fun _=> .inl rfl⟩ (fun n d e=>by omega)
  show frounds l l.length _ n=_
  by_cases d:0<depR l n
  · rw [if_pos d]
    exact b n d (by have:=depR_le hp n;omega)
  rw [if_neg d]
  rcases a.or n with h|h
  · exact h
  exact absurd h.1 d
theorem sums_l1 {l:List Want} (hl:l.length≤120) (hm: ∀w∈l,MayP w.f2) {i:Nat} (hi:i<l.length) {r:Int} (hr:LeP (sumW l l[i].f0) l[i].f2→Ev (fun k=>want_list_sums.l0 k l (l.length:Int) ((i+1:Nat):Int) l) r) (hb: ¬LeP (sumW l l[i].f0) l[i].f2→r=11):
    ∀ (d j : Nat) (acc : List Vec), l.length - j = d → j ≤ l.length → acc.length ≤ j → UptoV j (⟨(vecByF (fun x y => wrap64 (x + y)) acc 0 0 0).1, (vecByF (fun x y => wrap64 (x + y)) acc 0 0 0).2.1, (vecByF (fun x y => wrap64 (x + y)) acc 0 0 0).2.2⟩ : Vec) → sumGo l[i].f0 (l.drop j) (⟨(vecByF (fun x y => wrap64 (x + y)) acc 0 0 0).1, (vecByF (fun x y => wrap64 (x + y)) acc 0 0 0).2.1, (vecByF (fun x y => wrap64 (x + y)) acc 0 0 0).2.2⟩ : Vec) = sumW l l[i].f0 →
      Ev (fun k=>want_list_sums.l1 k acc l (l.length:Int) (i:Int) l (l.length:Int) (j:Int) l l[i].f0 l[i].f1 l[i].f2.f0 l[i].f2.f1 l[i].f2.f2) r
  | 0, j, acc, hd, hj, ha, hv, hs => by
    rw [List.drop_of_length_le (by omega)] at hs
    unfold sumGo at hs
    refine Ev.step (fun k=>want_list_sums.l1.eq_2 (k:=k) ..) ?_
    refine Ev.congr (fun k=>by rw [if_neg (by omega),show vec_Add.f acc=some (vecByF (fun x y=>wrap64 (x+y)) acc 0 0 0) from rfl,Option.bind_some,vec_Le_eq,Option.bind_some,hs,nx64 hi (by omega)]) ?_
    by_cases c:LeP (sumW l l[i].f0) l[i].f2
    · exact Ev.congr (fun k=>if_pos (decide_eq_true c)) (hr c)
    rw [hb c]
    exact Ev.congr (fun k=>if_neg (by rw [decide_eq_true_iff];exact c)) (Ev.now _)
  | d + 1, j, acc, hd, hj, ha, hv, hs => by
    have hlt:j<l.length:=by omega
    rw [List.drop_eq_getElem_cons hlt] at hs
    unfold sumGo at hs
    refine Ev.step (fun k=>want_list_sums.l1.eq_2 (k:=k) ..) ?_
    rw [rd_wantN l hlt,nx64 hlt (by omega)]
    refine Ev.congr (fun k=>by rw [if_pos (by omega),if_pos (by omega),if_pos (by omega)]) ?_
    by_cases c:l[j].f1=l[i].f0
    rotate_left
    · rw [if_neg c] at hs
      refine Ev.congr (fun k=>if_neg (fun q=>c (nm_inj.1 q))) ?_
      exact sums_l1 hl hm hi hr hb d (j+1) acc (by omega) (by omega) (by omega) (uptoV_succ hv) hs
    rw [if_pos c] at hs
    refine Ev.congr (fun k=>by rw [if_pos (nm_inj.2 c),if_pos (by omega)]) ?_
    have hu:=hm _ (List.getElem_mem hlt)
    have e:(⟨(vecByF (fun x y=>wrap64 (x+y)) (acc++ [(⟨l[j].f2.f0,l[j].f2.f1,l[j].f2.f2⟩:Vec)]) 0 0 0).1,(vecByF (fun x y=>wrap64 (x+y)) (acc++ [(⟨l[j].f2.f0,l[j].f2.f1,l[j].f2.f2⟩:Vec)]) 0 0 0).2.1,(vecByF (fun x y=>wrap64 (x+y)) (acc++ [(⟨l[j].f2.f0,l[j].f2.f1,l[j].f2.f2⟩:Vec)]) 0 0 0).2.2⟩:Vec)=vadd ⟨(vecByF (fun x y=>wrap64 (x+y)) acc 0 0 0).1,(vecByF (fun x y=>wrap64 (x+y)) acc 0 0 0).2.1,(vecByF (fun x y=>wrap64 (x+y)) acc 0 0 0).2.2⟩ l[j].f2:=by
      rw [vecByF_snoc]
      have a:=hv .cpu;have b:=hv .mem;have d:=hv .pods
      have a':=hu .cpu;have b':=hu .mem;have d':=hu .pods
      simp only [Comp.of] at a b d a' b' d'
      have e1:(j:Int)<120:=by omega
      have u1:wrap64 ((vecByF (fun x y=>wrap64 (x+y)) acc 0 0 0).1+l[j].f2.f0)=_:=w64 (by omega) (by omega)
      have u2:wrap64 ((vecByF (fun x y=>wrap64 (x+y)) acc 0 0 0).2.1+l[j].f2.f1)=_:=w64 (by omega) (by omega)
      have u3:wrap64 ((vecByF (fun x y=>wrap64 (x+y)) acc 0 0 0).2.2+l[j].f2.f2)=_:=w64 (by omega) (by omega)
      rw [u1,u2,u3]
      rfl
    refine sums_l1 hl hm hi hr hb d (j+1) _ (by omega) (by omega) (by rw [List.length_append,List.length_singleton];omega) ?_ ?_
    · rw [e];exact uptoV_add hv hu
    rw [e];exact hs
theorem sums_l0 {l:List Want} (hl:l.length≤120) (hm: ∀w∈l,MayP w.f2): ∀(d i:Nat),l.length - i=d→i≤l.length→Ev (fun k=>want_list_sums.l0 k l (l.length:Int) (i:Int) l) (if (l.drop i).any (badSum l)=true then 11 else 0)
  | 0, i, hd, hi => by
    rw [List.drop_of_length_le (by omega)]
    exact Ev.step (fun k=>want_list_sums.l0.eq_2 (k:=k) ..) (Ev.congr (fun k=>if_neg (by omega)) (Ev.now _))
  | d + 1, i, hd, hi => by
    have hlt:i<l.length:=by omega
    have next:=sums_l0 hl hm d (i+1) (by omega) (by omega)
    rw [List.drop_eq_getElem_cons hlt,List.any_cons]
    refine Ev.step (fun k=>want_list_sums.l0.eq_2 (k:=k) ..) ?_
    rw [rd_wantN l hlt]
    refine Ev.congr (fun k=>by rw [if_pos (by omega),if_pos (by omega),if_pos (by omega)]) ?_
    refine sums_l1 hl hm hlt (fun c=> ?_) (fun c=> ?_) l.length 0 [] (by omega) (by omega) (by simp) (fun c=>by cases c<;>exact ⟨Int.le_refl _,by simp [Comp.of,vecByF]⟩) (by rw [List.drop_zero];rfl)
    · rw [show badSum l l[i] = false from by unfold badSum; rw [decide_eq_true c]; rfl, Bool.false_or]
      exact next
    rw [show badSum l l[i]=true from by unfold badSum;rw [decide_eq_false c];rfl,Bool.true_or,if_pos rfl]
theorem want_Check_ev {l:List Want} (hs:smallW l):Ev (fun k=>want_Check.f k l) (checkR l):=by
  classical
  unfold want_Check.f checkR
  by_cases c0:120<l.length
  · rw [if_pos (show l.length > 120 from c0)]
    exact Ev.congr (fun k=>if_pos c0) (Ev.now _)
  refine Ev.congr (fun k=>by rw [if_neg c0,if_pos hs,wnames_eq]) ?_
  rw [if_neg (show¬l.length>120 from c0)]
  by_cases c1:ph1 [] l=0
  rotate_left
  · rw [if_pos c1]
    exact Ev.congr (fun k=>if_neg c1) (Ev.now _)
  rw [if_neg (show¬(ph1 [] l≠0) from fun q=>q c1)]
  refine Ev.congr (fun k=>by rw [if_pos c1,wloose_eq]) ?_
  by_cases c2:l.any (noPar l)=true
  · rw [if_pos c2]
    exact Ev.congr (fun k=>if_pos c2) (Ev.now _)
  rw [if_neg c2]
  refine Ev.congr (fun k=>if_neg c2) ?_
  have hm:=ph1_ok c1
  have hn:(l.map (·.f0)).Nodup:=by
    have:=ph1_nodup c1 (by simp)
    rwa [List.nil_append] at this
  have hp:ParW l:=⟨fun w hw=>(mayW_iff.1 (hm w hw)).1.1,fun w hw e=>by
    have q:=any_false.1 c2 w hw
    unfold noPar at q
    rw [decide_eq_false_iff_not] at q
    cases hx:lookW l w.f1 with
    |none=>exact absurd ⟨e,hx⟩ q
    |some x=>exact ⟨x,rfl⟩⟩
  have ef:l.any (wflat l)=l.any (fun w=>decide (depR l w.f0<1)):=by
    congr 1
    funext w
    unfold wflat
    rw [fillR_eq (by omega) hp hn,Bool.eq_iff_iff,decide_eq_true_iff,decide_eq_true_iff]
    by_cases d:0<depR l w.f0
    · rw [if_pos d];omega
    rw [if_neg d];omega
  rw [ef]
  by_cases c3:l.any (fun w=>decide (depR l w.f0<1))=true
  · rw [if_pos c3]
    exact Ev.congr (fun k=>if_pos c3) (Ev.now _)
  rw [if_neg c3]
  refine Ev.congr (fun k=>if_neg c3) ?_
  have h:=sums_l0 (by omega) (fun w hw=>(mayW_iff.1 (hm w hw)).2) l.length 0 (by omega) (by omega)
  rw [List.drop_zero] at h
  exact h
theorem depR_pos {l:List Want} (h:TreeW l) (n:ByteArray):0≤depR l n:=by
 cases hx:lookW l n with
 |none=>rw [depR_absent h.par hx];omega
 |some x=>obtain ⟨hm,rfl⟩:=lookW_mem hx;have:=h.dep x hm;omega
theorem fillR_tree {l:List Want} (h:TreeW l) (n:ByteArray):fillR l n=depR l n:=by
  rw [fillR_eq (by have:=h.len;omega) h.par h.nodup]
  have:=depR_pos h n
  by_cases d:0<depR l n
  · rw [if_pos d]
  rw [if_neg d];omega
theorem want_Depth_tree {l:List Want} (h:TreeW l) (hs:smallW l) {n:ByteArray} (hn:n.size≤1000000):want_Depth.f l n=some (depR l n):=by
 classical
 unfold want_Depth.f
 rw [if_pos ⟨by have:=h.len;omega,hs,hn⟩,fillR_tree h]
end Go.Proofs.Ytahidkjncljkaaa.Print

namespace Go.Proofs.Ytahidkjncljkaaa.Print
open Go.RowKit Go.Proofs.YtahidkjncljkaaaW.PrintWords Go.Proofs.YtahidkjncljkaaaW.PrintLast Go.Proofs.YtahidkjncljkaaaW.PrintMore
attribute [local go_sem] max2_int min2_int max_two min_two max_three min_three max_four min_four

attribute [local go_sem high] eqA39
end Go.Proofs.Ytahidkjncljkaaa.Print

namespace Go.Proofs.Ytahidkjncljkaaa.Print
open Go.RowKit Go.Proofs.YtahidkjncljkaaaW.PrintWords Go.Proofs.YtahidkjncljkaaaW.PrintLast
theorem bef_fill {l:List Want} (h:TreeW l) {a b:Want}:cmpW (fillR l) a.f0 b.f0<0↔bef l a b=true:=by
 rw [cmpW_neg,fillR_tree h,fillR_tree h,bef_iff]
theorem topIs_topR {l:List Want} (h:TreeW l):TopIs l (topR l):=by
 refine ⟨topR_perm l,(topR_sorted h.nodup).imp fun {a b} q k=> ?_⟩
 rw [bef_fill h] at k
 have:=bef_trans q k
 rw [bef_irrefl] at this
 cases this
theorem topIs_unique {l t:List Want} (h:TreeW l) (k:TopIs l t):t=topR l:=by
 refine top_unique h.nodup k.1 ?_
 have hn:t.Pairwise (fun a b=>a.f0≠b.f0):=by
  have:=(k.1.map (·.f0)).nodup_iff.2 h.nodup
  exact List.pairwise_map.1 this
 refine (k.2.and hn).imp fun {a b} q=> ?_
 have e:bef l b a=false:=by
  rw [←Bool.not_eq_true,←bef_fill h]
  exact q.1
 exact bef_total e (fun e=>q.2 e.symm)
theorem want_Top_tree {l:List Want} (h:TreeW l) (hs:smallW l):want_Top.f l=some (topR l):=by
 classical
 unfold want_Top.f
 have hh:l.length≤1000∧smallW l∧ ∃t,TopIs l t∧ ∀t',TopIs l t'→t'=t:=⟨by have:=h.len;omega,hs,topR l,topIs_topR h,fun t' k=>topIs_unique h k⟩
 rw [dif_pos hh]
 exact congrArg some (topIs_unique h hh.2.2.choose_spec.1)
def exW:List Want:=[⟨⟨#[98]⟩,⟨#[97]⟩,⟨0,0,0⟩⟩,⟨⟨#[97]⟩,⟨#[]⟩,⟨0,0,0⟩⟩]
theorem exW_tree:TreeW exW:=checkR_tree (.inl (by decide))
theorem exW_small:smallW exW:=by
 intro w hw
 unfold exW at hw
 simp only [List.mem_cons,List.not_mem_nil,or_false] at hw
 rcases hw with rfl|rfl<;>exact ⟨by decide,by decide⟩
theorem nil_small:smallW ([]:List Want):=fun w hw=>by cases hw
theorem exW_top:topR exW=[⟨⟨#[97]⟩,⟨#[]⟩,⟨0,0,0⟩⟩,⟨⟨#[98]⟩,⟨#[97]⟩,⟨0,0,0⟩⟩]:=by kernel_rfl
theorem awake11_ev:Ev (fun k=>law11_awake.f k) true:=by
 unfold law11_awake.f
 simp only [Option.bind_some]
 have h1:=(want_Top_tree exW_tree exW_small).trans (congrArg some exW_top)
 have h2:=(want_Depth_tree exW_tree exW_small (n:=⟨#[98]⟩) (by decide)).trans (congrArg some (show depR exW ⟨#[98]⟩=2 from by decide))
 rw [show exW=[⟨⟨#[98]⟩,⟨#[97]⟩,⟨0,0,0⟩⟩,⟨⟨#[97]⟩,⟨#[]⟩,⟨0,0,0⟩⟩] from rfl] at h1 h2
 rw [h1]
 simp only [Option.bind_some]
 refine Ev.bind (want_Check_ev nil_small) ?_
 rw [show checkR []=0 from by decide,show law1_Num.f 0=some 0 from rfl]
 simp only [Option.bind_some]
 rw [h2]
 exact Ev.const (by kernel_rfl)
def upM (p:Nat→Bool):Nat→Bool
 |0=>true
 |n+1=>p n && upM p n
theorem upM_all {p:Nat→Bool}: ∀{n i:Nat},upM p n=true→i<n→p i=true
  | n + 1, i, h, hi => by
    unfold upM at h
    rw [Bool.and_eq_true] at h
    by_cases e:i=n
    · rw [e];exact h.1
    exact upM_all h.2 (by omega)
def nmM (i:Nat):ByteArray:=⟨#[UInt8.ofNat (97+(i*7) % 24)]⟩
theorem nmM_strs:upM (fun i=>decide (strOfNums [(wrap64 (97+(Int.tmod (wrap64 ((i:Int)*7)) 24))) % 256]=nmM i)) 24=true:=by kernel_rfl
theorem nmM_str {i:Nat} (h:i<24):strOfNums [(wrap64 (97+(Int.tmod (wrap64 ((i:Int)*7)) 24))) % 256]=nmM i:=by
 have:=upM_all nmM_strs h
 rwa [decide_eq_true_iff] at this
theorem nmM_injs:upM (fun i=>upM (fun j=>decide (nmM i≠nmM j∨i=j)) 24) 24=true:=by kernel_rfl
theorem nmM_inj {i j:Nat} (hi:i<24) (hj:j<24) (h:nmM i=nmM j):i=j:=by
 have a:upM (fun j=>decide (nmM i≠nmM j∨i=j)) 24=true:=upM_all (p:=fun i=>upM (fun j=>decide (nmM i≠nmM j∨i=j)) 24) nmM_injs hi
 have:=upM_all a hj
 rw [decide_eq_true_iff] at this
 exact this.resolve_left (fun q=>q h)
theorem nmM_ne (i:Nat):nmM i≠⟨#[]⟩:=fun h=>by
 have:=congrArg ByteArray.size h
 cases this
theorem nmM_size (i:Nat):(nmM i).size=1:=rfl
theorem sumGo_snoc (n:ByteArray) (w:Want): ∀(l:List Want) (v:Vec),sumGo n (l++ [w]) v=if w.f1=n then vadd (sumGo n l v) w.f2 else sumGo n l v
  |[],v=>by simp only [List.nil_append,sumGo]
  | x :: l, v => by
    rw [List.cons_append]
    unfold sumGo
    exact sumGo_snoc n w l _
theorem sumGo_zero (n:ByteArray): ∀(l:List Want) (v:Vec),(∀x∈l,x.f1≠n)→sumGo n l v=v
  |[],v,_=>rfl
  | x :: l, v, h => by
    unfold sumGo
    rw [if_neg (h x (by simp))]
    exact sumGo_zero n l v (fun y hy=>h y (by simp [hy]))
structure MkI (c:Bool) (l:List Want) (left:List Int):Prop where
 len:left.length=l.length
 n24:l.length≤24
 nm: ∀(i:Nat) (w:Want),l[i]?=some w→w.f0=nmM i
 par: ∀(i:Nat) (w:Want),l[i]?=some w→w.f1=⟨#[]⟩∨ ∃p,p<i∧w.f1=nmM p
 may: ∀w∈l,MayP w.f2
 lo: ∀(i:Nat) (x:Int),left[i]?=some x→0≤x∧x≤8193
 sum:c=false→ ∀(i:Nat) (w:Want) (x:Int),l[i]?=some w→left[i]?=some x→ ∀o:Comp,o.of (sumW l w.f0)+x≤o.of w.f2
theorem mkI_nil (c:Bool):MkI c [] []:=⟨rfl,Nat.zero_le _,(fun i w h=>by simp at h),(fun i w h=>by simp at h),(fun w h=>by simp at h),(fun i x h=>by simp at h),(fun _ i w x h=>by simp at h)⟩
theorem snoc_get {α:Type} {l:List α} {a w:α} {i:Nat} (h:(l++ [a])[i]?=some w):(l[i]?=some w∧i<l.length)∨(i=l.length∧w=a):=by
  by_cases c:i<l.length
  · rw [List.getElem?_append_left c] at h
    exact .inl ⟨h,c⟩
  rw [List.getElem?_append_right (by omega)] at h
  have hi:i - l.length=0:=by
    have:=(List.getElem?_eq_some_iff.1 h).1
    simp only [List.length_singleton] at this
    omega
  rw [hi] at h
  simp only [List.getElem?_cons_zero,Option.some.injEq] at h
  exact .inr ⟨by omega,h.symm⟩
theorem mk_add {c:Bool} {l:List Want} {left left1:List Int} (I:MkI c l left) (h:l.length<24) {lim b:Int} (hl:0≤lim∧lim≤8193) (hb:b=0∨b=1) {par:ByteArray} (hlen:left1.length=left.length) (hp:par=⟨#[]⟩∨ ∃p,p<l.length∧par=nmM p)
    (hlo: ∀(i:Nat) (x:Int),left1[i]?=some x→0≤x∧x≤8193) (hs:c=false→ ∀(i:Nat) (x1:Int),left1[i]?=some x1→ ∃x,left[i]?=some x∧x1≤x∧(par=nmM i→x1+lim≤x)):MkI c (l++ [⟨nmM l.length,par,⟨lim,lim,lim - lim / 3*b⟩⟩]) (left1++ [lim - lim / 3]) where
  len:=by rw [List.length_append,List.length_append,hlen,I.len];rfl
  n24:=by rw [List.length_append,List.length_singleton];omega
  nm:=fun i w q=>by
    rcases snoc_get q with ⟨q,_⟩|⟨rfl,rfl⟩
    · exact I.nm i w q
    rfl
  par:=fun i w q=>by
    rcases snoc_get q with ⟨q,_⟩|⟨rfl,rfl⟩
    · exact I.par i w q
    exact hp
  may:=fun w q=>by
    rcases List.mem_append.1 q with q|q
    · exact I.may w q
    rw [List.mem_singleton] at q
    subst q
    rw [mayP_iff]
    rcases hb with rfl|rfl<;>omega
  lo:=fun i x q=>by
    rcases snoc_get q with ⟨q,_⟩|⟨rfl,rfl⟩
    · exact hlo i x q
    omega
  sum:=fun hc i w x q1 q2 o=>by
    have e:sumW (l++ [⟨nmM l.length,par,⟨lim,lim,lim - lim / 3*b⟩⟩]) w.f0=if par=w.f0 then vadd (sumW l w.f0) ⟨lim,lim,lim - lim / 3*b⟩ else sumW l w.f0:=sumGo_snoc _ _ _ _
    have hv:o.of (⟨lim,lim,lim - lim / 3*b⟩:Vec)≤lim∧lim - lim / 3≤o.of (⟨lim,lim,lim - lim / 3*b⟩:Vec):=by
      cases o<;>simp only [Comp.of]<;>rcases hb with rfl|rfl<;>omega
    rcases snoc_get q1 with ⟨q1,hi⟩|⟨rfl,rfl⟩
    · rcases snoc_get q2 with ⟨q2, _⟩ | ⟨rfl, _⟩
      rotate_left
      · rw [hlen,I.len] at hi;omega
      obtain ⟨x0,g1,g2,g3⟩:=hs hc i x q2
      have g:=I.sum hc i w x0 q1 g1 o
      rw [e]
      by_cases d:par=w.f0
      rotate_left
      · rw [if_neg d];omega
      have:=g3 (by rw [d];exact I.nm i w q1)
      rw [if_pos d,of_vadd]
      omega
    rcases snoc_get q2 with ⟨q2,hi⟩|⟨_,rfl⟩
    · rw [hlen,I.len] at hi;omega
    have z:sumW l (nmM l.length)=⟨0,0,0⟩:=sumGo_zero _ _ _ (fun y hy=>by
      obtain ⟨i,hi,rfl⟩:=List.getElem_of_mem hy
      rcases I.par i l[i] (List.getElem?_eq_getElem hi) with q|⟨p,hp,q⟩
      · rw [q];exact fun k=>nmM_ne _ k.symm
      rw [q];exact fun k=>by have:=nmM_inj (by omega) (by omega) k;omega)
    have e2: ¬par=nmM l.length:=fun k=>by
      rcases hp with q|⟨p,hp,q⟩
      · rw [q] at k;exact nmM_ne _ k.symm
      rw [q] at k;have:=nmM_inj (by omega) (by omega) k;omega
    rw [e]
    show o.of (if par=nmM l.length then _ else sumW l (nmM l.length))+_≤_
    rw [if_neg e2,z]
    have:o.of (⟨0,0,0⟩:Vec)=0:=by cases o<;>rfl
    show _≤o.of (⟨lim,lim,lim - lim / 3*b⟩:Vec)
    omega
theorem mk_root {c:Bool} {l:List Want} {left:List Int} (I:MkI c l left) (h:l.length<24) {lim b:Int} (hl:0≤lim∧lim≤8193) (hb:b=0∨b=1):MkI c (l++ [⟨nmM l.length,⟨#[]⟩,⟨lim,lim,lim - lim / 3*b⟩⟩]) (left++ [lim - lim / 3]):=
 mk_add I h hl hb rfl (.inl rfl) I.lo (fun _ i x q=>⟨x,q,Int.le_refl _,fun k=>absurd k.symm (nmM_ne i)⟩)
theorem mk_kid {c:Bool} {l:List Want} {left:List Int} (I:MkI c l left) (h:l.length<24) {lim b:Int} (hl:0≤lim∧lim≤8193) (hb:b=0∨b=1) {p:Nat} (hp:p<l.length) {x q:Int} (hx:left[p]?=some x) (hq:0≤q∧q≤x) (hc:c=false→lim=q):
    MkI c (l++ [⟨nmM l.length,nmM p,⟨lim,lim,lim - lim / 3*b⟩⟩]) (left.set p (x - q)++ [lim - lim / 3]):=by
  have hpl:p<left.length:=by rw [I.len];exact hp
  have g:=I.lo p x hx
  refine mk_add I h hl hb (List.length_set ..) (.inr ⟨p,hp,rfl⟩) (fun i y hy=> ?_) (fun hc' i y hy=> ?_)
  · rw [List.getElem?_set] at hy
    by_cases e:p=i
    · rw [if_pos e, if_pos hpl] at hy
      obtain rfl:=Option.some.inj hy
      omega
    rw [if_neg e] at hy
    exact I.lo i y hy
  rw [List.getElem?_set] at hy
  by_cases e:p=i
  · rw [if_pos e, if_pos hpl] at hy
    obtain rfl:=Option.some.inj hy
    subst e
    have:=hc hc'
    exact ⟨x,hx,by omega,fun _=>by omega⟩
  rw [if_neg e] at hy
  refine ⟨y,hy,Int.le_refl _,fun k=> ?_⟩
  have hi:=(List.getElem?_eq_some_iff.1 hy).1
  exact absurd (nmM_inj (by omega) (by rw [I.len] at hi;omega) k) e
theorem mk_look {c:Bool} {l:List Want} {left:List Int} (I:MkI c l left) {i:Nat} {w:Want} (h:l[i]?=some w):lookW l (nmM i)=some w:=by
  obtain ⟨hi,rfl⟩:=List.getElem?_eq_some_iff.1 h
  have hn:=I.nm i _ h
  cases e:lookW l (nmM i) with
  |none=>exact absurd hn (lookW_none.1 e _ (List.getElem_mem hi))
  | some x =>
    obtain ⟨hm,hf⟩:=lookW_mem e
    obtain ⟨j,hj,rfl⟩:=List.getElem_of_mem hm
    have:=I.nm j _ (List.getElem?_eq_getElem hj)
    rw [this] at hf
    have:=nmM_inj (by have:=I.n24;omega) (by have:=I.n24;omega) hf
    subst this
    rfl
theorem mk_parW {c:Bool} {l:List Want} {left:List Int} (I:MkI c l left):ParW l:=by
  refine ⟨fun w hw=> ?_,fun w hw e=> ?_⟩
  · obtain ⟨i, hi, rfl⟩ := List.getElem_of_mem hw
    rw [I.nm i _ (List.getElem?_eq_getElem hi)]
    exact nmM_ne i
  obtain ⟨i,hi,rfl⟩:=List.getElem_of_mem hw
  rcases I.par i _ (List.getElem?_eq_getElem hi) with q|⟨p,hp,q⟩
  · exact absurd q e
  rw [q]
  exact ⟨_,mk_look I (List.getElem?_eq_getElem (show p<l.length by omega))⟩
theorem mk_chain {c:Bool} {l:List Want} {left:List Int} (I:MkI c l left): ∀(n i:Nat) (hi:i<l.length),i<n→ ∃us,ChainW l (nmM i) (nmM i::us)
  | n + 1, i, hi, hn => by
    have hl:=mk_look I (List.getElem?_eq_getElem hi)
    rcases I.par i _ (List.getElem?_eq_getElem hi) with q|⟨p,hp,q⟩
    · exact ⟨[],chainW_cons hl (by rw [q];exact chainW_nil (mk_parW I).root)⟩
    obtain ⟨us,k⟩:=mk_chain I n p (by omega) (by omega)
    exact ⟨_,chainW_cons hl (by rw [q];exact k)⟩
theorem mk_nodup {c:Bool} {l:List Want} {left:List Int} (I:MkI c l left):(l.map (·.f0)).Nodup:=by
 rw [List.nodup_iff_pairwise_ne,List.pairwise_iff_getElem]
 intro i j hi hj hij
 rw [List.length_map] at hi hj
 rw [List.getElem_map,List.getElem_map,I.nm i _ (List.getElem?_eq_getElem hi),I.nm j _ (List.getElem?_eq_getElem hj)]
 have:=I.n24
 exact fun k=>by have:=nmM_inj (by omega) (by omega) k;omega
theorem mk_tree {c:Bool} {l:List Want} {left:List Int} (I:MkI c l left):TreeW l where
 len:=by have:=I.n24;omega
 may:=fun w hw=>mayW_iff.2 ⟨by
  obtain ⟨i,hi,rfl⟩:=List.getElem_of_mem hw
  rw [I.nm i _ (List.getElem?_eq_getElem hi)]
  exact ⟨nmM_ne i,by rw [nmM_size];omega⟩,I.may w hw⟩
 nodup:=mk_nodup I
 par:=mk_parW I
 dep:=fun w hw=>by
  obtain ⟨i,hi,rfl⟩:=List.getElem_of_mem hw
  obtain ⟨us,k⟩:=mk_chain I (i+1) i hi (by omega)
  rw [I.nm i _ (List.getElem?_eq_getElem hi),depR_chain (mk_parW I) k,List.length_cons]
  omega
theorem mk_small {c:Bool} {l:List Want} {left:List Int} (I:MkI c l left):smallW l:=fun w hw=>by
  obtain ⟨i,hi,rfl⟩:=List.getElem_of_mem hw
  refine ⟨?_, ?_⟩
  · rw [I.nm i _ (List.getElem?_eq_getElem hi),nmM_size];omega
  rcases I.par i _ (List.getElem?_eq_getElem hi) with q|⟨p,hp,q⟩
  · rw [q];decide
  rw [q,nmM_size];omega
theorem lims_eq {lim x:Int} (hl:0≤lim∧lim≤8193) (hx:0≤x∧x≤255): ∃b:Int,(b=0∨b=1)∧wrap64 (lim - (wrap64 ((wrap64 (Int.tdiv lim 3))*(wrap64 (Int.tmod x 2)))))=lim - lim / 3*b∧wrap64 (lim - (wrap64 (Int.tdiv lim 3)))=lim - lim / 3:=by
  have e1:Int.tdiv lim 3=lim / 3:=Int.tdiv_eq_ediv_of_nonneg hl.1
  have e2:Int.tmod x 2=x % 2:=Int.tmod_eq_emod_of_nonneg hx.1
  rw [e1,e2,w64 (n:=lim / 3) (by omega) (by omega),w64 (n:=x % 2) (by omega) (by omega),w64 (n:=lim - lim / 3) (by omega) (by omega)]
  refine ⟨x % 2,by omega, ?_,rfl⟩
  rcases (show x % 2=0∨x % 2=1 by omega) with q|q
  · rw [q,Int.mul_zero,w64 (n:=0) (by omega) (by omega),w64 (by omega) (by omega)]
  rw [q,Int.mul_one,w64 (n:=lim / 3) (by omega) (by omega),w64 (by omega) (by omega)]
theorem rd_nat (l:List Int) {i:Nat} (h:i<l.length):rd l (i:Int)=l[i]:=by
 unfold rd
 rw [Int.toNat_natCast,List.getD_eq_getElem?_getD,List.getElem?_eq_getElem h,Option.getD_some]
theorem mkE1:wrap64 ((wrap64 (4096*2))+1)=8193:=by unfold wrap64;rfl
theorem make_go {ns:List Int} {c:Bool} (hns:ns.length≤60) (hb: ∀x∈ns,0≤x∧x≤255): ∀(d j:Nat) (l:List Want) (left:List Int),ns.length - 2*j≤d→2*j≤ns.length+1→MkI c l left→ ∃r left',Ev (fun k=>law11_Make.l0 k ns c l left ((2*j:Nat):Int)) r∧MkI c r left'
  | d, j, l, left, hd, hj, I => by
    have e1:wrap64 (((2*j:Nat):Int)+1)=((2*j+1:Nat):Int):=by rw [w64 (by omega) (by omega)];rfl
    have e3:wrap64 (((2*j:Nat):Int)+2)=((2*(j+1):Nat):Int):=by rw [w64 (by omega) (by omega)];omega
    by_cases h:2*j+1<ns.length∧l.length<24
    rotate_left
    · have stop : Ev (fun k => law11_Make.j1 k ns c l left ((2 * j : Nat) : Int) false) l := Ev.step (fun k => law11_Make.j1.eq_2 (k := k) ..) (Ev.congr (fun k => if_neg (by simp)) (Ev.now _))
      refine ⟨l,left,Ev.step (fun k=>law11_Make.l0.eq_2 (k:=k) ..) ?_,I⟩
      by_cases a:2*j+1<ns.length
      · refine Ev.congr (fun k => ?_) stop
        rw [e1,if_pos (show ((2*j+1:Nat):Int)<(ns.length:Int) by omega),decide_eq_false (show¬(l.length:Int)<24 by omega)]
      refine Ev.congr (fun k=> ?_) stop
      rw [e1,if_neg (show¬((2*j+1:Nat):Int)<(ns.length:Int) by omega)]
    obtain ⟨h1,h24⟩:=h
    match d,hd with
    |0,hd=>omega
    |d+1,hd=>
    have IH:=make_go (c:=c) hns hb d (j+1)
    obtain ⟨x,hx⟩: ∃x,x=ns[2*j]:=⟨_,rfl⟩
    obtain ⟨y,hy⟩: ∃y,y=ns[2*j+1]:=⟨_,rfl⟩
    have bx:=hb x (by rw [hx];exact List.getElem_mem _)
    have by':=hb y (by rw [hy];exact List.getElem_mem _)
    have rx:rd ns ((2*j:Nat):Int)=x:=by rw [rd_nat ns (by omega),hx]
    have ry:rd ns ((2*j+1:Nat):Int)=y:=by rw [rd_nat ns h1,hy]
    have wx:wrap64 x=x:=w64 (by omega) (by omega)
    have hnm:=nmM_str h24
    have hlen:=I.len
    have c1:(0:Int)≤((2*j:Nat):Int):=by omega
    have c2:((2*j:Nat):Int)<(ns.length:Int):=by omega
    have c3:(0:Int)≤((2*j+1:Nat):Int):=by omega
    have c4:((2*j+1:Nat):Int)<(ns.length:Int):=by omega
    have g1:l.length<2513169434916:=by omega
    have g2:left.length<17592186044416:=by omega
    have leaf: ∀(L:Int) (par:ByteArray) (left1:List Int),0≤L∧L≤8193→(∀b:Int,(b=0∨b=1)→MkI c (l++ [⟨nmM l.length,par,⟨L,L,L - L / 3*b⟩⟩]) (left1++ [L - L / 3]))→
        ∃r left',Ev (fun k=>law11_Make.l0 k ns c (l++ [⟨nmM l.length,par,⟨L,L,wrap64 (L - (wrap64 ((wrap64 (Int.tdiv L 3))*(wrap64 (Int.tmod y 2)))))⟩⟩]) (left1++ [wrap64 (L - (wrap64 (Int.tdiv L 3)))]) ((2*(j+1):Nat):Int)) r∧MkI c r left':=fun L par left1 hL k=>by
      obtain ⟨b,hbb,q1,q2⟩:=lims_eq hL by'
      rw [q1,q2]
      exact IH _ _ (by omega) (by omega) (k b hbb)
    have root: ∃r left',Ev (fun k=>law11_Make.j2 k ns c l left ((2*j:Nat):Int) (l.length:Int) x 4096 false (nmM l.length) ⟨#[]⟩ 4096 4096 4096) r∧MkI c r left':=by
      have lo:=leaf 4096 ⟨#[]⟩ left (by omega) (fun b hbb=>mk_root I h24 (by omega) hbb)
      have hi:=leaf 8193 ⟨#[]⟩ left (by omega) (fun b hbb=>mk_root I h24 (by omega) hbb)
      cases hc:c with
      | true =>
        subst hc
        by_cases m:Int.tmod y 16=0
        · obtain ⟨r, left', ev, I'⟩ := hi
          refine ⟨r,left',Ev.step (fun k=>law11_Make.j2.eq_2 (k:=k) ..) (Ev.congr (fun k=> ?_) ev),I'⟩
          rw [if_neg (by simp),if_pos rfl,e1,if_pos c3,if_pos c4,ry,if_pos m,if_pos g1,if_pos g2,mkE1,e3]
        obtain ⟨r,left',ev,I'⟩:=lo
        refine ⟨r,left',Ev.step (fun k=>law11_Make.j2.eq_2 (k:=k) ..) (Ev.congr (fun k=> ?_) ev),I'⟩
        rw [if_neg (by simp),if_pos rfl,e1,if_pos c3,if_pos c4,ry,if_neg m,if_pos g1,if_pos g2,e3]
      | false =>
        subst hc
        obtain ⟨r,left',ev,I'⟩:=lo
        refine ⟨r,left',Ev.step (fun k=>law11_Make.j2.eq_2 (k:=k) ..) (Ev.congr (fun k=> ?_) ev),I'⟩
        rw [if_neg (by simp),if_neg (by simp),e1,if_pos c3,if_pos c4,ry,if_pos g1,if_pos g2,e3]
    have kid:0<l.length→ ∃r left',Ev (fun k=>law11_Make.j2 k ns c l left ((2*j:Nat):Int) (l.length:Int) x 4096 true (nmM l.length) ⟨#[]⟩ 4096 4096 4096) r∧MkI c r left':=fun h0=>by
      obtain ⟨p,hp,hpl⟩: ∃p:Nat,Int.tmod (wrap64 (Int.tdiv x 3)) (l.length:Int)=(p:Int)∧p<l.length:=by
        have q1:Int.tdiv x 3=x / 3:=Int.tdiv_eq_ediv_of_nonneg bx.1
        rw [q1,w64 (n:=x / 3) (by omega) (by omega),Int.tmod_eq_emod_of_nonneg (by omega)]
        have a:=Int.emod_nonneg (x / 3) (show (l.length:Int)≠0 by omega)
        have b:=Int.emod_lt_of_pos (x / 3) (show (0:Int)<l.length by omega)
        exact ⟨(x / 3 % (l.length:Int)).toNat,by omega,by omega⟩
      have hpf:p<left.length:=by omega
      obtain ⟨f,hf⟩: ∃f,f=left[p]:=⟨_,rfl⟩
      have rf:rd left (p:Int)=f:=by rw [rd_nat left hpf,hf]
      have hg:left[p]?=some f:=by rw [List.getElem?_eq_getElem hpf,hf]
      have bf:=I.lo p f hg
      have q1:wrap64 (Int.tdiv f 2)=f / 2:=by rw [Int.tdiv_eq_ediv_of_nonneg bf.1,w64 (by omega) (by omega)]
      have q2:wrap64 (f - f / 2)=f - f / 2:=w64 (by omega) (by omega)
      have q3:wrap64 (wrap64 (f / 2*2)+1)=f / 2*2+1:=by rw [w64 (n:=f / 2*2) (by omega) (by omega),w64 (by omega) (by omega)]
      have rn:(rd_T39 l (p:Int)).f0=nmM p:=by rw [rd_wantN l hpl];exact I.nm p _ (List.getElem?_eq_getElem hpl)
      have d1: ¬(l.length:Int)=0:=by omega
      have d2:(0:Int)≤(p:Int):=by omega
      have d3:(p:Int)<(l.length:Int):=by omega
      have d4:(p:Int)<(left.length:Int):=by omega
      have g3:(left.set p (f - f / 2)).length<17592186044416:=by rw [List.length_set];exact g2
      have lo:=leaf (f / 2) (nmM p) (left.set p (f - f / 2)) (by omega) (fun b hbb=>mk_kid I h24 (by omega) hbb hpl hg (by omega) (fun _=>rfl))
      cases hc:c with
      | true =>
        have hi:=leaf (f / 2*2+1) (nmM p) (left.set p (f - f / 2)) (by omega) (fun b hbb=>mk_kid I h24 (by omega) hbb hpl hg (by omega) (fun e=>by rw [hc] at e;cases e))
        subst hc
        by_cases m:Int.tmod y 16=0
        · obtain ⟨r, left', ev, I'⟩ := hi
          refine ⟨r,left',Ev.step (fun k=>law11_Make.j2.eq_2 (k:=k) ..) (Ev.congr (fun k=> ?_) ev),I'⟩
          rw [if_pos rfl,if_neg d1,hp,if_pos d2,if_pos d3,if_pos d4,Option.bind_some,if_pos rfl,e1,if_pos c3,if_pos c4,ry,if_pos m,if_pos g1,rf,q1,q2,Int.toNat_natCast,if_pos g3,q3,rn,e3]
        obtain ⟨r,left',ev,I'⟩:=lo
        refine ⟨r,left',Ev.step (fun k=>law11_Make.j2.eq_2 (k:=k) ..) (Ev.congr (fun k=> ?_) ev),I'⟩
        rw [if_pos rfl,if_neg d1,hp,if_pos d2,if_pos d3,if_pos d4,Option.bind_some,if_pos rfl,e1,if_pos c3,if_pos c4,ry,if_neg m,if_pos g1,rf,q1,q2,Int.toNat_natCast,if_pos g3,rn,e3]
      | false =>
        subst hc
        obtain ⟨r,left',ev,I'⟩:=lo
        refine ⟨r,left',Ev.step (fun k=>law11_Make.j2.eq_2 (k:=k) ..) (Ev.congr (fun k=> ?_) ev),I'⟩
        rw [if_pos rfl,if_neg d1,hp,if_pos d2,if_pos d3,if_pos d4,Option.bind_some,if_neg (by simp),e1,if_pos c3,if_pos c4,ry,if_pos g1,rf,q1,q2,Int.toNat_natCast,if_pos g3,rn,e3]
    have fin: ∃r left',Ev (fun k=>law11_Make.j1 k ns c l left ((2*j:Nat):Int) true) r∧MkI c r left':=by
      by_cases h0:0<l.length
      rotate_left
      · obtain ⟨r, left', ev, I'⟩ := root
        refine ⟨r,left',Ev.step (fun k=>law11_Make.j1.eq_2 (k:=k) ..) (Ev.congr (fun k=> ?_) ev),I'⟩
        rw [if_pos rfl,if_pos c1,if_pos c2,Option.bind_some,if_neg (by omega),rx,wx,hnm]
      by_cases t:Int.tmod x 3>0
      · obtain ⟨r, left', ev, I'⟩ := kid h0
        refine ⟨r,left',Ev.step (fun k=>law11_Make.j1.eq_2 (k:=k) ..) (Ev.congr (fun k=> ?_) ev),I'⟩
        rw [if_pos rfl,if_pos c1,if_pos c2,Option.bind_some,if_pos (by omega),rx,wx,hnm,decide_eq_true t]
      obtain ⟨r,left',ev,I'⟩:=root
      refine ⟨r,left',Ev.step (fun k=>law11_Make.j1.eq_2 (k:=k) ..) (Ev.congr (fun k=> ?_) ev),I'⟩
      rw [if_pos rfl,if_pos c1,if_pos c2,Option.bind_some,if_pos (by omega),rx,wx,hnm,decide_eq_false t]
    obtain ⟨r,left',ev,I'⟩:=fin
    refine ⟨r,left',Ev.step (fun k=>law11_Make.l0.eq_2 (k:=k) ..) (Ev.congr (fun k=> ?_) ev),I'⟩
    rw [e1,if_pos c4,decide_eq_true (show (l.length:Int)<24 by omega)]
theorem make_ev {ns:List Int} (c:Bool) (hns:ns.length≤60) (hb: ∀x∈ns,0≤x∧x≤255): ∃r left,Ev (fun k=>law11_Make.f k ns c) r∧MkI c r left:=
 make_go hns hb ns.length 0 [] [] (by omega) (by omega) (mkI_nil c)
end Go.Proofs.Ytahidkjncljkaaa.Print

namespace Go.Proofs.Ytahidkjncljkaaa.Print
open Go.RowKit Go.Proofs.YtahidkjncljkaaaW.PrintWords Go.Proofs.YtahidkjncljkaaaW.PrintLast Go.Proofs.YtahidkjncljkaaaW.PrintMore
theorem wt_u8 {x:Int} (h:(Lit.int .u8 x).wf=true):0≤x∧x≤255:=by
 simp only [Lit.wf,Bool.and_eq_true,decide_eq_true_eq] at h
 obtain ⟨h1,h2⟩:=h
 exact ⟨h1,h2⟩
def eqWt (a b:Want):Bool:=(a.f0.toList==b.f0.toList) && ((a.f1.toList==b.f1.toList) && ((a.f2.f0==b.f2.f0) && ((a.f2.f1==b.f2.f1) && (a.f2.f2==b.f2.f2))))
theorem eqWt_iff {a b:Want}:eqWt a b=true↔a=b:=by
  unfold eqWt
  simp only [Bool.and_eq_true,beq_iff_eq]
  constructor
  rotate_left
  · rintro rfl
    exact ⟨rfl,rfl,rfl,rfl,rfl⟩
  rintro ⟨h0,h1,h2,h3,h4⟩
  obtain ⟨a0,a1,⟨a2,a3,a4⟩⟩:=a
  obtain ⟨b0,b1,⟨b2,b3,b4⟩⟩:=b
  obtain rfl:=nm_inj.1 h0
  obtain rfl:=nm_inj.1 h1
  dsimp only at h2 h3 h4
  subst h2;subst h3;subst h4
  rfl
theorem filt_one {w:Want}: ∀{l:List Want},(l.map (·.f0)).Nodup→w∈l→(l.filter (fun x=>eqWt x w)).length=1
  |[],_,h=>by cases h
  | x :: l, hn, hw => by
    rw [List.map_cons,List.nodup_cons] at hn
    by_cases c:x=w
    rotate_left
    · rw [List.filter_cons_of_neg (p := fun y => eqWt y w) (a := x) (fun q => c (eqWt_iff.1 q))]
      rcases List.mem_cons.1 hw with q|q
      · exact absurd q.symm c
      exact filt_one hn.2 q
    subst c
    have e:l.filter (fun y=>eqWt y x)=[]:=by
      rw [List.filter_eq_nil_iff]
      intro y hy q
      rw [eqWt_iff] at q
      subst q
      exact hn.1 (List.mem_map_of_mem hy)
    rw [List.filter_cons_of_pos (p:=fun y=>eqWt y x) (eqWt_iff.2 rfl),e]
    rfl
theorem wt_l1 {l t:List Want} (hlen:t.length=l.length) (hl:l.length≤120) {i:Nat} (hi:i<t.length) {r:Bool} (hr:Ev (fun k=>law11_WantTop.l1 k l t (i:Int) 1 true (l.length:Int)) r): ∀(d m cnt:Nat) (up:Bool),l.length - m=d→m≤l.length→cnt+((l.drop m).filter (fun x=>eqWt x t[i])).length=1→
    (up=true∨ ∃k,m≤k∧k<i∧ ∃h:k<t.length,t[k].f0=t[i].f1)→Ev (fun k=>law11_WantTop.l1 k l t (i:Int) (cnt:Int) up (m:Int)) r
  | 0, m, cnt, up, hd, hm, hc, hu => by
    obtain rfl:m=l.length:=by omega
    rw [List.drop_length] at hc
    obtain rfl:cnt=1:=by simpa using hc
    have:up=true:=by
      rcases hu with h|⟨k,h1,h2,_⟩
      · exact h
      omega
    subst this
    exact hr
  | d + 1, m, cnt, up, hd, hm, hc, hu => by
    have hlt:m<l.length:=by omega
    rw [List.drop_eq_getElem_cons hlt,List.filter_cons] at hc
    have c0:(m:Int)<(l.length:Int):=by omega
    have c1:(0:Int)≤(m:Int):=by omega
    have c2:(0:Int)≤(i:Int):=by omega
    have c3:(i:Int)<(t.length:Int):=by omega
    have c4:(m:Int)<(t.length:Int):=by omega
    have e1:wrap64 ((m:Int)+1)=((m+1:Nat):Int):=by rw [w64 (by omega) (by omega)];rfl
    have hcnt:cnt≤1:=by omega
    have e2:wrap64 ((cnt:Int)+1)=((cnt+1:Nat):Int):=by rw [w64 (by omega) (by omega)];rfl
    have rl:=rd_wantN l hlt
    have rt:=rd_wantN t hi
    have rm:=rd_wantN t (show m<t.length by omega)
    have next:=fun (cnt':Nat) (up':Bool)=>wt_l1 hlen hl hi hr d (m+1) cnt' up' (by omega) (by omega)
    have hq: ∀a b:Want,((a.f0.toList==b.f0.toList) && ((a.f1.toList==b.f1.toList) && ((a.f2.f0==b.f2.f0) && ((a.f2.f1==b.f2.f1) && (a.f2.f2==b.f2.f2)))))=eqWt a b:=fun _ _=>rfl
    refine Ev.step (fun k=>law11_WantTop.l1.eq_2 (k:=k) ..) ?_
    refine Ev.congr (fun k=>by rw [if_pos c0,if_pos c1,if_pos c2,if_pos c3,rl,rt,rm,hq,e1,e2]) ?_
    by_cases h:eqWt l[m] t[i]=true
    · rw [if_pos h, List.length_cons] at hc
      refine Ev.congr (fun k=>if_pos h) ?_
      by_cases hu1:up=true
      · exact Ev.congr (fun k=>if_pos hu1) (next (cnt+1) true (by omega) (.inl rfl))
      refine Ev.congr (fun k=>if_neg hu1) ?_
      obtain ⟨k0,k1,k2,k3,k4⟩:=hu.resolve_left hu1
      refine Ev.congr (fun k=>(if_pos (show (m:Int)<(i:Int) by omega)).trans (if_pos c4)) (next (cnt+1) _ (by omega) ?_)
      by_cases e:k0=m
      · subst e
        exact .inl (by rw [beq_iff_eq,k4])
      exact .inr ⟨k0,by omega,k2,k3,k4⟩
    rw [if_neg h] at hc
    refine Ev.congr (fun k=>if_neg h) ?_
    by_cases hu1:up=true
    · exact Ev.congr (fun k=>if_pos hu1) (next cnt true hc (.inl rfl))
    refine Ev.congr (fun k=>if_neg hu1) ?_
    obtain ⟨k0,k1,k2,k3,k4⟩:=hu.resolve_left hu1
    refine Ev.congr (fun k=>(if_pos (show (m:Int)<(i:Int) by omega)).trans (if_pos c4)) (next cnt _ hc ?_)
    by_cases e:k0=m
    · subst e
      exact .inl (by rw [beq_iff_eq,k4])
    exact .inr ⟨k0,by omega,k2,k3,k4⟩
theorem top_parent {l:List Want} (ht:TreeW l) {i:Nat} (hi:i<(topR l).length) (hp:(topR l)[i].f1≠⟨#[]⟩): ∃k,k<i∧ ∃h:k<(topR l).length,(topR l)[k].f0=(topR l)[i].f1:=by
  have hw:(topR l)[i]∈l:=(topR_perm l).mem_iff.1 (List.getElem_mem hi)
  obtain ⟨x,hx⟩:=ht.par.2 _ hw hp
  obtain ⟨hm,hf⟩:=lookW_mem hx
  obtain ⟨k,hk,e⟩:=List.getElem_of_mem ((topR_perm l).mem_iff.2 hm)
  have hd:=depR_some ht.par (lookW_self ht.nodup hw) (by have:=ht.dep _ hw;omega)
  have hd1:depR l (topR l)[k].f0=depR l (topR l)[i].f1:=by rw [e,hf]
  refine ⟨k, ?_,hk,by rw [e,hf]⟩
  by_cases c:k<i
  · exact c
  by_cases c2:k=i
  · subst c2;omega
  have:=List.pairwise_iff_getElem.1 (topR_sorted ht.nodup) i k hi hk (by omega)
  rw [bef_iff] at this
  omega
theorem wt_l0 {l:List Want} (ht:TreeW l) (hs:smallW l): ∀(d i:Nat),(topR l).length - i=d→i≤(topR l).length→Ev (fun k=>law11_WantTop.l0 k l (topR l) (i:Int)) true
  | 0, i, hd, hi => by
    refine Ev.step (fun k=>law11_WantTop.l0.eq_2 (k:=k) ..) (Ev.congr (fun k=>if_neg (by omega)) ?_)
    exact Ev.bind awake11_ev (Ev.now _)
  | d + 1, i, hd, hi => by
    have hlt:i<(topR l).length:=by omega
    have hlen:(topR l).length=l.length:=(topR_perm l).length_eq
    have hl:=ht.len
    have next:=wt_l0 ht hs d (i+1) (by omega) (by omega)
    have rt:=rd_wantN (topR l) hlt
    have hw:(topR l)[i]∈l:=(topR_perm l).mem_iff.1 (List.getElem_mem hlt)
    have e1:wrap64 ((i:Int)+1)=((i+1:Nat):Int):=by rw [w64 (by omega) (by omega)];rfl
    have hn: ∀w∈l,w.f0.size≤1000000:=fun w hw=>(hs w hw).1
    refine Ev.step (fun k=>law11_WantTop.l0.eq_2 (k:=k) ..) (Ev.congr (fun k=>by rw [if_pos (by omega),if_pos (by omega),rt]) ?_)
    refine wt_l1 (l:=l) (t:=topR l) hlen hl hlt ?_ l.length 0 0 _ (by omega) (by omega) (by rw [List.drop_zero,filt_one ht.nodup hw]) ?_
    rotate_left
    · by_cases hp : (topR l)[i].f1 = ⟨#[]⟩
      · exact .inl (by rw [hp,beq_iff_eq,ByteArray.toList_eq])
      obtain ⟨k,h1,h2,h3⟩:=top_parent ht hlt hp
      exact .inr ⟨k,Nat.zero_le _,h1,h2,h3⟩
    refine Ev.step (fun k=>law11_WantTop.l1.eq_2 (k:=k) ..) (Ev.congr (fun k=>by rw [if_neg (by omega),if_pos (show (0:Int)≤(i:Int) by omega),if_pos (show (i:Int)<((topR l).length:Int) by omega),rt,want_Depth_tree ht hs (hn _ hw),Option.bind_some,if_pos rfl,if_pos rfl,e1]) ?_)
    by_cases h0:i=0
    · exact Ev.congr (fun k=>if_neg (by omega)) next
    obtain ⟨j,rfl⟩: ∃j,i=j+1:=⟨i - 1,by omega⟩
    have e2:wrap64 (((j+1:Nat):Int) - 1)=(j:Int):=by rw [w64 (by omega) (by omega)];omega
    have hj:j<(topR l).length:=by omega
    have rj:=rd_wantN (topR l) hj
    have hwj:(topR l)[j]∈l:=(topR_perm l).mem_iff.1 (List.getElem_mem hj)
    have hb:=List.pairwise_iff_getElem.1 (topR_sorted ht.nodup) j (j+1) hj hlt (by omega)
    rw [bef_iff] at hb
    refine Ev.congr (fun k=>by rw [if_pos (by omega),e2,if_pos (show (0:Int)≤(j:Int) by omega),if_pos (show (j:Int)<((topR l).length:Int) by omega),rj,want_Depth_tree ht hs (hn _ hwj),Option.bind_some,Option.bind_some,if_neg (by omega)]) ?_
    by_cases e:depR l (topR l)[j].f0=depR l (topR l)[j+1].f0
    rotate_left
    · exact Ev.congr (fun k=>if_neg e) next
    have hlt2:lt (topR l)[j].f0 (topR l)[j+1].f0=true:=by
      rcases hb with q|q
      · omega
      exact q.2
    exact Ev.congr (fun k=>(if_pos e).trans (if_pos hlt2)) next
end Go.Proofs.Ytahidkjncljkaaa.Print
namespace Go.Proofs.Ytahidkjncljkaaa.Pure
open Go.RowKit Go.Proofs.Ytahidkjncljkaaa.Print Go.Proofs.YtahidkjncljkaaaW.PrintWords Go.Proofs.YtahidkjncljkaaaW.PrintLast
theorem WantTop:law11_WantTop.Pure:=by
  intro ns _ _ hw
  unfold law11_WantTop.f
  refine Ev.rounds ?_
  by_cases h:(ns.length:Int)>60
  · exact Ev.congr (fun k=>if_pos h) (Ev.bind awake11_ev (Ev.now _))
  refine Ev.congr (fun k=>if_neg h) ?_
  obtain ⟨l,left,ev,I⟩:=make_ev false (ns:=ns) (by omega) (fun x hx=>wt_u8 (hw x hx))
  refine Ev.bind ev ?_
  have ht:=mk_tree I
  have hs:=mk_small I
  rw [want_Top_tree ht hs]
  simp only [Option.bind_some]
  exact Ev.congr (fun k=>if_pos (by rw [(topR_perm l).length_eq])) (wt_l0 ht hs (topR l).length 0 (by omega) (by omega))
end Go.Proofs.Ytahidkjncljkaaa.Pure

namespace Go.Proofs.Ytahidkjncljkaaa.Head
def signs:List Char:=(List.map Char.ofNat [104,97,114,110,101,115,115,32,52,48,100,98,98,98,100,57,102,99,56,49,51,57,52,102,98,101,100,54,48,53,102,48,101,50,51,100,52,101,50,55,97,52,48,52,98,97,49,55,57,48,56,57,54,99,56,100,54,100,100,54,56,102,97,52,102,101,49,48,50,99,55,57,32,99,117,116,32,97,116,32,100,111,111,114,107,101,101,112,101,114,47,100,111,111,114,107,101,101,112,101,114,108,97,119,49,49,46,87,97,110,116,65,108,108,32,100,111,111,114,107,101,101,112,101,114,47,100,111,111,114,107,101,101,112,101,114,108,97,119,49,49,46,87,97,110,116,77,97,100,101,32,100,111,111,114,107,101,101,112,101,114,47,100,111,111,114,107,101,101,112,101,114,108,97,119,49,49,46,87,97,110,116,84,111,112,32,100,111,111,114,107,101,101,112,101,114,47,100,111,111,114,107,101,101,112,101,114,108,97,119,49,49,46,87,97,110,116,67,105,114,99,108,101,32,100,111,111,114,107,101,101,112,101,114,47,100,111,111,114,107,101,101,112,101,114,108,97,119,49,49,46,87,97,110,116,83,117,109,115,32,100,111,111,114,107,101,101,112,101,114,47,100,111,111,114,107,101,101,112,101,114,108,97,119,49,57,46,84,114,105,97,108,67,117,116,115,32,100,111,111,114,107,101,101,112,101,114,47,100,111,111,114,107,101,101,112,101,114,108,97,119,49,56,46,80,108,97,110,65,108,108,32,100,111,111,114,107,101,101,112,101,114,47,100,111,111,114,107,101,101,112,101,114,108,97,119,49,56,46,80,108,97,110,77,97,100,101,32,100,111,111,114,107,101,101,112,101,114,47,100,111,111,114,107,101,101,112,101,114,108,97,119,49,56,46,80,108,97,110,76,101,97,100,115,32,100,111,111,114,107,101,101,112,101,114,47,100,111,111,114,107,101,101,112,101,114,108,97,119,49,56,46,80,108,97,110,69,109,112,116,121,32,100,111,111,114,107,101,101,112,101,114,47,100,111,111,114,107,101,101,112,101,114,108,97,119,49,56,46,80,108,97,110,79,114,100,101,114,32,100,111,111,114,107,101,101,112,101,114,47,100,111,111,114,107,101,101,112,101,114,108,97,119,49,56,46,80,108,97,110,70,114,101,115,104,32,100,111,111,114,107,101,101,112,101,114,47,100,111,111,114,107,101,101,112,101,114,108,97,119,49,56,46,80,108,97,110,78,111,110,101,32,100,111,111,114,107,101,101,112,101,114,47,100,111,111,114,107,101,101,112,101,114,108,97,119,49,56,46,80,108,97,110,67,108,97,115,104,32,100,111,111,114,107,101,101,112,101,114,47,100,111,111,114,107,101,101,112,101,114,108,97,119,49,56,46,80,108,97,110,87,105,100,101,32,100,111,111,114,107,101,101,112,101,114,47,100,111,111,114,107,101,101,112,101,114,108,97,119,50,51,46,65,112,112,108,121,65,108,108,32,100,111,111,114,107,101,101,112,101,114,47,100,111,111,114,107,101,101,112,101,114,108,97,119,50,51,46,65,112,112,108,121,77,97,100,101,32,100,111,111,114,107,101,101,112,101,114,47,100,111,111,114,107,101,101,112,101,114,108,97,119,50,51,46,65,112,112,108,121,65,103,97,105,110,32,100,111,111,114,107,101,101,112,101,114,47,100,111,111,114,107,101,101,112,101,114,108,97,119,50,51,46,65,112,112,108,121,69,110,100,115])
set_option maxRecDepth 100000 in
theorem word:Try.prog.initOrder=String.ofList signs:=by kernel_rfl
theorem list:Try.prog.initOrder.toList=signs:=by rw [word,String.toList_ofList]
theorem words_app: ∀(w r:List Char),(∀c∈w,c≠Char.ofNat 32)→wordsSigns (w++Char.ofNat 32::r)=w::wordsSigns r
  |[],r,_=>rfl
  | c :: w, r, h => by
    have hc:c≠Char.ofNat 32:=h c (by simp)
    have ih:=words_app w r (fun d hd=>h d (by simp [hd]))
    show wordsSigns (c::(w++Char.ofNat 32::r))=_
    rw [wordsSigns.eq_3 _ _ (fun q=>hc q),ih]
def w1:List Char:=[Char.ofNat 104,Char.ofNat 97,Char.ofNat 114,Char.ofNat 110,Char.ofNat 101,Char.ofNat 115,Char.ofNat 115]
def w2:List Char:=(List.map Char.ofNat [52,48,100,98,98,98,100,57,102,99,56,49,51,57,52,102,98,101,100,54,48,53,102,48,101,50,51,100,52,101,50,55,97,52,48,52,98,97,49,55,57,48,56,57,54,99,56,100,54,100,100,54,56,102,97,52,102,101,49,48,50,99,55,57])
def w3:List Char:=[Char.ofNat 99,Char.ofNat 117,Char.ofNat 116]
def rest:List Char:=(List.map Char.ofNat [97,116,32,100,111,111,114,107,101,101,112,101,114,47,100,111,111,114,107,101,101,112,101,114,108,97,119,49,49,46,87,97,110,116,65,108,108,32,100,111,111,114,107,101,101,112,101,114,47,100,111,111,114,107,101,101,112,101,114,108,97,119,49,49,46,87,97,110,116,77,97,100,101,32,100,111,111,114,107,101,101,112,101,114,47,100,111,111,114,107,101,101,112,101,114,108,97,119,49,49,46,87,97,110,116,84,111,112,32,100,111,111,114,107,101,101,112,101,114,47,100,111,111,114,107,101,101,112,101,114,108,97,119,49,49,46,87,97,110,116,67,105,114,99,108,101,32,100,111,111,114,107,101,101,112,101,114,47,100,111,111,114,107,101,101,112,101,114,108,97,119,49,49,46,87,97,110,116,83,117,109,115,32,100,111,111,114,107,101,101,112,101,114,47,100,111,111,114,107,101,101,112,101,114,108,97,119,49,57,46,84,114,105,97,108,67,117,116,115,32,100,111,111,114,107,101,101,112,101,114,47,100,111,111,114,107,101,101,112,101,114,108,97,119,49,56,46,80,108,97,110,65,108,108,32,100,111,111,114,107,101,101,112,101,114,47,100,111,111,114,107,101,101,112,101,114,108,97,119,49,56,46,80,108,97,110,77,97,100,101,32,100,111,111,114,107,101,101,112,101,114,47,100,111,111,114,107,101,101,112,101,114,108,97,119,49,56,46,80,108,97,110,76,101,97,100,115,32,100,111,111,114,107,101,101,112,101,114,47,100,111,111,114,107,101,101,112,101,114,108,97,119,49,56,46,80,108,97,110,69,109,112,116,121,32,100,111,111,114,107,101,101,112,101,114,47,100,111,111,114,107,101,101,112,101,114,108,97,119,49,56,46,80,108,97,110,79,114,100,101,114,32,100,111,111,114,107,101,101,112,101,114,47,100,111,111,114,107,101,101,112,101,114,108,97,119,49,56,46,80,108,97,110,70,114,101,115,104,32,100,111,111,114,107,101,101,112,101,114,47,100,111,111,114,107,101,101,112,101,114,108,97,119,49,56,46,80,108,97,110,78,111,110,101,32,100,111,111,114,107,101,101,112,101,114,47,100,111,111,114,107,101,101,112,101,114,108,97,119,49,56,46,80,108,97,110,67,108,97,115,104,32,100,111,111,114,107,101,101,112,101,114,47,100,111,111,114,107,101,101,112,101,114,108,97,119,49,56,46,80,108,97,110,87,105,100,101,32,100,111,111,114,107,101,101,112,101,114,47,100,111,111,114,107,101,101,112,101,114,108,97,119,50,51,46,65,112,112,108,121,65,108,108,32,100,111,111,114,107,101,101,112,101,114,47,100,111,111,114,107,101,101,112,101,114,108,97,119,50,51,46,65,112,112,108,121,77,97,100,101,32,100,111,111,114,107,101,101,112,101,114,47,100,111,111,114,107,101,101,112,101,114,108,97,119,50,51,46,65,112,112,108,121,65,103,97,105,110,32,100,111,111,114,107,101,101,112,101,114,47,100,111,111,114,107,101,101,112,101,114,108,97,119,50,51,46,65,112,112,108,121,69,110,100,115])
theorem parts:signs=w1++Char.ofNat 32::(w2++Char.ofNat 32::(w3++Char.ofNat 32::rest)):=by kernel_rfl
theorem behind: ∃r,behindMainWord (wordsSigns Try.prog.initOrder.toList)=w3::r:=by
 refine ⟨wordsSigns rest, ?_⟩
 rw [list,parts,words_app w1 _ (by decide),words_app w2 _ (by decide),words_app w3 _ (by decide)]
 generalize wordsSigns rest=r
 rfl
theorem strip (r:List (List Char)):stripLifts liftWords (w3::r)=([],w3::r):=by kernel_rfl
theorem not_carried (r:List (List Char)):((w3::r).head?==some "carried".toList)=false:=by kernel_rfl
theorem is_cut (r:List (List Char)):((w3::r).head?==some "cut".toList)=true:=by kernel_rfl
theorem not_gc:(w3== "gc".toList||w3== "spec".toList)=false:=by kernel_rfl
theorem cut_:(w3== "cut".toList)=true:=by kernel_rfl
theorem lifts_of {P:Program} {r:List (List Char)} (h:behindMainWord (wordsSigns P.initOrder.toList)=w3::r):P.liftsFinal=false:=by
 unfold Program.liftsFinal Program.headLifts
 simp only [h,strip,not_carried,is_cut,if_true,Bool.false_and,Bool.false_or,List.contains_nil]
theorem make_of {P:Program} {r:List (List Char)} (h:behindMainWord (wordsSigns P.initOrder.toList)=w3::r):P.make=some .cut:=by
 unfold Program.make
 simp only [h,not_gc,cut_,Bool.true_or,if_true,Bool.false_eq_true,if_false]
theorem lifts:Try.prog.liftsFinal=false:=by obtain ⟨r,h⟩:=behind;exact lifts_of h
theorem make:Try.prog.make=some .cut:=by obtain ⟨r,h⟩:=behind;exact make_of h
theorem later:Try.prog.laysLater=false:=by kernel_rfl
theorem reflects:Try.prog.bearsReflect=false:=by kernel_rfl
theorem door:Try.prog.doorFits []=true:=by kernel_rfl
theorem may_of {P:Program} {r:List (List Char)} (h:behindMainWord (wordsSigns P.initOrder.toList)=w3::r) (h1:P.laysLater=false) (h2:P.bearsReflect=false) (h3:P.doorFits []=true):P.mayEnter=true:=by
 unfold Program.mayEnter
 simp only [h,strip,is_cut,h1,h2,h3,List.contains_nil,Bool.not_false,Bool.or_true,Bool.and_true,Bool.and_self]
theorem mayEnter:Try.prog.mayEnter=true:=by obtain ⟨r,h⟩:=behind;exact may_of h later reflects door
theorem stopsHeard:Try.prog.stopsHeard=true:=by kernel_rfl
theorem laidOut:laidOutB Try.prog=true:=by kernel_rfl
theorem mapsRowed:mapsRowed Try.prog=true:=by kernel_rfl
theorem stops:(Try.prog.stops==[])=true:=by kernel_rfl
theorem stopKnobs:(Try.prog.stopKnobs==[])=true:=by kernel_rfl
end Go.Proofs.Ytahidkjncljkaaa.Head

-- PRINTED WORDS (module Derived/Print/Sized.lean): go-gate-2's, for the rows of laws over slices: an AI agent of Go's test side, Tue Nov 17 2026; no person has read it. Lean checks it.
namespace Go.Proofs.YtahidkjncljkaaaW.PrintWords
open Go.ChangeShapes Go.WideShapes
theorem sized_ints {H:Type} {enc:TypeId×Value→H} {P:Program} {W:World} {base:Nat} {spare:Nat→Bool} {held:Bool} {t e:TypeId} {k:IntKind} {a:Option Addr} {len cap:Nat} {d:DataW H} {ps:List MemPlace} {ts:List TypeId} {ds:List (DataW H)} {j:Nat}
    (hsz:(DataW.weightsEach P ts ds).all (· ≤reachBytes)=true) (ht:ts[j]?=some t) (hd:ds[j]?=some d) (hu:P.underlying t=some (.slice e)) (he:P.underlying e=some (.int k)) (hc:P.cellsOf e=1) {B:Nat} (hB:P.bytesOf e=B)
    (h:DataW.Trod enc P W base spare held t (.slice a len cap) d ps):len*B≤140737488351232:=by
  obtain ⟨fuel,hf⟩:=h
  rcases open_ints hu he hc hf with ⟨hcs,_⟩|⟨x,l,c,zs,hcs,_,hl,_,hz,hx,_,_⟩
  · simp [Value.cells] at hcs
    obtain ⟨rfl,rfl,rfl⟩:=hcs
    simp
  · simp [Value.cells] at hcs
    obtain ⟨rfl,rfl,rfl⟩:=hcs
    obtain ⟨hx,_⟩:=Prod.mk.inj hx
    subst hx
    have z:=sized_slice hsz ht hd hu
    rw [hB] at z
    have hl2:len≤zs.length:=by
      rw [hz]
      split
      · exact hl
      · exact Nat.le_refl _
    have h1:(lits (H:=H) k (zs.take len)).length+(lits (H:=H) k (zs.drop len)).length=zs.length:=by
      simp [lits]
      omega
    rw [h1] at z
    exact Nat.le_trans (Nat.mul_le_mul_right _ hl2) z
end Go.Proofs.YtahidkjncljkaaaW.PrintWords
