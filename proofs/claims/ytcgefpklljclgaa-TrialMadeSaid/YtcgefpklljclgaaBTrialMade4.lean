/- TrialMade: a part -/
import Derived.Test.YtcgefpklljclgaaBTrialMade0
import Derived.Test.YtcgefpklljclgaaBTrialMade1
namespace Go.Proofs.Ytcgefpklljclgaa.Print
open Go.RowKit Go.Proofs.YtcgefpklljclgaaW.PrintWords Go.Proofs.YtcgefpklljclgaaW.PrintLast Go.Proofs.YtcgefpklljclgaaW.PrintMore
attribute [local go_sem] max2_int min2_int max_two min_two max_three min_three max_four min_four
set_option linter.unusedVariables false
set_option linter.unusedSimpArgs false

mutual
def r10_Create.j0:Nat→List (S31)→ByteArray→ByteArray→Bool→Int→Int→Int→Option ((List (S31))×Int)
 |0,_,_,_,_,_,_,_=>none
 |k+1,x0,x1,x2,x11,x2000,x2001,x2002=>if x11=true then ((r10_no.f 1).bind fun bt5=>(some (bt5.1,bt5.2))) else ((r10_Find.f k x0 x1).bind fun t9=>(if t9≥0 then ((r10_no.f 3).bind fun bt10=>(some (bt10.1,bt10.2))) else (if x2.toList=([]:List UInt8) then (r10_Create.j1 k x0 x1 x2 false x2000 x2001 x2002) else ((r10_Find.f k x0 x2).bind fun t14=>(r10_Create.j1 k x0 x1 x2 (decide (t14<0)) x2000 x2001 x2002)))))
def r10_Create.j1:Nat→List (S31)→ByteArray→ByteArray→Bool→Int→Int→Int→Option ((List (S31))×Int)
 |0,_,_,_,_,_,_,_=>none
 |k+1,x0,x1,x2,x27,x2000,x2001,x2002=>if x27=true then ((r10_no.f 2).bind fun bt15=>(some (bt15.1,bt15.2))) else (if (x0.length:Int)≥120 then ((r10_no.f 4).bind fun bt19=>(some (bt19.1,bt19.2))) else (r10_Create.l0 k x0 x1 x2 0 x2000 x2001 x2002))
def r10_Create.l0:Nat→List (S31)→ByteArray→ByteArray→Int→Int→Int→Int→Option ((List (S31))×Int)
 |0,_,_,_,_,_,_,_=>none
 |k+1,x0,x1,x2,x9,x2000,x2001,x2002=>if x9<(x0.length:Int) then (if 0≤x9 then (if (Op.bytesLess (((rd_T31 x0 x9).f0).toList) x1.toList)=true then (r10_Create.l0 k x0 x1 x2 (wrap64 (x9+1)) x2000 x2001 x2002) else (if x9≤(x0.length:Int) then ((r10_copied.f (x0.take (x9:Int).toNat)).bind fun t28=>(if t28.length<1256584717458 then ((some (t28++ [(⟨x1,x2,(⟨x2000,x2001,x2002⟩:S27),(⟨0,0,0⟩:S27),(⟨0,0,0⟩:S27),1⟩:S31)]:List (S31))).bind fun y31=>((some (x0.drop (x9:Int).toNat:List (S31))).bind fun y34=>(if y31.length+y34.length<1256584717458 then (some ((y31++y34),0)) else (none)))) else (none))) else (none))) else (none)) else (if 0≤x9 then (if x9≤(x0.length:Int) then ((r10_copied.f (x0.take (x9:Int).toNat)).bind fun t45=>(if t45.length<1256584717458 then ((some (t45++ [(⟨x1,x2,(⟨x2000,x2001,x2002⟩:S27),(⟨0,0,0⟩:S27),(⟨0,0,0⟩:S27),1⟩:S31)]:List (S31))).bind fun y48=>((some (x0.drop (x9:Int).toNat:List (S31))).bind fun y51=>(if y48.length+y51.length<1256584717458 then (some ((y48++y51),0)) else (none)))) else (none))) else (none)) else (none))
end
def r10_Create.f (k:Nat) (l0:List (S31)) (a1:ByteArray) (a2:ByteArray) (a3_0:Int) (a3_1:Int) (a3_2:Int):Option ((List (S31))×Int):=(r10_MayName.f a1).bind fun t3=>(if t3=true then ((r10_MayVec.f a3_0 a3_1 a3_2).bind fun t4=>(r10_Create.j0 k l0 a1 a2 (!t4) a3_0 a3_1 a3_2)) else (r10_Create.j0 k l0 a1 a2 true a3_0 a3_1 a3_2))
theorem r10_Create.mono_l: ∀k,(∀y0 y1 y2 y3 y4 y5 y6,LeO (r10_Create.j0 k y0 y1 y2 y3 y4 y5 y6) (r10_Create.j0 (k+1) y0 y1 y2 y3 y4 y5 y6))∧(∀y0 y1 y2 y3 y4 y5 y6,LeO (r10_Create.j1 k y0 y1 y2 y3 y4 y5 y6) (r10_Create.j1 (k+1) y0 y1 y2 y3 y4 y5 y6))∧(∀y0 y1 y2 y3 y4 y5 y6,LeO (r10_Create.l0 k y0 y1 y2 y3 y4 y5 y6) (r10_Create.l0 (k+1) y0 y1 y2 y3 y4 y5 y6))
 |0=>⟨fun _ _ _ _ _ _ _ r h=>by simp [r10_Create.j0] at h,fun _ _ _ _ _ _ _ r h=>by simp [r10_Create.j1] at h,fun _ _ _ _ _ _ _ r h=>by simp [r10_Create.l0] at h⟩
 |k+1=>by
  obtain ⟨ih0,ih1,ih2⟩:=r10_Create.mono_l k
  refine ⟨?_, ?_, ?_⟩
  ·intro y0 y1 y2 y3 y4 y5 y6
   unfold r10_Create.j0
   repeat' first
   |(with_reducible exact ih0 _ _ _ _ _ _ _)
   |(with_reducible exact ih1 _ _ _ _ _ _ _)
   |(with_reducible exact ih2 _ _ _ _ _ _ _)
   |(with_reducible exact r10_Find.mono _ _ _)
   |(with_reducible exact LeO.refl _)
   |(with_reducible exact LeO.none _)
   |(with_reducible refine LeO.ite ?_ ?_)
   |(with_reducible refine LeO.bind ?_ (fun _=> ?_))
   |exact ih0 _ _ _ _ _ _ _
   |exact ih1 _ _ _ _ _ _ _
   |exact ih2 _ _ _ _ _ _ _
   |exact r10_Find.mono _ _ _
   |exact LeO.none _
   |refine LeO.ite ?_ ?_
   |refine LeO.bind ?_ (fun _=> ?_)
  ·intro y0 y1 y2 y3 y4 y5 y6
   unfold r10_Create.j1
   repeat' first
   |(with_reducible exact ih0 _ _ _ _ _ _ _)
   |(with_reducible exact ih1 _ _ _ _ _ _ _)
   |(with_reducible exact ih2 _ _ _ _ _ _ _)
   |(with_reducible exact r10_Find.mono _ _ _)
   |(with_reducible exact LeO.refl _)
   |(with_reducible exact LeO.none _)
   |(with_reducible refine LeO.ite ?_ ?_)
   |(with_reducible refine LeO.bind ?_ (fun _=> ?_))
   |exact ih0 _ _ _ _ _ _ _
   |exact ih1 _ _ _ _ _ _ _
   |exact ih2 _ _ _ _ _ _ _
   |exact r10_Find.mono _ _ _
   |exact LeO.none _
   |refine LeO.ite ?_ ?_
   |refine LeO.bind ?_ (fun _=> ?_)
  intro y0 y1 y2 y3 y4 y5 y6
  unfold r10_Create.l0
  repeat' first
  |(with_reducible exact ih0 _ _ _ _ _ _ _)
  |(with_reducible exact ih1 _ _ _ _ _ _ _)
  |(with_reducible exact ih2 _ _ _ _ _ _ _)
  |(with_reducible exact r10_Find.mono _ _ _)
  |(with_reducible exact LeO.refl _)
  |(with_reducible exact LeO.none _)
  |(with_reducible refine LeO.ite ?_ ?_)
  |(with_reducible refine LeO.bind ?_ (fun _=> ?_))
  |exact ih0 _ _ _ _ _ _ _
  |exact ih1 _ _ _ _ _ _ _
  |exact ih2 _ _ _ _ _ _ _
  |exact r10_Find.mono _ _ _
  |exact LeO.none _
  |refine LeO.ite ?_ ?_
  |refine LeO.bind ?_ (fun _=> ?_)
theorem r10_Create.mono: ∀a0 a1 a2 a3 a4 a5 k,LeO (r10_Create.f k a0 a1 a2 a3 a4 a5) (r10_Create.f (k+1) a0 a1 a2 a3 a4 a5):=by
 intro a0 a1 a2 a3 a4 a5 k
 obtain ⟨ih0,ih1,ih2⟩:=r10_Create.mono_l k
 unfold r10_Create.f
 repeat' first
  |(with_reducible exact ih0 _ _ _ _ _ _ _)
  |(with_reducible exact ih1 _ _ _ _ _ _ _)
  |(with_reducible exact ih2 _ _ _ _ _ _ _)
  |(with_reducible exact r10_Find.mono _ _ _)
  |(with_reducible exact LeO.refl _)
  |(with_reducible exact LeO.none _)
  |(with_reducible refine LeO.ite ?_ ?_)
  |(with_reducible refine LeO.bind ?_ (fun _=> ?_))
  |exact ih0 _ _ _ _ _ _ _
  |exact ih1 _ _ _ _ _ _ _
  |exact ih2 _ _ _ _ _ _ _
  |exact r10_Find.mono _ _ _
  |exact LeO.none _
  |refine LeO.ite ?_ ?_
  |refine LeO.bind ?_ (fun _=> ?_)
set_option maxHeartbeats 8000000 in
set_option maxRecDepth 100000 in
theorem r10_Create.calls (k:Nat) (A0:Option Addr) (c0:Nat) (l0:List (S31)) (a1:ByteArray) (a2:ByteArray) (a3_0:Int) (a3_1:Int) (a3_2:Int) (r1:List (S31)) (r2:Int) (w:World) (hr0:Kd.C k31 w A0 l0.length l0) (hc0:l0.length≤c0) (h:r10_Create.f k l0 a1 a2 a3_0 a3_1 a3_2=some (r1,r2)):
  Calls Try.prog 83 #[.slice A0 l0.length c0, .string a1, .string a2, .agg #[.int .i64 a3_0, .int .i64 a3_1, .int .i64 a3_2]] w fun e w'=> ∃v0_:Value,e= .returned (.agg #[v0_, .int .i64 r2])∧Kd.R k31 31 w' w.heap.size (fun _=>True) v0_ r1∧Below w.heap.size w w':=by
 have HR0:=Aside0.mk hr0
 have HC0:=Aside0.mk hc0
 clear hr0 hc0
 have HB:=am_ (Below.refl w.heap.size w)
 have H:((r10_MayName.f a1).bind fun t3=>(if t3=true then ((r10_MayVec.f a3_0 a3_1 a3_2).bind fun t4=>(r10_Create.j0 k l0 a1 a2 (!t4) a3_0 a3_1 a3_2)) else (r10_Create.j0 k l0 a1 a2 true a3_0 a3_1 a3_2)))=some (r1,r2):=h
 clear h
 have HC5:=Aside0.mk H
 clear H
 go_enter Try.func83,Try.ntmps83
 go_upto_region 1 with (first|((with_reducible refine gate_dst (N:=7) rfl ?_);refine bx_ (N:=7) (cs:=#[.int .i64 a3_0, .int .i64 a3_1, .int .i64 a3_2]) (t:=27) ?_;intro gb1 hg w6 hbox hb;have n0_:=am_ (below_step (zl0_ HB) hb);have n1_:=am_ (hbox);have n2_:=am_ ((zg0_ HB hg:w.heap.size≤gb1));have n3_:=am_ ((zg0_ HB hg:w.heap.size≤gb1));clear HB;have HB:=n0_;have BK1:=n1_;have GE1:=n3_;clear n0_ n1_ n2_ n3_;clear hb hbox hg)|((with_reducible refine gate_dst (N:=8) rfl ?_);refine bx_ (N:=8) (cs:=#[.slice none 0 0, .int .i64 0]) (t:=67) ?_;intro gb2 hg w7 hbox hb;have n0_:=am_ (blk_below (zb_ BK1) hb);have n1_:=am_ (below_step (zl1_ HB GE1) hb);have n2_:=am_ (hbox);have n3_:=am_ ((zg1_ HB GE1 hg:w.heap.size≤gb2));have n4_:=am_ ((zg1_ HB GE1 hg:w.heap.size≤gb2));have n5_:=am_ ((zn_ BK1 hg:gb1≠gb2));have n6_:=am_ ((zm_ BK1 hg:gb2≠gb1));clear BK1;clear HB;have BK1:=n0_;have HB:=n1_;have BK2:=n2_;have GE2:=n4_;clear n0_ n1_ n2_ n3_ n4_ n5_ n6_;clear hb hbox hg))
 (try simp only [Act.put,List.setIfInBounds_toArray,List.set_cons_zero,List.set_cons_succ])
 go_cut [11] (fun v11 wc=> ∃(kq:Nat) (x11_4:Bool),v11= .bool x11_4∧Aside0 (r10_Create.j0 kq l0 a1 a2 x11_4 a3_0 a3_1 a3_2=some (r1,r2))∧Aside0 (kq≤k)∧Aside0 (wc.heap[gb1]?=some (.cells #[.int .i64 a3_0, .int .i64 a3_1, .int .i64 a3_2] 27 (0,0)))∧Aside0 (wc.heap[gb2]?=some (.cells #[(.slice none 0 0), .int .i64 0] 67 (0,0)))∧Aside0 (Below w.heap.size w wc))
 case first=>
  have H:=HC5.out
  clear HC5
  replace H:=Option.bind_eq_some_iff.mp H
  obtain ⟨t3,A80,H⟩:=H
  try dsimp only at H
  have A8:=Aside0.mk A80
  clear A80
  by_cases c9:t3=true
  rotate_left
  ·replace c9:=Bool.eq_false_iff.mpr c9
   subst c9
   have H1:(r10_Create.j0 k l0 a1 a2 true a3_0 a3_1 a3_2)=some (r1,r2):=by rw [if_neg (show¬(false=true) by decide)] at H;exact H
   clear H
   have H:=H1
   clear H1
   have H':=Aside0.mk H
   clear H
   go_wp2_with (first|((with_reducible refine gate_callee (f:=105) rfl ?_);refine gl_ (some 13) Try.func105 #[.string a1] ?_;(with_reducible refine (r10_MayName.calls a1 false _ A8.out).mono ?_);rintro e w' ⟨rfl,⟨nd,rfl⟩⟩;refine ⟨_,rfl, ?_⟩))
   go_meet
   case rel=>exact ⟨_,(true),(by first|rfl|(simp;done)|(simp [*];done)),H',⟨by first|omega|exact Nat.le_refl _⟩,⟨by refine zk_ ?_;exact BK1.out⟩,⟨by refine zk_ ?_;exact BK2.out⟩,⟨zl2_ HB GE1 GE2⟩⟩
  subst c9
  have H1:((r10_MayVec.f a3_0 a3_1 a3_2).bind fun t4=>(r10_Create.j0 k l0 a1 a2 (!t4) a3_0 a3_1 a3_2))=some (r1,r2):=by rw [if_pos rfl] at H;exact H
  clear H
  have H:=H1
  clear H1
  replace H:=Option.bind_eq_some_iff.mp H
  obtain ⟨t4,A100,H⟩:=H
  try dsimp only at H
  have A10:=Aside0.mk A100
  clear A100
  have H':=Aside0.mk H
  clear H
  go_wp2_with (first|((with_reducible refine gate_callee (f:=105) rfl ?_);refine gl_ (some 13) Try.func105 #[.string a1] ?_;(with_reducible refine (r10_MayName.calls a1 true _ A8.out).mono ?_);rintro e w' ⟨rfl,⟨nd,rfl⟩⟩;refine ⟨_,rfl, ?_⟩;obtain ⟨hcz12_0,hcz12_1,hcz12_2⟩:=x3_ BK1)|(go_at_call 65;(with_reducible refine (r10_MayVec.calls a3_0 a3_1 a3_2 t4 _ A10.out).mono ?_);rintro e w13 ⟨rfl,hb⟩;replace BK1:=am_ (blk_below (zb_ BK1) hb);replace BK2:=am_ (blk_below (zb_ BK2) hb);replace HB:=am_ (below_step (zl2_ HB GE1 GE2) hb);(try clear hb);(try clear hb2);(try clear hk);(try clear hi)))
  go_meet
  case rel=>exact ⟨_,(!t4),(by first|rfl|(simp;done)|(simp [*];done)),H',⟨by first|omega|exact Nat.le_refl _⟩,⟨by refine zk_ ?_;exact BK1.out⟩,⟨by refine zk_ ?_;exact BK2.out⟩,⟨zl2_ HB GE1 GE2⟩⟩
 case rest=>
  clear HC5
  try clear c1
  try clear p2
  try clear c8
  try clear c9
  try clear c10
  try clear c11
  try clear hcz12_0
  try clear hcz12_1
  try clear hcz12_2
  obtain ⟨kq,x11_4,rfl,HA,HJ4,BK1,BK2,HB⟩:=hcut
  cases kq with
  |zero=>exact absurd HA.out (by simp [r10_Create.j0])
  |succ kj4=>
   have H:=HA.out
   clear HA
   simp only [r10_Create.j0] at H
   by_cases c14:x11_4=true
   ·subst c14
    have H1:((r10_no.f 1).bind fun bt5=>(some (bt5.1,bt5.2)))=some (r1,r2):=by rw [if_pos rfl] at H;exact H
    clear H
    have H:=H1
    clear H1
    replace H:=Option.bind_eq_some_iff.mp H
    obtain ⟨⟨t5,t8⟩,A150,H⟩:=H
    try dsimp only at H
    have A15:=Aside0.mk A150
    clear A150
    simp only [Option.some.injEq,Prod.mk.injEq] at H
    obtain ⟨rfl,rfl⟩:=H
    go_wp2_with (first|((with_reducible refine gate_callee (f:=113) rfl ?_);refine gl_ (some 20) Try.func113 #[.int .i64 1] ?_;(with_reducible refine (r10_no.calls 1 t5 t8 _ A15.out).mono ?_);rintro e w16 ⟨v6,rfl,ho0,hb⟩;refine ⟨_,rfl, ?_⟩;have HO7:=am_ (Kd.R_lower ho0 (below_size (zl2_ HB GE1 GE2)));replace BK1:=am_ (blk_below (zb_ BK1) hb);replace BK2:=am_ (blk_below (zb_ BK2) hb);replace HB:=am_ (below_step (zl2_ HB GE1 GE2) hb);(try clear hb);(try clear hb2);(try clear hk);(try clear hi);(try clear ho0);obtain ⟨Ao17,co17,eo17⟩:=Kd.R_slice HO7.out;subst eo17;obtain ⟨hcz19_0,hcz19_1⟩:=x2_ BK2;have hfz19_0:=blk_frozen BK2.out 0;have hfz19_1:=blk_frozen BK2.out 1))
    refine bodyPost_ret (results_cell_row rfl _ _ gb2 67 #[.slice Ao17 t5.length co17, .int .i64 t8] (0,0) _ rfl (zw_ BK2) Try.underlying67 rfl (by kernel_rfl)) rfl ?_
    exact ⟨_,by first|rfl|(simp [errW_none,errW_some]<;>rfl)|(simp [*,errW_none,errW_some]<;>rfl),zy_ HO7 BK2,zl2_ HB GE1 GE2⟩
   replace c14:=Bool.eq_false_iff.mpr c14
   subst c14
   have H1:((r10_Find.f kj4 l0 a1).bind fun t9=>(if t9≥0 then ((r10_no.f 3).bind fun bt10=>(some (bt10.1,bt10.2))) else (if a2.toList=([]:List UInt8) then (r10_Create.j1 kj4 l0 a1 a2 false a3_0 a3_1 a3_2) else ((r10_Find.f kj4 l0 a2).bind fun t14=>(r10_Create.j1 kj4 l0 a1 a2 (decide (t14<0)) a3_0 a3_1 a3_2)))))=some (r1,r2):=by rw [if_neg (show¬(false=true) by decide)] at H;exact H
   clear H
   have H:=H1
   clear H1
   replace H:=Option.bind_eq_some_iff.mp H
   obtain ⟨t9,A200,H⟩:=H
   try dsimp only at H
   have A20:=Aside0.mk A200
   clear A200
   by_cases c21:t9≥0
   ·rw [if_pos c21] at H
    have c21b0:decide (0≤t9)=true:=decide_eq_true c21
    clear c21
    replace H:=Option.bind_eq_some_iff.mp H
    obtain ⟨⟨t10,t13⟩,A220,H⟩:=H
    try dsimp only at H
    have A22:=Aside0.mk A220
    clear A220
    simp only [Option.some.injEq,Prod.mk.injEq] at H
    obtain ⟨rfl,rfl⟩:=H
    go_wp2_with (first|((with_reducible refine gate_callee (f:=50) rfl ?_);refine gl_ (some 24) Try.func50 #[.slice A0 l0.length c0, .string a1] ?_;(with_reducible refine (r10_Find.calls kj4 _ _ l0 a1 t9 _ ?side1 ?side2 A20.out).mono ?_);(case side1=>exact zc_ (Kd.C_below HR0.out HB.out));(case side2=>exact HC0.out);rintro e w' ⟨rfl,⟨nd,rfl⟩⟩;refine ⟨_,rfl, ?_⟩;(try (rw [drewN_self wc];generalize hq_:World.drewN wc _=wc;have n0_:Aside0 (wc.heap[gb1]?=some (.cells #[.int .i64 a3_0, .int .i64 a3_1, .int .i64 a3_2] 27 (0,0))):=⟨by rw [←hq_];exact (zb_ BK1)⟩;have n1_:Aside0 (wc.heap[gb2]?=some (.cells #[.slice none 0 0, .int .i64 0] 67 (0,0))):=⟨by rw [←hq_];exact (zb_ BK2)⟩;have n2_:Aside0 (Below w.heap.size w wc):=⟨by rw [←hq_];exact (zl2_ HB GE1 GE2)⟩;clear BK1 BK2 HB hq_;have BK1:=n0_;have BK2:=n1_;have HB:=n2_;clear n0_ n1_ n2_)))|((with_reducible refine gate_callee (f:=113) rfl ?_);refine gl_ (some 26) Try.func113 #[.int .i64 3] ?_;(with_reducible refine (r10_no.calls 3 t10 t13 _ A22.out).mono ?_);rintro e w23 ⟨v11,rfl,ho0,hb⟩;refine ⟨_,rfl, ?_⟩;have HO12:=am_ (Kd.R_lower ho0 (below_size (zl2_ HB GE1 GE2)));replace BK1:=am_ (blk_below (zb_ BK1) hb);replace BK2:=am_ (blk_below (zb_ BK2) hb);replace HB:=am_ (below_step (zl2_ HB GE1 GE2) hb);(try clear hb);(try clear hb2);(try clear hk);(try clear hi);(try clear ho0);obtain ⟨Ao24,co24,eo24⟩:=Kd.R_slice HO12.out;subst eo24;obtain ⟨hcz26_0,hcz26_1⟩:=x2_ BK2;have hfz26_0:=blk_frozen BK2.out 0;have hfz26_1:=blk_frozen BK2.out 1))
    refine bodyPost_ret (results_cell_row rfl _ _ gb2 67 #[.slice Ao24 t10.length co24, .int .i64 t13] (0,0) _ rfl (zw_ BK2) Try.underlying67 rfl (by kernel_rfl)) rfl ?_
    exact ⟨_,by first|rfl|(simp [errW_none,errW_some]<;>rfl)|(simp [*,errW_none,errW_some]<;>rfl),zy_ HO12 BK2,zl2_ HB GE1 GE2⟩
   rw [if_neg c21] at H
   have c21b0:decide (0≤t9)=false:=decide_eq_false c21
   clear c21
   have HC27:=Aside0.mk H
   clear H
   go_upto_region 5 with (first|((with_reducible refine gate_callee (f:=50) rfl ?_);refine gl_ (some 24) Try.func50 #[.slice A0 l0.length c0, .string a1] ?_;(with_reducible refine (r10_Find.calls kj4 _ _ l0 a1 t9 _ ?side1 ?side2 A20.out).mono ?_);(case side1=>exact zc_ (Kd.C_below HR0.out HB.out));(case side2=>exact HC0.out);rintro e w' ⟨rfl,⟨nd,rfl⟩⟩;refine ⟨_,rfl, ?_⟩))
   (try simp only [Act.put,List.setIfInBounds_toArray,List.set_cons_zero,List.set_cons_succ])
   go_cut [27] (fun v27 wc=> ∃(kq:Nat) (x27_26:Bool),v27= .bool x27_26∧Aside0 (r10_Create.j1 kq l0 a1 a2 x27_26 a3_0 a3_1 a3_2=some (r1,r2))∧Aside0 (kq≤kj4)∧Aside0 (wc.heap[gb1]?=some (.cells #[.int .i64 a3_0, .int .i64 a3_1, .int .i64 a3_2] 27 (0,0)))∧Aside0 (wc.heap[gb2]?=some (.cells #[(.slice none 0 0), .int .i64 0] 67 (0,0)))∧Aside0 (Below w.heap.size w wc))
   case first=>
    have H:=HC27.out
    clear HC27
    by_cases c28:a2.toList=([]:List UInt8)
    ·rw [if_pos c28] at H
     have c28b0:(a2.toList==([]:List UInt8))=true:=beq_iff_eq.mpr c28
     clear c28
     (first|rw [c28b0]|(simp only [i64_w,i32_w];rw [c28b0])|skip)
     have H':=Aside0.mk H
     clear H
     go_wp2
     go_meet
     case rel=>exact ⟨_,(false),(by first|rfl|(simp;done)|(simp [*];done)),H',⟨by have:=HJ4.out;first|omega|exact Nat.le_refl _⟩,⟨by refine zk_ ?_;exact BK1.out⟩,⟨by refine zk_ ?_;exact BK2.out⟩,⟨zl2_ HB GE1 GE2⟩⟩
    rw [if_neg c28] at H
    have c28b0:(a2.toList==([]:List UInt8))=false:=beq_eq_false_iff_ne.mpr c28
    (first|rw [c28b0]|(simp only [i64_w,i32_w];rw [c28b0])|skip)
    replace H:=Option.bind_eq_some_iff.mp H
    obtain ⟨t14,A290,H⟩:=H
    try dsimp only at H
    have A29:=Aside0.mk A290
    clear A290
    have H':=Aside0.mk H
    clear H
    go_wp2_with (first|(go_at_call 50;(with_reducible refine (r10_Find.calls kj4 _ _ l0 a2 t14 _ ?side1 ?side2 A29.out).mono ?_);(case side1=>exact zc_ (Kd.C_below HR0.out HB.out));(case side2=>exact HC0.out);rintro e w' ⟨rfl,⟨nd,rfl⟩⟩))
    go_meet
    case rel=>exact ⟨_,(decide (t14<0)),(by first|rfl|(simp;done)|(simp [*];done)),H',⟨by have:=HJ4.out;first|omega|exact Nat.le_refl _⟩,⟨by refine zk_ ?_;exact BK1.out⟩,⟨by refine zk_ ?_;exact BK2.out⟩,⟨zl2_ HB GE1 GE2⟩⟩
   case rest=>
    clear HC27
    try clear c1
    try clear c2
    try clear p2
    try clear c5
    try clear c8
    try clear c9
    try clear c10
    try clear c11
    try clear c14
    try clear c18
    try clear c21
    try clear c21b0
    try clear c25
    try clear c28
    try clear c28b0
    try clear hcz12_0
    try clear hcz12_1
    try clear hcz12_2
    try clear hcz19_0
    try clear hcz19_1
    try clear hcz26_0
    try clear hcz26_1
    try clear hfz19_0
    try clear hfz19_1
    try clear hfz26_0
    try clear hfz26_1
    try clear p2
    obtain ⟨kq,x27_26,rfl,HA,HJ26,BK1,BK2,HB⟩:=hcut
    cases kq with
    |zero=>exact absurd HA.out (by simp [r10_Create.j1])
    |succ kj26=>
     have H:=HA.out
     clear HA
     simp only [r10_Create.j1] at H
     by_cases c30:x27_26=true
     ·subst c30
      have H1:((r10_no.f 2).bind fun bt15=>(some (bt15.1,bt15.2)))=some (r1,r2):=by rw [if_pos rfl] at H;exact H
      clear H
      have H:=H1
      clear H1
      replace H:=Option.bind_eq_some_iff.mp H
      obtain ⟨⟨t15,t18⟩,A310,H⟩:=H
      try dsimp only at H
      have A31:=Aside0.mk A310
      clear A310
      simp only [Option.some.injEq,Prod.mk.injEq] at H
      obtain ⟨rfl,rfl⟩:=H
      go_wp2_with (first|((with_reducible refine gate_callee (f:=113) rfl ?_);refine gl_ (some 36) Try.func113 #[.int .i64 2] ?_;(with_reducible refine (r10_no.calls 2 t15 t18 _ A31.out).mono ?_);rintro e w32 ⟨v16,rfl,ho0,hb⟩;refine ⟨_,rfl, ?_⟩;have HO17:=am_ (Kd.R_lower ho0 (below_size (zl2_ HB GE1 GE2)));replace BK1:=am_ (blk_below (zb_ BK1) hb);replace BK2:=am_ (blk_below (zb_ BK2) hb);replace HB:=am_ (below_step (zl2_ HB GE1 GE2) hb);(try clear hb);(try clear hb2);(try clear hk);(try clear hi);(try clear ho0);obtain ⟨Ao33,co33,eo33⟩:=Kd.R_slice HO17.out;subst eo33;obtain ⟨hcz35_0,hcz35_1⟩:=x2_ BK2;have hfz35_0:=blk_frozen BK2.out 0;have hfz35_1:=blk_frozen BK2.out 1))
      refine bodyPost_ret (results_cell_row rfl _ _ gb2 67 #[.slice Ao33 t15.length co33, .int .i64 t18] (0,0) _ rfl (zw_ BK2) Try.underlying67 rfl (by kernel_rfl)) rfl ?_
      exact ⟨_,by first|rfl|(simp [errW_none,errW_some]<;>rfl)|(simp [*,errW_none,errW_some]<;>rfl),zy_ HO17 BK2,zl2_ HB GE1 GE2⟩
     replace c30:=Bool.eq_false_iff.mpr c30
     subst c30
     have H1:(if (l0.length:Int)≥120 then ((r10_no.f 4).bind fun bt19=>(some (bt19.1,bt19.2))) else (r10_Create.l0 kj26 l0 a1 a2 0 a3_0 a3_1 a3_2))=some (r1,r2):=by rw [if_neg (show¬(false=true) by decide)] at H;exact H
     clear H
     have H:=H1
     clear H1
     by_cases c36:(l0.length:Int)≥120
     ·rw [if_pos c36] at H
      have c36b0:decide (120≤(l0.length:Int))=true:=decide_eq_true c36
      clear c36
      replace H:=Option.bind_eq_some_iff.mp H
      obtain ⟨⟨t19,t22⟩,A370,H⟩:=H
      try dsimp only at H
      have A37:=Aside0.mk A370
      clear A370
      simp only [Option.some.injEq,Prod.mk.injEq] at H
      obtain ⟨rfl,rfl⟩:=H
      go_wp2_with (first|((with_reducible refine gate_callee (f:=113) rfl ?_);refine gl_ (some 41) Try.func113 #[.int .i64 4] ?_;(with_reducible refine (r10_no.calls 4 t19 t22 _ A37.out).mono ?_);rintro e w38 ⟨v20,rfl,ho0,hb⟩;refine ⟨_,rfl, ?_⟩;have HO21:=am_ (Kd.R_lower ho0 (below_size (zl2_ HB GE1 GE2)));replace BK1:=am_ (blk_below (zb_ BK1) hb);replace BK2:=am_ (blk_below (zb_ BK2) hb);replace HB:=am_ (below_step (zl2_ HB GE1 GE2) hb);(try clear hb);(try clear hb2);(try clear hk);(try clear hi);(try clear ho0);obtain ⟨Ao39,co39,eo39⟩:=Kd.R_slice HO21.out;subst eo39;obtain ⟨hcz41_0,hcz41_1⟩:=x2_ BK2;have hfz41_0:=blk_frozen BK2.out 0;have hfz41_1:=blk_frozen BK2.out 1))
      refine bodyPost_ret (results_cell_row rfl _ _ gb2 67 #[.slice Ao39 t19.length co39, .int .i64 t22] (0,0) _ rfl (zw_ BK2) Try.underlying67 rfl (by kernel_rfl)) rfl ?_
      exact ⟨_,by first|rfl|(simp [errW_none,errW_some]<;>rfl)|(simp [*,errW_none,errW_some]<;>rfl),zy_ HO21 BK2,zl2_ HB GE1 GE2⟩
     rw [if_neg c36] at H
     have c36b0:decide (120≤(l0.length:Int))=false:=decide_eq_false c36
     clear c36
     have H':=Aside0.mk H
     clear H
     go_wp2
     go_loopg [9] kj26 (fun kq v9 w'=> ∃(x9_3:Int),v9= .int .i64 x9_3∧Aside0 (r10_Create.l0 kq l0 a1 a2 x9_3 a3_0 a3_1 a3_2=some (r1,r2))∧Aside0 (kq≤kj26)∧Aside0 (w'.heap[gb1]?=some (.cells #[.int .i64 a3_0, .int .i64 a3_1, .int .i64 a3_2] 27 (0,0)))∧Aside0 (w'.heap[gb2]?=some (.cells #[(.slice none 0 0), .int .i64 0] 67 (0,0)))∧Aside0 (Below w.heap.size w w'))
     case atStart=>exact ⟨(0),(by first|rfl|(simp;done)|(simp [*];done)),H',⟨Nat.le_refl _⟩,⟨by refine zk_ ?_;exact BK1.out⟩,⟨by refine zk_ ?_;exact BK2.out⟩,⟨zl2_ HB GE1 GE2⟩⟩
     case round=>
      clear H'
      try clear c1
      try clear c2
      try clear p2
      try clear c3
      try clear c4
      try clear c5
      try clear c8
      try clear c9
      try clear c10
      try clear c11
      try clear c14
      try clear c18
      try clear c21
      try clear c21b0
      try clear c25
      try clear c28
      try clear c28b0
      try clear c30
      try clear c34
      try clear c36
      try clear c36b0
      try clear c40
      try clear hcz12_0
      try clear hcz12_1
      try clear hcz12_2
      try clear hcz19_0
      try clear hcz19_1
      try clear hcz26_0
      try clear hcz26_1
      try clear hcz35_0
      try clear hcz35_1
      try clear hcz41_0
      try clear hcz41_1
      try clear hfz19_0
      try clear hfz19_1
      try clear hfz26_0
      try clear hfz26_1
      try clear hfz35_0
      try clear hfz35_1
      try clear hfz41_0
      try clear hfz41_1
      try clear p2
      obtain ⟨x9_3,rfl,HA,HK3,BK1,BK2,HB⟩:=hrel
      cases gk with
      |zero=>exact absurd HA.out (by simp [r10_Create.l0])
      |succ k3=>
       have H:=HA.out
       clear HA
       simp only [r10_Create.l0] at H
       by_cases c42:x9_3<(l0.length:Int)
       rotate_left
       ·rw [if_neg c42] at H
        have c42b0:decide (x9_3<(l0.length:Int))=false:=decide_eq_false c42
        clear c42
        by_cases c61:0≤x9_3
        rotate_left
        ·rw [if_neg c61] at H
         exact absurd H (by simp)

        rw [if_pos c61] at H
        have c61b1:decide (0≤x9_3)=true:=decide_eq_true c61
        clear c61
        by_cases c62:x9_3≤(l0.length:Int)
        rotate_left
        ·rw [if_neg c62] at H
         exact absurd H (by simp)
        rw [if_pos c62] at H
        have c62b1:decide (x9_3≤(l0.length:Int))=true:=decide_eq_true c62
        clear c62
        obtain ⟨y41,hy41⟩: ∃y_:List (S31),y_=(l0.take (x9_3:Int).toNat):=⟨_,rfl⟩
        replace H:((r10_copied.f y41).bind fun t45=>(if t45.length<1256584717458 then ((some (t45++ [(⟨a1,a2,(⟨a3_0,a3_1,a3_2⟩:S27),(⟨0,0,0⟩:S27),(⟨0,0,0⟩:S27),1⟩:S31)]:List (S31))).bind fun y48=>((some (l0.drop (x9_3:Int).toNat:List (S31))).bind fun y51=>(if y48.length+y51.length<1256584717458 then (some ((y48++y51),0)) else (none)))) else (none)))=some (r1,r2):=by first|(rw [hy41];with_reducible exact H)|(have H2_:=(Option.bind_some _ _).symm.trans H;rw [hy41];with_reducible exact H2_)|(have H2_:=(Option.bind_some _ _).symm.trans H;with_reducible exact H2_)|with_reducible exact H|(rw [hy41];exact H)|exact H
        have Ny41:=Aside0.mk hy41
        clear hy41
        replace H:=Option.bind_eq_some_iff.mp H
        obtain ⟨t45,A630,H⟩:=H
        try dsimp only at H
        have A63:=Aside0.mk A630
        clear A630
        by_cases c64:t45.length<1256584717458
        rotate_left
        ·rw [if_neg c64] at H
         exact absurd H (by simp)
        rw [if_pos c64] at H
        have LMc64:=Aside0.mk c64
        clear c64
        obtain ⟨y48,hy48⟩: ∃y_:List (S31),y_=(t45++ [(⟨a1,a2,(⟨a3_0,a3_1,a3_2⟩:S27),(⟨0,0,0⟩:S27),(⟨0,0,0⟩:S27),1⟩:S31)]):=⟨_,rfl⟩
        replace H:((some (l0.drop (x9_3:Int).toNat:List (S31))).bind fun y51=>(if y48.length+y51.length<1256584717458 then (some ((y48++y51),0)) else (none)))=some (r1,r2):=by first|(rw [hy48];with_reducible exact H)|(have H2_:=(Option.bind_some _ _).symm.trans H;rw [hy48];with_reducible exact H2_)|(have H2_:=(Option.bind_some _ _).symm.trans H;with_reducible exact H2_)|with_reducible exact H|(rw [hy48];exact H)|exact H
        have Ny48:=Aside0.mk hy48
        clear hy48
        obtain ⟨y51,hy51⟩: ∃y_:List (S31),y_=(l0.drop (x9_3:Int).toNat):=⟨_,rfl⟩
        replace H:(if y48.length+y51.length<1256584717458 then (some ((y48++y51),0)) else (none))=some (r1,r2):=by first|(rw [hy51];with_reducible exact H)|(have H2_:=(Option.bind_some _ _).symm.trans H;rw [hy51];with_reducible exact H2_)|(have H2_:=(Option.bind_some _ _).symm.trans H;with_reducible exact H2_)|with_reducible exact H|(rw [hy51];exact H)|exact H
        have Ny51:=Aside0.mk hy51
        clear hy51
        by_cases c67:y48.length+y51.length<1256584717458
        rotate_left
        ·rw [if_neg c67] at H
         exact absurd H (by simp)
        rw [if_pos c67] at H
        have LMc67:=Aside0.mk c67
        clear c67
        obtain ⟨y55,hy55⟩: ∃y_:List (S31),y_=(y48++y51):=⟨_,rfl⟩
        replace H:(some (y55,0))=some (r1,r2):=by first|(rw [hy55];with_reducible exact H)|(have H2_:=(Option.bind_some _ _).symm.trans H;rw [hy55];with_reducible exact H2_)|(have H2_:=(Option.bind_some _ _).symm.trans H;with_reducible exact H2_)|with_reducible exact H|(rw [hy55];exact H)|exact H
        have Ny55:=Aside0.mk hy55
        clear hy55
        simp only [Option.some.injEq,Prod.mk.injEq] at H
        obtain ⟨rfl,rfl⟩:=H
        have q68:(x9_3:Int)≤((l0.length:Int):Int):=of_decide_eq_true zq_
        obtain ⟨i068,hi068,_,hsz68,_⟩:=info_parts info31
        have hroom68:l0.length≤c0:=HC0.out
        have hC68:Kd.C k31 _ A0 l0.length l0:=HR0.out
        have hcut68:=cut_to (P:=Try.prog) 24 31 .i64 Try.underlying24 hi068 A0 l0.length c0 x9_3 (of_decide_eq_true zq_) q68 hroom68
        have hr68:=Kd.C_take (m:=(x9_3:Int).toNat) hC68 (by omega)
        have hy68:y41.length=(x9_3:Int).toNat:=(by rw [Ny41.out,List.length_take];omega)
        rw [←Ny41.out] at hr68
        rw [←hy68] at hcut68
        have HR44:=Aside0.mk hr68
        have HC44:=am_ (show y41.length≤c0 from by omega)
        clear hr68 hC68 hroom68 hi068 hsz68
        clear hy68
        replace q68:=eq_true q68
        go_wp2_with (first|((with_reducible refine gate_callee (f:=124) rfl ?_);refine gl_ (some 60) Try.func124 #[.slice A0 y41.length c0] ?_;(with_reducible refine (r10_copied.calls _ _ y41 t45 _ ?side1 ?side2 A63.out).mono ?_);(case side1=>exact zc_ (Kd.C_below HR44.out HB.out));(case side2=>exact HC44.out);rintro e w69 ⟨v46,rfl,ho0,hb⟩;refine ⟨_,rfl, ?_⟩;have HO47:=am_ (Kd.R_lower ho0 (below_size (zl2_ HB GE1 GE2)));replace BK1:=am_ (blk_below (zb_ BK1) hb);replace BK2:=am_ (blk_below (zb_ BK2) hb);replace HB:=am_ (below_step (zl2_ HB GE1 GE2) hb);(try clear hb);(try clear hb2);(try clear hk);(try clear hi);(try clear ho0);obtain ⟨hcz71_0,hcz71_1,hcz71_2⟩:=x3_ BK1)|((with_reducible refine gate_builtin (b:= .append) (xs:=#[.tmp 61, .tmp 66]) rfl ?_);at_builtin;refine Kd.R_append k31 (w0:=w) w.heap.size rfl (.tmp 61) (.tmp 66) 24 31 (.agg #[(.string ⟨#[]⟩),(.string ⟨#[]⟩),(.int .i64 0),(.int .i64 0),(.int .i64 0),(.int .i64 0),(.int .i64 0),(.int .i64 0),(.int .i64 0),(.int .i64 0),(.int .i64 0),(.int .i64 0)]) 112 rfl Try.underlying24 info31 rfl (by decide) (by omega) v46 t45 (⟨a1,a2,(⟨a3_0,a3_1,a3_2⟩:S27),(⟨0,0,0⟩:S27),(⟨0,0,0⟩:S27),1⟩:S31) [.string a1, .string a2, .int .i64 a3_0, .int .i64 a3_1, .int .i64 a3_2, .int .i64 0, .int .i64 0, .int .i64 0, .int .i64 0, .int .i64 0, .int .i64 0, .int .i64 1] (fun _=>True) (fun _=>False) rfl rfl ?aP (fun _ hk=>hk.elim) ?aF ?aO ?aB ?aS ?aL ?_;(case aP=>exact k31_mkM _ _ _ (⟨a1,a2,(⟨a3_0,a3_1,a3_2⟩:S27),(⟨0,0,0⟩:S27),(⟨0,0,0⟩:S27),1⟩:S31));(case aB=>exact (zl2_ HB GE1 GE2));(case aF=>exact (fun _ _=>trivial));(case aO=>exact (zr_ HO47));(case aS=>exact (below_size (zl2_ HB GE1 GE2)));(case aL=>have:=LMc64.out;omega);intro v49 w72 ho hb hg hat;rw [←Ny48.out] at ho;have n0_:=am_ (blk_grown (zb_ BK1) hg (Kd.R_ne HO47.out BK1.out (by decide)));have n1_:=am_ (blk_grown (zb_ BK2) hg (Kd.R_ne HO47.out BK2.out (by decide)));have n2_:=am_ (hb);have n3_:=am_ (ho);clear BK1;clear BK2;clear HB;clear HO47;have BK1:=n0_;have BK2:=n1_;have HB:=n2_;have HO50:=n3_;clear n0_ n1_ n2_ n3_;clear ho hb hg hat;have q73:(x9_3:Int)≤((l0.length:Int):Int):=of_decide_eq_true zq_;obtain ⟨i073,hi073,_,hsz73,_⟩:=info_parts info31;have hroom73:l0.length≤c0:=HC0.out;have hC73:Kd.C k31 _ A0 l0.length l0:=HR0.out;have q073:(0:Int)≤(x9_3:Int):=of_decide_eq_true zq_;have hcut73:=cut_from (P:=Try.prog) 24 31 .i64 Try.underlying24 hi073 12 hsz73 A0 l0.length c0 x9_3 q073 q73;have hr73:=Kd.C_drop (m:=(x9_3:Int).toNat) (c:=c0) hC73 (by omega) hroom73;obtain ⟨A73,hA73⟩: ∃A1,A1=(if c0=(x9_3:Int).toNat then A0 else (A0:Option Addr).map (·.add ((x9_3:Int).toNat*12))):=⟨_,rfl⟩;obtain ⟨c73,hc73⟩: ∃c1,c1=c0 - (x9_3:Int).toNat:=⟨_,rfl⟩;have hy73:y51.length=l0.length - (x9_3:Int).toNat:=(by rw [Ny51.out,List.length_drop]<;>omega);rw [show (l0).drop (x9_3:Int).toNat=y51 from Ny51.out.symm] at hr73;replace hr73:Kd.C k31 _ A73 y51.length y51:=(by rw [hA73];exact hr73);rw [←hy73,←hA73,←hc73] at hcut73;have HR54:=Aside0.mk hr73;clear hr73 hC73 hroom73 hi073 hsz73 hc73;clear hy73 hA73;replace q73:=eq_true q73)|((with_reducible refine gate_builtin (b:= .append) (xs:=#[.tmp 68, .tmp 71]) rfl ?_);at_builtin;refine Kd.R_append_rows k31 (w0:=w) w.heap.size rfl (.tmp 68) (.tmp 71) 24 31 (.agg #[(.string ⟨#[]⟩),(.string ⟨#[]⟩),(.int .i64 0),(.int .i64 0),(.int .i64 0),(.int .i64 0),(.int .i64 0),(.int .i64 0),(.int .i64 0),(.int .i64 0),(.int .i64 0),(.int .i64 0)]) 112 rfl Try.underlying24 info31 rfl (by decide) (by omega) v49 y48 y51 _ _ _ (fun _=>True) (fun _=>False) rfl rfl ?aO ?aR (fun _ _ h=>h) (fun _ h=>h.elim) ?aF ?aB ?aS ?aL ?_;(case aR=>repeat (first|exact (Kd.C_below HR54.out HB.out)|(with_reducible refine Kd.C_alloc ?_ _)|(with_reducible refine Kd.C_drewN ?_ _)|(with_reducible refine Kd.C_drew ?_)));(case aB=>exact (zl2_ HB GE1 GE2));(case aF=>exact (fun _ _=>trivial));(case aO=>exact (zr_ HO50));(case aS=>exact (below_size (zl2_ HB GE1 GE2)));(case aL=>have:=LMc67.out;omega);intro v56 w74 ho hb hg hat;rw [←Ny55.out] at ho;have n0_:=am_ (blk_grown (zb_ BK1) hg (Kd.R_ne HO50.out BK1.out (by decide)));have n1_:=am_ (blk_grown (zb_ BK2) hg (Kd.R_ne HO50.out BK2.out (by decide)));have n2_:=am_ (hb);have n3_:=am_ (ho);clear BK1;clear BK2;clear HB;clear HO50;have BK1:=n0_;have BK2:=n1_;have HB:=n2_;have HO57:=n3_;clear n0_ n1_ n2_ n3_;clear ho hb hg hat;obtain ⟨Ao75,co75,eo75⟩:=Kd.R_slice HO57.out;subst eo75;obtain ⟨hcz76_0,hcz76_1⟩:=x2_ BK2;have hfz76_0:=blk_frozen BK2.out 0;have hfz76_1:=blk_frozen BK2.out 1))
        refine bodyPost_ret (results_cell_row rfl _ _ gb2 67 #[.slice Ao75 y55.length co75, .int .i64 0] (0,0) _ rfl (zw_ BK2) Try.underlying67 rfl (by kernel_rfl)) rfl ?_
        exact ⟨_,by first|rfl|(simp [errW_none,errW_some]<;>rfl)|(simp [*,errW_none,errW_some]<;>rfl),zy_ HO57 BK2,zl2_ HB GE1 GE2⟩
       rw [if_pos c42] at H
       have c42b0:decide (x9_3<(l0.length:Int))=true:=decide_eq_true c42
       clear c42
       by_cases c43:0≤x9_3
       rotate_left
       ·rw [if_neg c43] at H
        exact absurd H (by simp)
       rw [if_pos c43] at H
       have c43b0:decide (0≤x9_3)=true:=decide_eq_true c43
       clear c43
       by_cases c44:(Op.bytesLess (((rd_T31 l0 x9_3).f0).toList) a1.toList)=true
       ·rw [if_pos c44] at H
        have c44b0:(Op.bytesLess (((rd_T31 l0 x9_3).f0).toList) a1.toList)=true:=c44
        clear c44
        have H':=Aside0.mk H
        clear H
        have p23:0≤(x9_3:Int):=of_decide_eq_true zq_
        have q23:x9_3<(l0.length:Int):=of_decide_eq_true zq_
        obtain ⟨ad23,e23,hx23_0,hx23_1,hx23_2,hx23_3,hx23_4,hx23_5,hx23_6,hx23_7,hx23_8,hx23_9,hx23_10,hx23_11⟩:=at_T31 HR0.out x9_3 p23 q23
        cases e23
        replace hx23_0:=zx_ HB hx23_0
        replace hx23_1:=zx_ HB hx23_1
        replace hx23_2:=zx_ HB hx23_2
        replace hx23_3:=zx_ HB hx23_3
        replace hx23_4:=zx_ HB hx23_4
        replace hx23_5:=zx_ HB hx23_5
        replace hx23_6:=zx_ HB hx23_6
        replace hx23_7:=zx_ HB hx23_7
        replace hx23_8:=zx_ HB hx23_8
        replace hx23_9:=zx_ HB hx23_9
        replace hx23_10:=zx_ HB hx23_10
        replace hx23_11:=zx_ HB hx23_11
        replace p23:=eq_true p23
        replace q23:=eq_true q23
        go_wp2
        go_roundg k3
        case measure=>have:=HJ4.out;have:=HJ26.out;have:=HK3.out;omega
        case rel=>exact ⟨(wrap64 (x9_3+1)),(by first|rfl|(simp;done)|(simp [*];done)),H',⟨by have:=HJ4.out;have:=HJ26.out;have:=HK3.out;omega⟩,⟨by refine zk_ ?_;exact BK1.out⟩,⟨by refine zk_ ?_;exact BK2.out⟩,⟨zl2_ HB GE1 GE2⟩⟩
       rw [if_neg c44] at H
       have c44b0:(Op.bytesLess (((rd_T31 l0 x9_3).f0).toList) a1.toList)=false:=by simpa using c44
       clear c44
       have c45b0:=eq_true (of_decide_eq_true zq_:0≤x9_3)
       by_cases c46:x9_3≤(l0.length:Int)
       rotate_left
       ·rw [if_neg c46] at H
        exact absurd H (by simp)
       rw [if_pos c46] at H
       have c46b1:decide (x9_3≤(l0.length:Int))=true:=decide_eq_true c46
       clear c46
       obtain ⟨y24,hy24⟩: ∃y_:List (S31),y_=(l0.take (x9_3:Int).toNat):=⟨_,rfl⟩
       replace H:((r10_copied.f y24).bind fun t28=>(if t28.length<1256584717458 then ((some (t28++ [(⟨a1,a2,(⟨a3_0,a3_1,a3_2⟩:S27),(⟨0,0,0⟩:S27),(⟨0,0,0⟩:S27),1⟩:S31)]:List (S31))).bind fun y31=>((some (l0.drop (x9_3:Int).toNat:List (S31))).bind fun y34=>(if y31.length+y34.length<1256584717458 then (some ((y31++y34),0)) else (none)))) else (none)))=some (r1,r2):=by first|(rw [hy24];with_reducible exact H)|(have H2_:=(Option.bind_some _ _).symm.trans H;rw [hy24];with_reducible exact H2_)|(have H2_:=(Option.bind_some _ _).symm.trans H;with_reducible exact H2_)|with_reducible exact H|(rw [hy24];exact H)|exact H
       have Ny24:=Aside0.mk hy24
       clear hy24
       replace H:=Option.bind_eq_some_iff.mp H
       obtain ⟨t28,A470,H⟩:=H
       try dsimp only at H
       have A47:=Aside0.mk A470
       clear A470
       by_cases c48:t28.length<1256584717458
       rotate_left
       ·rw [if_neg c48] at H
        exact absurd H (by simp)
       rw [if_pos c48] at H
       have LMc48:=Aside0.mk c48
       clear c48
       obtain ⟨y31,hy31⟩: ∃y_:List (S31),y_=(t28++ [(⟨a1,a2,(⟨a3_0,a3_1,a3_2⟩:S27),(⟨0,0,0⟩:S27),(⟨0,0,0⟩:S27),1⟩:S31)]):=⟨_,rfl⟩
       replace H:((some (l0.drop (x9_3:Int).toNat:List (S31))).bind fun y34=>(if y31.length+y34.length<1256584717458 then (some ((y31++y34),0)) else (none)))=some (r1,r2):=by first|(rw [hy31];with_reducible exact H)|(have H2_:=(Option.bind_some _ _).symm.trans H;rw [hy31];with_reducible exact H2_)|(have H2_:=(Option.bind_some _ _).symm.trans H;with_reducible exact H2_)|with_reducible exact H|(rw [hy31];exact H)|exact H
       have Ny31:=Aside0.mk hy31
       clear hy31
       obtain ⟨y34,hy34⟩: ∃y_:List (S31),y_=(l0.drop (x9_3:Int).toNat):=⟨_,rfl⟩
       replace H:(if y31.length+y34.length<1256584717458 then (some ((y31++y34),0)) else (none))=some (r1,r2):=by first|(rw [hy34];with_reducible exact H)|(have H2_:=(Option.bind_some _ _).symm.trans H;rw [hy34];with_reducible exact H2_)|(have H2_:=(Option.bind_some _ _).symm.trans H;with_reducible exact H2_)|with_reducible exact H|(rw [hy34];exact H)|exact H
       have Ny34:=Aside0.mk hy34
       clear hy34
       by_cases c51:y31.length+y34.length<1256584717458
       rotate_left
       ·rw [if_neg c51] at H
        exact absurd H (by simp)
       rw [if_pos c51] at H
       have LMc51:=Aside0.mk c51
       clear c51
       obtain ⟨y38,hy38⟩: ∃y_:List (S31),y_=(y31++y34):=⟨_,rfl⟩
       replace H:(some (y38,0))=some (r1,r2):=by first|(rw [hy38];with_reducible exact H)|(have H2_:=(Option.bind_some _ _).symm.trans H;rw [hy38];with_reducible exact H2_)|(have H2_:=(Option.bind_some _ _).symm.trans H;with_reducible exact H2_)|with_reducible exact H|(rw [hy38];exact H)|exact H
       have Ny38:=Aside0.mk hy38
       clear hy38
       simp only [Option.some.injEq,Prod.mk.injEq] at H
       obtain ⟨rfl,rfl⟩:=H
       have p23:0≤(x9_3:Int):=of_decide_eq_true zq_
       have q23:x9_3<(l0.length:Int):=of_decide_eq_true zq_
       obtain ⟨ad23,e23,hx23_0,hx23_1,hx23_2,hx23_3,hx23_4,hx23_5,hx23_6,hx23_7,hx23_8,hx23_9,hx23_10,hx23_11⟩:=at_T31 HR0.out x9_3 p23 q23
       cases e23
       replace hx23_0:=zx_ HB hx23_0
       replace hx23_1:=zx_ HB hx23_1
       replace hx23_2:=zx_ HB hx23_2
       replace hx23_3:=zx_ HB hx23_3
       replace hx23_4:=zx_ HB hx23_4
       replace hx23_5:=zx_ HB hx23_5
       replace hx23_6:=zx_ HB hx23_6
       replace hx23_7:=zx_ HB hx23_7
       replace hx23_8:=zx_ HB hx23_8
       replace hx23_9:=zx_ HB hx23_9
       replace hx23_10:=zx_ HB hx23_10
       replace hx23_11:=zx_ HB hx23_11
       replace p23:=eq_true p23
       replace q23:=eq_true q23
       have q52:(x9_3:Int)≤((l0.length:Int):Int):=of_decide_eq_true zq_
       obtain ⟨i052,hi052,_,hsz52,_⟩:=info_parts info31
       have hroom52:l0.length≤c0:=HC0.out
       have hC52:Kd.C k31 _ (some ad23) l0.length l0:=HR0.out
       have hcut52:=cut_to (P:=Try.prog) 24 31 .i64 Try.underlying24 hi052 (some ad23) l0.length c0 x9_3 (of_decide_eq_true zq_) q52 hroom52
       have hr52:=Kd.C_take (m:=(x9_3:Int).toNat) hC52 (by omega)
       have hy52:y24.length=(x9_3:Int).toNat:=(by rw [Ny24.out,List.length_take];omega)
       rw [←Ny24.out] at hr52
       rw [←hy52] at hcut52
       have HR27:=Aside0.mk hr52
       have HC27:=am_ (show y24.length≤c0 from by omega)
       clear hr52 hC52 hroom52 hi052 hsz52
       clear hy52
       replace q52:=eq_true q52
       go_wp2_with (first|((with_reducible refine gate_callee (f:=124) rfl ?_);refine gl_ (some 60) Try.func124 #[.slice (some ad23) y24.length c0] ?_;(with_reducible refine (r10_copied.calls _ _ y24 t28 _ ?side1 ?side2 A47.out).mono ?_);(case side1=>exact zc_ (Kd.C_below HR27.out HB.out));(case side2=>exact HC27.out);rintro e w53 ⟨v29,rfl,ho0,hb⟩;refine ⟨_,rfl, ?_⟩;have HO30:=am_ (Kd.R_lower ho0 (below_size (zl2_ HB GE1 GE2)));replace BK1:=am_ (blk_below (zb_ BK1) hb);replace BK2:=am_ (blk_below (zb_ BK2) hb);replace HB:=am_ (below_step (zl2_ HB GE1 GE2) hb);(try clear hb);(try clear hb2);(try clear hk);(try clear hi);(try clear ho0);obtain ⟨hcz55_0,hcz55_1,hcz55_2⟩:=x3_ BK1)|((with_reducible refine gate_builtin (b:= .append) (xs:=#[.tmp 61, .tmp 66]) rfl ?_);at_builtin;refine Kd.R_append k31 (w0:=w) w.heap.size rfl (.tmp 61) (.tmp 66) 24 31 (.agg #[(.string ⟨#[]⟩),(.string ⟨#[]⟩),(.int .i64 0),(.int .i64 0),(.int .i64 0),(.int .i64 0),(.int .i64 0),(.int .i64 0),(.int .i64 0),(.int .i64 0),(.int .i64 0),(.int .i64 0)]) 112 rfl Try.underlying24 info31 rfl (by decide) (by omega) v29 t28 (⟨a1,a2,(⟨a3_0,a3_1,a3_2⟩:S27),(⟨0,0,0⟩:S27),(⟨0,0,0⟩:S27),1⟩:S31) [.string a1, .string a2, .int .i64 a3_0, .int .i64 a3_1, .int .i64 a3_2, .int .i64 0, .int .i64 0, .int .i64 0, .int .i64 0, .int .i64 0, .int .i64 0, .int .i64 1] (fun _=>True) (fun _=>False) rfl rfl ?aP (fun _ hk=>hk.elim) ?aF ?aO ?aB ?aS ?aL ?_;(case aP=>exact k31_mkM _ _ _ (⟨a1,a2,(⟨a3_0,a3_1,a3_2⟩:S27),(⟨0,0,0⟩:S27),(⟨0,0,0⟩:S27),1⟩:S31));(case aB=>exact (zl2_ HB GE1 GE2));(case aF=>exact (fun _ _=>trivial));(case aO=>exact (zr_ HO30));(case aS=>exact (below_size (zl2_ HB GE1 GE2)));(case aL=>have:=LMc48.out;omega);intro v32 w56 ho hb hg hat;rw [←Ny31.out] at ho;have n0_:=am_ (blk_grown (zb_ BK1) hg (Kd.R_ne HO30.out BK1.out (by decide)));have n1_:=am_ (blk_grown (zb_ BK2) hg (Kd.R_ne HO30.out BK2.out (by decide)));have n2_:=am_ (hb);have n3_:=am_ (ho);clear BK1;clear BK2;clear HB;clear HO30;have BK1:=n0_;have BK2:=n1_;have HB:=n2_;have HO33:=n3_;clear n0_ n1_ n2_ n3_;clear ho hb hg hat;have q57:(x9_3:Int)≤((l0.length:Int):Int):=of_decide_eq_true zq_;obtain ⟨i057,hi057,_,hsz57,_⟩:=info_parts info31;have hroom57:l0.length≤c0:=HC0.out;have hC57:Kd.C k31 _ (some ad23) l0.length l0:=HR0.out;have q057:(0:Int)≤(x9_3:Int):=of_decide_eq_true zq_;have hcut57:=cut_from (P:=Try.prog) 24 31 .i64 Try.underlying24 hi057 12 hsz57 (some ad23) l0.length c0 x9_3 q057 q57;have hr57:=Kd.C_drop (m:=(x9_3:Int).toNat) (c:=c0) hC57 (by omega) hroom57;obtain ⟨A57,hA57⟩: ∃A1,A1=(if c0=(x9_3:Int).toNat then (some ad23) else ((some ad23):Option Addr).map (·.add ((x9_3:Int).toNat*12))):=⟨_,rfl⟩;obtain ⟨c57,hc57⟩: ∃c1,c1=c0 - (x9_3:Int).toNat:=⟨_,rfl⟩;have hy57:y34.length=l0.length - (x9_3:Int).toNat:=(by rw [Ny34.out,List.length_drop]<;>omega);rw [show (l0).drop (x9_3:Int).toNat=y34 from Ny34.out.symm] at hr57;replace hr57:Kd.C k31 _ A57 y34.length y34:=(by rw [hA57];exact hr57);rw [←hy57,←hA57,←hc57] at hcut57;have HR37:=Aside0.mk hr57;clear hr57 hC57 hroom57 hi057 hsz57 hc57;clear hy57 hA57;replace q57:=eq_true q57)|((with_reducible refine gate_builtin (b:= .append) (xs:=#[.tmp 68, .tmp 71]) rfl ?_);at_builtin;refine Kd.R_append_rows k31 (w0:=w) w.heap.size rfl (.tmp 68) (.tmp 71) 24 31 (.agg #[(.string ⟨#[]⟩),(.string ⟨#[]⟩),(.int .i64 0),(.int .i64 0),(.int .i64 0),(.int .i64 0),(.int .i64 0),(.int .i64 0),(.int .i64 0),(.int .i64 0),(.int .i64 0),(.int .i64 0)]) 112 rfl Try.underlying24 info31 rfl (by decide) (by omega) v32 y31 y34 _ _ _ (fun _=>True) (fun _=>False) rfl rfl ?aO ?aR (fun _ _ h=>h) (fun _ h=>h.elim) ?aF ?aB ?aS ?aL ?_;(case aR=>repeat (first|exact (Kd.C_below HR37.out HB.out)|(with_reducible refine Kd.C_alloc ?_ _)|(with_reducible refine Kd.C_drewN ?_ _)|(with_reducible refine Kd.C_drew ?_)));(case aB=>exact (zl2_ HB GE1 GE2));(case aF=>exact (fun _ _=>trivial));(case aO=>exact (zr_ HO33));(case aS=>exact (below_size (zl2_ HB GE1 GE2)));(case aL=>have:=LMc51.out;omega);intro v39 w58 ho hb hg hat;rw [←Ny38.out] at ho;have n0_:=am_ (blk_grown (zb_ BK1) hg (Kd.R_ne HO33.out BK1.out (by decide)));have n1_:=am_ (blk_grown (zb_ BK2) hg (Kd.R_ne HO33.out BK2.out (by decide)));have n2_:=am_ (hb);have n3_:=am_ (ho);clear BK1;clear BK2;clear HB;clear HO33;have BK1:=n0_;have BK2:=n1_;have HB:=n2_;have HO40:=n3_;clear n0_ n1_ n2_ n3_;clear ho hb hg hat;obtain ⟨Ao59,co59,eo59⟩:=Kd.R_slice HO40.out;subst eo59;obtain ⟨hcz60_0,hcz60_1⟩:=x2_ BK2;have hfz60_0:=blk_frozen BK2.out 0;have hfz60_1:=blk_frozen BK2.out 1))
       refine bodyPost_ret (results_cell_row rfl _ _ gb2 67 #[.slice Ao59 y38.length co59, .int .i64 0] (0,0) _ rfl (zw_ BK2) Try.underlying67 rfl (by kernel_rfl)) rfl ?_
       exact ⟨_,by first|rfl|(simp [errW_none,errW_some]<;>rfl)|(simp [*,errW_none,errW_some]<;>rfl),zy_ HO40 BK2,zl2_ HB GE1 GE2⟩
def r10_Limit.f (k:Nat) (l0:List (S31)) (a1:ByteArray) (a2_0:Int) (a2_1:Int) (a2_2:Int) (a3:Int):Option ((List (S31))×Int):=(r10_MayVec.f a2_0 a2_1 a2_2).bind fun t3=>(if t3=true then ((r10_old.f k l0 a1 a3).bind fun t8=>(if t8=0 then ((r10_copied.f l0).bind fun t13=>((r10_Find.f k t13 a1).bind fun t16=>(if 0≤t16 then (if t16<(t13.length:Int) then (if ((rd_T31 t13 t16).f5)≥9007199254740992 then ((r10_no.f 4).bind fun bt18=>(some (bt18.1,bt18.2))) else ((r10_Le.f ((rd_T31 t13 t16).f4.f0) ((rd_T31 t13 t16).f4.f1) ((rd_T31 t13 t16).f4.f2) a2_0 a2_1 a2_2).bind fun t23=>(if t23=true then ((some (t13.set (t16:Int).toNat (⟨(rd_T31 t13 t16).f0,(rd_T31 t13 t16).f1,(⟨a2_0,a2_1,a2_2⟩:S27),(⟨(rd_T31 t13 t16).f3.f0,(rd_T31 t13 t16).f3.f1,(rd_T31 t13 t16).f3.f2⟩:S27),(⟨(rd_T31 t13 t16).f4.f0,(rd_T31 t13 t16).f4.f1,(rd_T31 t13 t16).f4.f2⟩:S27),(rd_T31 t13 t16).f5⟩:S31):List (S31))).bind fun y24=>(some ((y24.set (t16:Int).toNat (⟨(rd_T31 y24 t16).f0,(rd_T31 y24 t16).f1,(⟨(rd_T31 y24 t16).f2.f0,(rd_T31 y24 t16).f2.f1,(rd_T31 y24 t16).f2.f2⟩:S27),(⟨(rd_T31 y24 t16).f3.f0,(rd_T31 y24 t16).f3.f1,(rd_T31 y24 t16).f3.f2⟩:S27),(⟨(rd_T31 y24 t16).f4.f0,(rd_T31 y24 t16).f4.f1,(rd_T31 y24 t16).f4.f2⟩:S27),wrap64 (((rd_T31 y24 t16).f5)+1)⟩:S31)),0))) else ((r10_no.f 12).bind fun bt27=>(some (bt27.1,bt27.2)))))) else (none)) else (none)))) else ((r10_no.f t8).bind fun bt9=>(some (bt9.1,bt9.2))))) else ((r10_no.f 1).bind fun bt4=>(some (bt4.1,bt4.2))))
theorem r10_Limit.mono: ∀a0 a1 a2 a3 a4 a5 k,LeO (r10_Limit.f k a0 a1 a2 a3 a4 a5) (r10_Limit.f (k+1) a0 a1 a2 a3 a4 a5):=by
 intro a0 a1 a2 a3 a4 a5 k
 unfold r10_Limit.f
 repeat' first
  |(with_reducible exact r10_Find.mono _ _ _)
  |(with_reducible exact r10_old.mono _ _ _ _)
  |(with_reducible exact LeO.refl _)
  |(with_reducible exact LeO.none _)
  |(with_reducible refine LeO.ite ?_ ?_)
  |(with_reducible refine LeO.bind ?_ (fun _=> ?_))
  |exact r10_Find.mono _ _ _
  |exact r10_old.mono _ _ _ _
  |exact LeO.none _
  |refine LeO.ite ?_ ?_
  |refine LeO.bind ?_ (fun _=> ?_)
def r10_Limit.T10:Bool×List (List Nat×List Nat):=(true,[([],[]),([],[]),([0,1],[0,1]),([2],[2]),([3],[3]),([],[]),([4,5],[4,5]),([6],[6]),([7,6],[7])])
def r10_Limit.B10:List Nat:=[0,0,3,7,15,0,63,127,255]
theorem r10_Limit.tab10:rtab .any (opsOf Try.f91 10)=r10_Limit.T10:=by kernel_rfl
theorem r10_Limit.bits10:waitsOk r10_Limit.T10.2 r10_Limit.B10=true:=by kernel_rfl
set_option maxHeartbeats 8000000 in
set_option maxRecDepth 100000 in
theorem r10_Limit.calls (k:Nat) (A0:Option Addr) (c0:Nat) (l0:List (S31)) (a1:ByteArray) (a2_0:Int) (a2_1:Int) (a2_2:Int) (a3:Int) (r1:List (S31)) (r2:Int) (w:World) (hr0:Kd.C k31 w A0 l0.length l0) (hc0:l0.length≤c0) (h:r10_Limit.f k l0 a1 a2_0 a2_1 a2_2 a3=some (r1,r2)):
  Calls Try.prog 91 #[.slice A0 l0.length c0, .string a1, .agg #[.int .i64 a2_0, .int .i64 a2_1, .int .i64 a2_2], .int .i64 a3] w fun e w'=> ∃v0_:Value,e= .returned (.agg #[v0_, .int .i64 r2])∧Kd.R k31 31 w' w.heap.size (fun _=>True) v0_ r1∧Below w.heap.size w w':=by
 have HR0:=Aside0.mk hr0
 have HC0:=Aside0.mk hc0
 clear hr0 hc0
 have HB:=am_ (Below.refl w.heap.size w)
 have H:((r10_MayVec.f a2_0 a2_1 a2_2).bind fun t3=>(if t3=true then ((r10_old.f k l0 a1 a3).bind fun t8=>(if t8=0 then ((r10_copied.f l0).bind fun t13=>((r10_Find.f k t13 a1).bind fun t16=>(if 0≤t16 then (if t16<(t13.length:Int) then (if ((rd_T31 t13 t16).f5)≥9007199254740992 then ((r10_no.f 4).bind fun bt18=>(some (bt18.1,bt18.2))) else ((r10_Le.f ((rd_T31 t13 t16).f4.f0) ((rd_T31 t13 t16).f4.f1) ((rd_T31 t13 t16).f4.f2) a2_0 a2_1 a2_2).bind fun t23=>(if t23=true then ((some (t13.set (t16:Int).toNat (⟨(rd_T31 t13 t16).f0,(rd_T31 t13 t16).f1,(⟨a2_0,a2_1,a2_2⟩:S27),(⟨(rd_T31 t13 t16).f3.f0,(rd_T31 t13 t16).f3.f1,(rd_T31 t13 t16).f3.f2⟩:S27),(⟨(rd_T31 t13 t16).f4.f0,(rd_T31 t13 t16).f4.f1,(rd_T31 t13 t16).f4.f2⟩:S27),(rd_T31 t13 t16).f5⟩:S31):List (S31))).bind fun y24=>(some ((y24.set (t16:Int).toNat (⟨(rd_T31 y24 t16).f0,(rd_T31 y24 t16).f1,(⟨(rd_T31 y24 t16).f2.f0,(rd_T31 y24 t16).f2.f1,(rd_T31 y24 t16).f2.f2⟩:S27),(⟨(rd_T31 y24 t16).f3.f0,(rd_T31 y24 t16).f3.f1,(rd_T31 y24 t16).f3.f2⟩:S27),(⟨(rd_T31 y24 t16).f4.f0,(rd_T31 y24 t16).f4.f1,(rd_T31 y24 t16).f4.f2⟩:S27),wrap64 (((rd_T31 y24 t16).f5)+1)⟩:S31)),0))) else ((r10_no.f 12).bind fun bt27=>(some (bt27.1,bt27.2)))))) else (none)) else (none)))) else ((r10_no.f t8).bind fun bt9=>(some (bt9.1,bt9.2))))) else ((r10_no.f 1).bind fun bt4=>(some (bt4.1,bt4.2)))))=some (r1,r2):=h
 clear h
 replace H:=Option.bind_eq_some_iff.mp H
 obtain ⟨t3,A50,H⟩:=H
 try dsimp only at H
 have A5:=Aside0.mk A50
 clear A50
 by_cases c6:t3=true
 rotate_left
 ·replace c6:=Bool.eq_false_iff.mpr c6
  subst c6
  have H1:((r10_no.f 1).bind fun bt4=>(some (bt4.1,bt4.2)))=some (r1,r2):=by rw [if_neg (show¬(false=true) by decide)] at H;exact H
  clear H
  have H:=H1
  clear H1
  replace H:=Option.bind_eq_some_iff.mp H
  obtain ⟨⟨t4,t7⟩,A660,H⟩:=H
  try dsimp only at H
  have A66:=Aside0.mk A660
  clear A660
  simp only [Option.some.injEq,Prod.mk.injEq] at H
  obtain ⟨rfl,rfl⟩:=H
  go_enter Try.func91,Try.ntmps91
  go_wp2_with (first|((with_reducible refine gate_dst (N:=6) rfl ?_);refine bx_ (N:=6) (cs:=#[.int .i64 a2_0, .int .i64 a2_1, .int .i64 a2_2]) (t:=27) ?_;intro gb1 hg w67 hbox hb;have n0_:=am_ (below_step (zl0_ HB) hb);have n1_:=am_ (hbox);have n2_:=am_ ((zg0_ HB hg:w.heap.size≤gb1));have n3_:=am_ ((zg0_ HB hg:w.heap.size≤gb1));clear HB;have HB:=n0_;have BK1:=n1_;have GE1:=n3_;clear n0_ n1_ n2_ n3_;clear hb hbox hg)|((with_reducible refine gate_dst (N:=8) rfl ?_);refine bx_ (N:=8) (cs:=#[.slice none 0 0, .int .i64 0]) (t:=67) ?_;intro gb2 hg w68 hbox hb;have n0_:=am_ (blk_below (zb_ BK1) hb);have n1_:=am_ (below_step (zl1_ HB GE1) hb);have n2_:=am_ (hbox);have n3_:=am_ ((zg1_ HB GE1 hg:w.heap.size≤gb2));have n4_:=am_ ((zg1_ HB GE1 hg:w.heap.size≤gb2));have n5_:=am_ ((zn_ BK1 hg:gb1≠gb2));have n6_:=am_ ((zm_ BK1 hg:gb2≠gb1));clear BK1;clear HB;have BK1:=n0_;have HB:=n1_;have BK2:=n2_;have GE2:=n4_;clear n0_ n1_ n2_ n3_ n4_ n5_ n6_;clear hb hbox hg;obtain ⟨hcz70_0,hcz70_1,hcz70_2⟩:=x3_ BK1)|((with_reducible refine gate_callee (f:=65) rfl ?_);refine gl_ (some 13) Try.func65 #[.agg #[.int .i64 a2_0, .int .i64 a2_1, .int .i64 a2_2]] ?_;(with_reducible refine (r10_MayVec.calls a2_0 a2_1 a2_2 false _ A5.out).mono ?_);rintro e w71 ⟨rfl,hb⟩;refine ⟨_,rfl, ?_⟩;replace BK1:=am_ (blk_below (zb_ BK1) hb);replace BK2:=am_ (blk_below (zb_ BK2) hb);replace HB:=am_ (below_step (zl2_ HB GE1 GE2) hb);(try clear hb);(try clear hb2);(try clear hk);(try clear hi))|((with_reducible refine gate_callee (f:=113) rfl ?_);refine gl_ (some 15) Try.func113 #[.int .i64 1] ?_;(with_reducible refine (r10_no.calls 1 t4 t7 _ A66.out).mono ?_);rintro e w72 ⟨v5,rfl,ho0,hb⟩;refine ⟨_,rfl, ?_⟩;have HO6:=am_ (Kd.R_lower ho0 (below_size (zl2_ HB GE1 GE2)));replace BK1:=am_ (blk_below (zb_ BK1) hb);replace BK2:=am_ (blk_below (zb_ BK2) hb);replace HB:=am_ (below_step (zl2_ HB GE1 GE2) hb);(try clear hb);(try clear hb2);(try clear hk);(try clear hi);(try clear ho0);obtain ⟨Ao73,co73,eo73⟩:=Kd.R_slice HO6.out;subst eo73;obtain ⟨hcz74_0,hcz74_1⟩:=x2_ BK2;have hfz74_0:=blk_frozen BK2.out 0;have hfz74_1:=blk_frozen BK2.out 1))
  refine bodyPost_ret (results_cell_row rfl _ _ gb2 67 #[.slice Ao73 t4.length co73, .int .i64 t7] (0,0) _ rfl (zw_ BK2) Try.underlying67 rfl (by kernel_rfl)) rfl ?_
  exact ⟨_,by first|rfl|(simp [errW_none,errW_some]<;>rfl)|(simp [*,errW_none,errW_some]<;>rfl),zy_ HO6 BK2,zl2_ HB GE1 GE2⟩

 subst c6
 have H1:((r10_old.f k l0 a1 a3).bind fun t8=>(if t8=0 then ((r10_copied.f l0).bind fun t13=>((r10_Find.f k t13 a1).bind fun t16=>(if 0≤t16 then (if t16<(t13.length:Int) then (if ((rd_T31 t13 t16).f5)≥9007199254740992 then ((r10_no.f 4).bind fun bt18=>(some (bt18.1,bt18.2))) else ((r10_Le.f ((rd_T31 t13 t16).f4.f0) ((rd_T31 t13 t16).f4.f1) ((rd_T31 t13 t16).f4.f2) a2_0 a2_1 a2_2).bind fun t23=>(if t23=true then ((some (t13.set (t16:Int).toNat (⟨(rd_T31 t13 t16).f0,(rd_T31 t13 t16).f1,(⟨a2_0,a2_1,a2_2⟩:S27),(⟨(rd_T31 t13 t16).f3.f0,(rd_T31 t13 t16).f3.f1,(rd_T31 t13 t16).f3.f2⟩:S27),(⟨(rd_T31 t13 t16).f4.f0,(rd_T31 t13 t16).f4.f1,(rd_T31 t13 t16).f4.f2⟩:S27),(rd_T31 t13 t16).f5⟩:S31):List (S31))).bind fun y24=>(some ((y24.set (t16:Int).toNat (⟨(rd_T31 y24 t16).f0,(rd_T31 y24 t16).f1,(⟨(rd_T31 y24 t16).f2.f0,(rd_T31 y24 t16).f2.f1,(rd_T31 y24 t16).f2.f2⟩:S27),(⟨(rd_T31 y24 t16).f3.f0,(rd_T31 y24 t16).f3.f1,(rd_T31 y24 t16).f3.f2⟩:S27),(⟨(rd_T31 y24 t16).f4.f0,(rd_T31 y24 t16).f4.f1,(rd_T31 y24 t16).f4.f2⟩:S27),wrap64 (((rd_T31 y24 t16).f5)+1)⟩:S31)),0))) else ((r10_no.f 12).bind fun bt27=>(some (bt27.1,bt27.2)))))) else (none)) else (none)))) else ((r10_no.f t8).bind fun bt9=>(some (bt9.1,bt9.2)))))=some (r1,r2):=by rw [if_pos rfl] at H;exact H
 clear H
 have H:=H1
 clear H1
 replace H:=Option.bind_eq_some_iff.mp H
 obtain ⟨t8,A70,H⟩:=H
 try dsimp only at H
 have A7:=Aside0.mk A70
 clear A70
 by_cases c8:t8=0
 rotate_left
 ·rw [if_neg c8] at H
  have c8b1:(t8 !=0)=true:=bne_iff_ne.mpr c8
  replace H:=Option.bind_eq_some_iff.mp H
  obtain ⟨⟨t9,t12⟩,A570,H⟩:=H
  try dsimp only at H
  have A57:=Aside0.mk A570
  clear A570
  simp only [Option.some.injEq,Prod.mk.injEq] at H
  obtain ⟨rfl,rfl⟩:=H
  go_enter Try.func91,Try.ntmps91
  go_wp2_with (first|((with_reducible refine gate_dst (N:=6) rfl ?_);refine bx_ (N:=6) (cs:=#[.int .i64 a2_0, .int .i64 a2_1, .int .i64 a2_2]) (t:=27) ?_;intro gb1 hg w58 hbox hb;have n0_:=am_ (below_step (zl0_ HB) hb);have n1_:=am_ (hbox);have n2_:=am_ ((zg0_ HB hg:w.heap.size≤gb1));have n3_:=am_ ((zg0_ HB hg:w.heap.size≤gb1));clear HB;have HB:=n0_;have BK1:=n1_;have GE1:=n3_;clear n0_ n1_ n2_ n3_;clear hb hbox hg)|((with_reducible refine gate_dst (N:=8) rfl ?_);refine bx_ (N:=8) (cs:=#[.slice none 0 0, .int .i64 0]) (t:=67) ?_;intro gb2 hg w59 hbox hb;have n0_:=am_ (blk_below (zb_ BK1) hb);have n1_:=am_ (below_step (zl1_ HB GE1) hb);have n2_:=am_ (hbox);have n3_:=am_ ((zg1_ HB GE1 hg:w.heap.size≤gb2));have n4_:=am_ ((zg1_ HB GE1 hg:w.heap.size≤gb2));have n5_:=am_ ((zn_ BK1 hg:gb1≠gb2));have n6_:=am_ ((zm_ BK1 hg:gb2≠gb1));clear BK1;clear HB;have BK1:=n0_;have HB:=n1_;have BK2:=n2_;have GE2:=n4_;clear n0_ n1_ n2_ n3_ n4_ n5_ n6_;clear hb hbox hg;obtain ⟨hcz61_0,hcz61_1,hcz61_2⟩:=x3_ BK1)|((with_reducible refine gate_callee (f:=65) rfl ?_);refine gl_ (some 13) Try.func65 #[.agg #[.int .i64 a2_0, .int .i64 a2_1, .int .i64 a2_2]] ?_;(with_reducible refine (r10_MayVec.calls a2_0 a2_1 a2_2 true _ A5.out).mono ?_);rintro e w62 ⟨rfl,hb⟩;refine ⟨_,rfl, ?_⟩;replace BK1:=am_ (blk_below (zb_ BK1) hb);replace BK2:=am_ (blk_below (zb_ BK2) hb);replace HB:=am_ (below_step (zl2_ HB GE1 GE2) hb);(try clear hb);(try clear hb2);(try clear hk);(try clear hi))|((with_reducible refine gate_callee (f:=147) rfl ?_);refine gl_ (some 19) Try.func147 #[.slice A0 l0.length c0, .string a1, .int .i64 a3] ?_;(with_reducible refine (r10_old.calls k _ _ l0 a1 a3 t8 _ ?side1 ?side2 A7.out).mono ?_);(case side1=>exact zc_ (Kd.C_below HR0.out HB.out));(case side2=>exact HC0.out);rintro e w' ⟨rfl,⟨nd,rfl⟩⟩;refine ⟨_,rfl, ?_⟩;(try (rw [drewN_self w62];generalize hq_:World.drewN w62 _=w62;have n0_:Aside0 (w62.heap[gb1]?=some (.cells #[.int .i64 a2_0, .int .i64 a2_1, .int .i64 a2_2] 27 (0,0))):=⟨by rw [←hq_];exact (zb_ BK1)⟩;have n1_:Aside0 (w62.heap[gb2]?=some (.cells #[.slice none 0 0, .int .i64 0] 67 (0,0))):=⟨by rw [←hq_];exact (zb_ BK2)⟩;have n2_:Aside0 (Below w.heap.size w w62):=⟨by rw [←hq_];exact (zl2_ HB GE1 GE2)⟩;clear BK1 BK2 HB hq_;have BK1:=n0_;have BK2:=n1_;have HB:=n2_;clear n0_ n1_ n2_)))|((with_reducible refine gate_callee (f:=113) rfl ?_);refine gl_ (some 23) Try.func113 #[.int .i64 t8] ?_;(with_reducible refine (r10_no.calls t8 t9 t12 _ A57.out).mono ?_);rintro e w63 ⟨v10,rfl,ho0,hb⟩;refine ⟨_,rfl, ?_⟩;have HO11:=am_ (Kd.R_lower ho0 (below_size (zl2_ HB GE1 GE2)));replace BK1:=am_ (blk_below (zb_ BK1) hb);replace BK2:=am_ (blk_below (zb_ BK2) hb);replace HB:=am_ (below_step (zl2_ HB GE1 GE2) hb);(try clear hb);(try clear hb2);(try clear hk);(try clear hi);(try clear ho0);obtain ⟨Ao64,co64,eo64⟩:=Kd.R_slice HO11.out;subst eo64;obtain ⟨hcz65_0,hcz65_1⟩:=x2_ BK2;have hfz65_0:=blk_frozen BK2.out 0;have hfz65_1:=blk_frozen BK2.out 1))
  refine bodyPost_ret (results_cell_row rfl _ _ gb2 67 #[.slice Ao64 t9.length co64, .int .i64 t12] (0,0) _ rfl (zw_ BK2) Try.underlying67 rfl (by kernel_rfl)) rfl ?_
  exact ⟨_,by first|rfl|(simp [errW_none,errW_some]<;>rfl)|(simp [*,errW_none,errW_some]<;>rfl),zy_ HO11 BK2,zl2_ HB GE1 GE2⟩
 rw [if_pos c8] at H
 have c8b1:(t8 !=0)=false:=bne_eq_false_iff_eq.mpr c8
 clear c8
 replace H:=Option.bind_eq_some_iff.mp H
 obtain ⟨t13,A90,H⟩:=H
 try dsimp only at H
 have A9:=Aside0.mk A90
 clear A90
 replace H:=Option.bind_eq_some_iff.mp H
 obtain ⟨t16,A100,H⟩:=H
 try dsimp only at H
 have A10:=Aside0.mk A100
 clear A100
 by_cases c11:0≤t16
 rotate_left
 ·rw [if_neg c11] at H
  exact absurd H (by simp)
 rw [if_pos c11] at H
 have c11b0:decide (0≤t16)=true:=decide_eq_true c11
 clear c11
 by_cases c12:t16<(t13.length:Int)
 rotate_left
 ·rw [if_neg c12] at H
  exact absurd H (by simp)
 rw [if_pos c12] at H
 have c12b0:decide (t16<(t13.length:Int))=true:=decide_eq_true c12
 clear c12
 by_cases c13:((rd_T31 t13 t16).f5)≥9007199254740992
 ·rw [if_pos c13] at H
  have c13b0:decide (9007199254740992≤((rd_T31 t13 t16).f5))=true:=decide_eq_true c13
  clear c13
  replace H:=Option.bind_eq_some_iff.mp H
  obtain ⟨⟨t18,t21⟩,A140,H⟩:=H
  try dsimp only at H
  have A14:=Aside0.mk A140
  clear A140
  simp only [Option.some.injEq,Prod.mk.injEq] at H
  obtain ⟨rfl,rfl⟩:=H
  go_enter Try.func91,Try.ntmps91
  go_wp2_with (first|((with_reducible refine gate_dst (N:=6) rfl ?_);refine bx_ (N:=6) (cs:=#[.int .i64 a2_0, .int .i64 a2_1, .int .i64 a2_2]) (t:=27) ?_;intro gb1 hg w15 hbox hb;have n0_:=am_ (below_step (zl0_ HB) hb);have n1_:=am_ (hbox);have n2_:=am_ ((zg0_ HB hg:w.heap.size≤gb1));have n3_:=am_ ((zg0_ HB hg:w.heap.size≤gb1));clear HB;have HB:=n0_;have BK1:=n1_;have GE1:=n3_;clear n0_ n1_ n2_ n3_;clear hb hbox hg)|((with_reducible refine gate_dst (N:=8) rfl ?_);refine bx_ (N:=8) (cs:=#[.slice none 0 0, .int .i64 0]) (t:=67) ?_;intro gb2 hg w16 hbox hb;have n0_:=am_ (blk_below (zb_ BK1) hb);have n1_:=am_ (below_step (zl1_ HB GE1) hb);have n2_:=am_ (hbox);have n3_:=am_ ((zg1_ HB GE1 hg:w.heap.size≤gb2));have n4_:=am_ ((zg1_ HB GE1 hg:w.heap.size≤gb2));have n5_:=am_ ((zn_ BK1 hg:gb1≠gb2));have n6_:=am_ ((zm_ BK1 hg:gb2≠gb1));clear BK1;clear HB;have BK1:=n0_;have HB:=n1_;have BK2:=n2_;have GE2:=n4_;clear n0_ n1_ n2_ n3_ n4_ n5_ n6_;clear hb hbox hg;obtain ⟨hcz18_0,hcz18_1,hcz18_2⟩:=x3_ BK1)|((with_reducible refine gate_callee (f:=65) rfl ?_);refine gl_ (some 13) Try.func65 #[.agg #[.int .i64 a2_0, .int .i64 a2_1, .int .i64 a2_2]] ?_;(with_reducible refine (r10_MayVec.calls a2_0 a2_1 a2_2 true _ A5.out).mono ?_);rintro e w19 ⟨rfl,hb⟩;refine ⟨_,rfl, ?_⟩;replace BK1:=am_ (blk_below (zb_ BK1) hb);replace BK2:=am_ (blk_below (zb_ BK2) hb);replace HB:=am_ (below_step (zl2_ HB GE1 GE2) hb);(try clear hb);(try clear hb2);(try clear hk);(try clear hi))|((with_reducible refine gate_callee (f:=147) rfl ?_);refine gl_ (some 19) Try.func147 #[.slice A0 l0.length c0, .string a1, .int .i64 a3] ?_;(with_reducible refine (r10_old.calls k _ _ l0 a1 a3 t8 _ ?side1 ?side2 A7.out).mono ?_);(case side1=>exact zc_ (Kd.C_below HR0.out HB.out));(case side2=>exact HC0.out);rintro e w' ⟨rfl,⟨nd,rfl⟩⟩;refine ⟨_,rfl, ?_⟩;(try (rw [drewN_self w19];generalize hq_:World.drewN w19 _=w19;have n0_:Aside0 (w19.heap[gb1]?=some (.cells #[.int .i64 a2_0, .int .i64 a2_1, .int .i64 a2_2] 27 (0,0))):=⟨by rw [←hq_];exact (zb_ BK1)⟩;have n1_:Aside0 (w19.heap[gb2]?=some (.cells #[.slice none 0 0, .int .i64 0] 67 (0,0))):=⟨by rw [←hq_];exact (zb_ BK2)⟩;have n2_:Aside0 (Below w.heap.size w w19):=⟨by rw [←hq_];exact (zl2_ HB GE1 GE2)⟩;clear BK1 BK2 HB hq_;have BK1:=n0_;have BK2:=n1_;have HB:=n2_;clear n0_ n1_ n2_)))|((with_reducible refine gate_callee (f:=124) rfl ?_);refine gl_ (some 25) Try.func124 #[.slice A0 l0.length c0] ?_;(with_reducible refine (r10_copied.calls _ _ l0 t13 _ ?side1 ?side2 A9.out).mono ?_);(case side1=>exact zc_ (Kd.C_below HR0.out HB.out));(case side2=>exact HC0.out);rintro e w20 ⟨v14,rfl,ho0,hb⟩;refine ⟨_,rfl, ?_⟩;have HO15:=am_ (Kd.R_lower ho0 (below_size (zl2_ HB GE1 GE2)));replace BK1:=am_ (blk_below (zb_ BK1) hb);replace BK2:=am_ (blk_below (zb_ BK2) hb);replace HB:=am_ (below_step (zl2_ HB GE1 GE2) hb);(try clear hb);(try clear hb2);(try clear hk);(try clear hi);(try clear ho0);obtain ⟨Ao21,co21,eo21⟩:=Kd.R_slice HO15.out;subst eo21)|((with_reducible refine gate_callee (f:=50) rfl ?_);refine gl_ (some 28) Try.func50 #[.slice Ao21 t13.length co21, .string a1] ?_;(with_reducible refine (r10_Find.calls k _ _ t13 a1 t16 _ ?side1 ?side2 A10.out).mono ?_);(case side1=>exact zc_ (Kd.R_reads' HO15.out).2.2);(case side2=>exact (Kd.R_reads' HO15.out).2.1);rintro e w' ⟨rfl,⟨nd,rfl⟩⟩;refine ⟨_,rfl, ?_⟩;(try (rw [drewN_self w20];generalize hq_:World.drewN w20 _=w20;have n0_:Aside0 (Kd.R k31 31 w20 w.heap.size (fun _=>True) (.slice Ao21 t13.length co21) t13):=⟨by rw [←hq_];exact (zr_ HO15)⟩;have n1_:Aside0 (w20.heap[gb1]?=some (.cells #[.int .i64 a2_0, .int .i64 a2_1, .int .i64 a2_2] 27 (0,0))):=⟨by rw [←hq_];exact (zb_ BK1)⟩;have n2_:Aside0 (w20.heap[gb2]?=some (.cells #[.slice none 0 0, .int .i64 0] 67 (0,0))):=⟨by rw [←hq_];exact (zb_ BK2)⟩;have n3_:Aside0 (Below w.heap.size w w20):=⟨by rw [←hq_];exact (zl2_ HB GE1 GE2)⟩;clear HO15 BK1 BK2 HB hq_;have HO15:=n0_;have BK1:=n1_;have BK2:=n2_;have HB:=n3_;clear n0_ n1_ n2_ n3_));have p17:0≤(t16:Int):=of_decide_eq_true zq_;have q17:t16<(t13.length:Int):=of_decide_eq_true zq_;obtain ⟨ad17,e17,hx17_0,hx17_1,hx17_2,hx17_3,hx17_4,hx17_5,hx17_6,hx17_7,hx17_8,hx17_9,hx17_10,hx17_11⟩:=at_T31 (Kd.R_reads' HO15.out).2.2 t16 p17 q17;cases e17;replace p17:=eq_true p17;replace q17:=eq_true q17)|((with_reducible refine gate_callee (f:=113) rfl ?_);refine gl_ (some 36) Try.func113 #[.int .i64 4] ?_;(with_reducible refine (r10_no.calls 4 t18 t21 _ A14.out).mono ?_);rintro e w22 ⟨v19,rfl,ho0,hb⟩;refine ⟨_,rfl, ?_⟩;have HO20:=am_ (Kd.R_lower (Kd.R_new' ho0 (Kd.R_lt (zr_ HO15))) (below_size (zl2_ HB GE1 GE2)));replace HO15:=am_ (Kd.R_elder' (zr_ HO15) (Kd.R_base ho0) hb);replace BK1:=am_ (blk_below (zb_ BK1) hb);replace BK2:=am_ (blk_below (zb_ BK2) hb);replace HB:=am_ (below_step (zl2_ HB GE1 GE2) hb);(try clear hb);(try clear hb2);(try clear hk);(try clear hi);(try clear ho0);obtain ⟨Ao23,co23,eo23⟩:=Kd.R_slice HO20.out;subst eo23;obtain ⟨hcz24_0,hcz24_1⟩:=x2_ BK2;have hfz24_0:=blk_frozen BK2.out 0;have hfz24_1:=blk_frozen BK2.out 1))
  refine bodyPost_ret (results_cell_row rfl _ _ gb2 67 #[.slice Ao23 t18.length co23, .int .i64 t21] (0,0) _ rfl (zw_ BK2) Try.underlying67 rfl (by kernel_rfl)) rfl ?_
  exact ⟨_,by first|rfl|(simp [errW_none,errW_some]<;>rfl)|(simp [*,errW_none,errW_some]<;>rfl),zy_ HO20 BK2,zl2_ HB GE1 GE2⟩
 rw [if_neg c13] at H
 have c13b0:decide (9007199254740992≤((rd_T31 t13 t16).f5))=false:=decide_eq_false c13
 clear c13
 replace H:=Option.bind_eq_some_iff.mp H
 obtain ⟨t23,A250,H⟩:=H
 try dsimp only at H
 have A25:=Aside0.mk A250
 clear A250
 by_cases c26:t23=true
 rotate_left
 ·replace c26:=Bool.eq_false_iff.mpr c26
  subst c26
  have H1:((r10_no.f 12).bind fun bt27=>(some (bt27.1,bt27.2)))=some (r1,r2):=by rw [if_neg (show¬(false=true) by decide)] at H;exact H
  clear H
  have H:=H1
  clear H1
  replace H:=Option.bind_eq_some_iff.mp H
  obtain ⟨⟨t27,t30⟩,A440,H⟩:=H
  try dsimp only at H
  have A44:=Aside0.mk A440
  clear A440
  simp only [Option.some.injEq,Prod.mk.injEq] at H
  obtain ⟨rfl,rfl⟩:=H
  go_enter Try.func91,Try.ntmps91
  try go_wp2_with (first|((with_reducible refine gate_dst (N:=6) rfl ?_);refine bx_ (N:=6) (cs:=#[.int .i64 a2_0, .int .i64 a2_1, .int .i64 a2_2]) (t:=27) ?_;intro gb1 hg w45 hbox hb;have n0_:=am_ (below_step (zl0_ HB) hb);have n1_:=am_ (hbox);have n2_:=am_ ((zg0_ HB hg:w.heap.size≤gb1));have n3_:=am_ ((zg0_ HB hg:w.heap.size≤gb1));clear HB;have HB:=n0_;have BK1:=n1_;have GE1:=n3_;clear n0_ n1_ n2_ n3_;clear hb hbox hg)|((with_reducible refine gate_dst (N:=8) rfl ?_);refine bx_ (N:=8) (cs:=#[.slice none 0 0, .int .i64 0]) (t:=67) ?_;intro gb2 hg w46 hbox hb;have n0_:=am_ (blk_below (zb_ BK1) hb);have n1_:=am_ (below_step (zl1_ HB GE1) hb);have n2_:=am_ (hbox);have n3_:=am_ ((zg1_ HB GE1 hg:w.heap.size≤gb2));have n4_:=am_ ((zg1_ HB GE1 hg:w.heap.size≤gb2));have n5_:=am_ ((zn_ BK1 hg:gb1≠gb2));have n6_:=am_ ((zm_ BK1 hg:gb2≠gb1));clear BK1;clear HB;have BK1:=n0_;have HB:=n1_;have BK2:=n2_;have GE2:=n4_;clear n0_ n1_ n2_ n3_ n4_ n5_ n6_;clear hb hbox hg;obtain ⟨hcz48_0,hcz48_1,hcz48_2⟩:=x3_ BK1)|((with_reducible refine gate_callee (f:=65) rfl ?_);refine gl_ (some 13) Try.func65 #[.agg #[.int .i64 a2_0, .int .i64 a2_1, .int .i64 a2_2]] ?_;(with_reducible refine (r10_MayVec.calls a2_0 a2_1 a2_2 true _ A5.out).mono ?_);rintro e w49 ⟨rfl,hb⟩;refine ⟨_,rfl, ?_⟩;replace BK1:=am_ (blk_below (zb_ BK1) hb);replace BK2:=am_ (blk_below (zb_ BK2) hb);replace HB:=am_ (below_step (zl2_ HB GE1 GE2) hb);(try clear hb);(try clear hb2);(try clear hk);(try clear hi))|((with_reducible refine gate_callee (f:=147) rfl ?_);refine gl_ (some 19) Try.func147 #[.slice A0 l0.length c0, .string a1, .int .i64 a3] ?_;(with_reducible refine (r10_old.calls k _ _ l0 a1 a3 t8 _ ?side1 ?side2 A7.out).mono ?_);(case side1=>exact zc_ (Kd.C_below HR0.out HB.out));(case side2=>exact HC0.out);rintro e w' ⟨rfl,⟨nd,rfl⟩⟩;refine ⟨_,rfl, ?_⟩;(try (rw [drewN_self w49];generalize hq_:World.drewN w49 _=w49;have n0_:Aside0 (w49.heap[gb1]?=some (.cells #[.int .i64 a2_0, .int .i64 a2_1, .int .i64 a2_2] 27 (0,0))):=⟨by rw [←hq_];exact (zb_ BK1)⟩;have n1_:Aside0 (w49.heap[gb2]?=some (.cells #[.slice none 0 0, .int .i64 0] 67 (0,0))):=⟨by rw [←hq_];exact (zb_ BK2)⟩;have n2_:Aside0 (Below w.heap.size w w49):=⟨by rw [←hq_];exact (zl2_ HB GE1 GE2)⟩;clear BK1 BK2 HB hq_;have BK1:=n0_;have BK2:=n1_;have HB:=n2_;clear n0_ n1_ n2_)))|((with_reducible refine gate_callee (f:=124) rfl ?_);refine gl_ (some 25) Try.func124 #[.slice A0 l0.length c0] ?_;(with_reducible refine (r10_copied.calls _ _ l0 t13 _ ?side1 ?side2 A9.out).mono ?_);(case side1=>exact zc_ (Kd.C_below HR0.out HB.out));(case side2=>exact HC0.out);rintro e w50 ⟨v14,rfl,ho0,hb⟩;refine ⟨_,rfl, ?_⟩;have HO15:=am_ (Kd.R_lower ho0 (below_size (zl2_ HB GE1 GE2)));replace BK1:=am_ (blk_below (zb_ BK1) hb);replace BK2:=am_ (blk_below (zb_ BK2) hb);replace HB:=am_ (below_step (zl2_ HB GE1 GE2) hb);(try clear hb);(try clear hb2);(try clear hk);(try clear hi);(try clear ho0);obtain ⟨Ao51,co51,eo51⟩:=Kd.R_slice HO15.out;subst eo51)|((with_reducible refine gate_callee (f:=50) rfl ?_);refine gl_ (some 28) Try.func50 #[.slice Ao51 t13.length co51, .string a1] ?_;(with_reducible refine (r10_Find.calls k _ _ t13 a1 t16 _ ?side1 ?side2 A10.out).mono ?_);(case side1=>exact zc_ (Kd.R_reads' HO15.out).2.2);(case side2=>exact (Kd.R_reads' HO15.out).2.1);rintro e w' ⟨rfl,⟨nd,rfl⟩⟩;refine ⟨_,rfl, ?_⟩;(try (rw [drewN_self w50];generalize hq_:World.drewN w50 _=w50;have n0_:Aside0 (Kd.R k31 31 w50 w.heap.size (fun _=>True) (.slice Ao51 t13.length co51) t13):=⟨by rw [←hq_];exact (zr_ HO15)⟩;have n1_:Aside0 (w50.heap[gb1]?=some (.cells #[.int .i64 a2_0, .int .i64 a2_1, .int .i64 a2_2] 27 (0,0))):=⟨by rw [←hq_];exact (zb_ BK1)⟩;have n2_:Aside0 (w50.heap[gb2]?=some (.cells #[.slice none 0 0, .int .i64 0] 67 (0,0))):=⟨by rw [←hq_];exact (zb_ BK2)⟩;have n3_:Aside0 (Below w.heap.size w w50):=⟨by rw [←hq_];exact (zl2_ HB GE1 GE2)⟩;clear HO15 BK1 BK2 HB hq_;have HO15:=n0_;have BK1:=n1_;have BK2:=n2_;have HB:=n3_;clear n0_ n1_ n2_ n3_));have p17:0≤(t16:Int):=of_decide_eq_true zq_;have q17:t16<(t13.length:Int):=of_decide_eq_true zq_;obtain ⟨ad17,e17,hx17_0,hx17_1,hx17_2,hx17_3,hx17_4,hx17_5,hx17_6,hx17_7,hx17_8,hx17_9,hx17_10,hx17_11⟩:=at_T31 (Kd.R_reads' HO15.out).2.2 t16 p17 q17;cases e17;replace p17:=eq_true p17;replace q17:=eq_true q17))
  replace HO15:=am_ (Kd.R_drew HO15.out)
  replace BK1:=am_ (blk_drew BK1.out)
  replace BK2:=am_ (blk_drew BK2.out)
  replace HB:=am_ (below_drew1 HB.out)
  have p22:0≤(t16:Int):=of_decide_eq_true zq_
  have q22:t16<(t13.length:Int):=of_decide_eq_true zq_
  obtain ⟨ad22,e22,hx22_0,hx22_1,hx22_2,hx22_3,hx22_4,hx22_5,hx22_6,hx22_7,hx22_8,hx22_9,hx22_10,hx22_11⟩:=at_T31 (Kd.R_reads' HO15.out).2.2 t16 p22 q22
  obtain rfl:ad17=ad22:=(by injection e22)
  replace p22:=eq_true p22
  replace q22:=eq_true q22
  refine start_ (n:=9) (S:=fun w'=>w'.cell? ⟨gb1,0,none⟩=some (.int .i64 a2_0)∧w'.cell? ⟨gb1,1,none⟩=some (.int .i64 a2_1)∧w'.cell? ⟨gb1,2,none⟩=some (.int .i64 a2_2)∧w'.cell? (ad17.add ((t16).toNat*12))=some (.string ((rd_T31 t13 t16).f0))∧w'.cell? ⟨(ad17.add ((t16).toNat*12)).block,(ad17.add ((t16).toNat*12)).off+1,none⟩=some (.string ((rd_T31 t13 t16).f1))∧w'.cell? ⟨(ad17.add ((t16).toNat*12)).block,(ad17.add ((t16).toNat*12)).off+2,none⟩=some (.int .i64 ((rd_T31 t13 t16).f2.f0))∧w'.cell? ⟨(ad17.add ((t16).toNat*12)).block,(ad17.add ((t16).toNat*12)).off+3,none⟩=some (.int .i64 ((rd_T31 t13 t16).f2.f1))∧w'.cell? ⟨(ad17.add ((t16).toNat*12)).block,(ad17.add ((t16).toNat*12)).off+4,none⟩=some (.int .i64 ((rd_T31 t13 t16).f2.f2))∧w'.cell? ⟨(ad17.add ((t16).toNat*12)).block,(ad17.add ((t16).toNat*12)).off+5,none⟩=some (.int .i64 ((rd_T31 t13 t16).f3.f0))∧w'.cell? ⟨(ad17.add ((t16).toNat*12)).block,(ad17.add ((t16).toNat*12)).off+6,none⟩=some (.int .i64 ((rd_T31 t13 t16).f3.f1))∧w'.cell? ⟨(ad17.add ((t16).toNat*12)).block,(ad17.add ((t16).toNat*12)).off+7,none⟩=some (.int .i64 ((rd_T31 t13 t16).f3.f2))∧w'.cell? ⟨(ad17.add ((t16).toNat*12)).block,(ad17.add ((t16).toNat*12)).off+8,none⟩=some (.int .i64 ((rd_T31 t13 t16).f4.f0))∧w'.cell? ⟨(ad17.add ((t16).toNat*12)).block,(ad17.add ((t16).toNat*12)).off+9,none⟩=some (.int .i64 ((rd_T31 t13 t16).f4.f1))∧w'.cell? ⟨(ad17.add ((t16).toNat*12)).block,(ad17.add ((t16).toNat*12)).off+10,none⟩=some (.int .i64 ((rd_T31 t13 t16).f4.f2))∧w'.cell? ⟨(ad17.add ((t16).toNat*12)).block,(ad17.add ((t16).toNat*12)).off+11,none⟩=some (.int .i64 ((rd_T31 t13 t16).f5))) (ds:=[]) (bt_ 9 0) (by kernel_rfl) rfl rfl ⟨(blk_cell BK1.out 0).trans rfl,(blk_cell BK1.out 1).trans rfl,(blk_cell BK1.out 2).trans rfl,hx22_0,hx22_1,hx22_2,hx22_3,hx22_4,hx22_5,hx22_6,hx22_7,hx22_8,hx22_9,hx22_10,hx22_11⟩ (fun hHeld=> ?_);refine with_tabW r10_Limit.tab10 r10_Limit.bits10 (fun HT_ HW_=> ?_)
  generalize w50.drew=w52 at HO15 BK1 BK2 HB hx22_0 hx22_1 hx22_10 hx22_11 hx22_2 hx22_3 hx22_4 hx22_5 hx22_6 hx22_7 hx22_8 hx22_9 hHeld ⊢
  refine pu_ (i:=0) (N:=some 38) (bt_ 9 1) HT_ ?_
  refine pu_ (i:=1) (N:=some 39) (bt_ 9 3) HT_ ?_
  refine pu_ (i:=2) (N:=some 40) (bt_ 9 7) HT_ ?_
  refine pu_ (i:=3) (N:=some 41) (bt_ 9 15) HT_ ?_
  refine tk_ (i:=4) (N:=some 42) (bt_ 9 31) HT_ HW_ hHeld ?_
  refine tk_ (i:=5) (N:=some 43) (bt_ 9 63) HT_ HW_ hHeld ?_
  refine on_ (i:=6) (N:=some 44) (bt_ 9 127) HT_ (fun K hK=> ?_)
  refine gs_ Try.func34 #[.agg #[.int .i64 ((rd_T31 t13 t16).f4.f0), .int .i64 ((rd_T31 t13 t16).f4.f1), .int .i64 ((rd_T31 t13 t16).f4.f2)], .agg #[.int .i64 a2_0, .int .i64 a2_1, .int .i64 a2_2]] ?_
  with_reducible refine (r10_Le.calls ((rd_T31 t13 t16).f4.f0) ((rd_T31 t13 t16).f4.f1) ((rd_T31 t13 t16).f4.f2) a2_0 a2_1 a2_2 false _ A25.out).mono ?_
  rintro e w53 ⟨rfl,hb⟩
  have HS3_:=zh_ hb (hHeld.2.2.2.1)
  have HS4_:=zh_ hb (hHeld.2.2.2.2.1)
  have HS5_:=zh_ hb (hHeld.2.2.2.2.2.1)
  have HS6_:=zh_ hb (hHeld.2.2.2.2.2.2.1)
  have HS7_:=zh_ hb (hHeld.2.2.2.2.2.2.2.1)
  have HS8_:=zh_ hb (hHeld.2.2.2.2.2.2.2.2.1)
  have HS9_:=zh_ hb (hHeld.2.2.2.2.2.2.2.2.2.1)
  have HS10_:=zh_ hb (hHeld.2.2.2.2.2.2.2.2.2.2.1)
  have HS11_:=zh_ hb (hHeld.2.2.2.2.2.2.2.2.2.2.2.1)
  have HS12_:=zh_ hb (hHeld.2.2.2.2.2.2.2.2.2.2.2.2.1)
  have HS13_:=zh_ hb (hHeld.2.2.2.2.2.2.2.2.2.2.2.2.2.1)
  have HS14_:=zh_ hb (hHeld.2.2.2.2.2.2.2.2.2.2.2.2.2.2)
  refine ⟨_,rfl, ?_⟩
  replace HO15:=am_ (Kd.R_below (zr_ HO15) hb)
  replace BK1:=am_ (blk_below (zb_ BK1) hb)
  replace BK2:=am_ (blk_below (zb_ BK2) hb)
  replace HB:=am_ (below_step (zl2_ HB GE1 GE2) hb)
  (try clear hb)
  (try clear hb2)
  (try clear hk)
  (try clear hi)
  refine hK.out _ _ ⟨(blk_cell BK1.out 0).trans rfl,(blk_cell BK1.out 1).trans rfl,(blk_cell BK1.out 2).trans rfl,HS3_,HS4_,HS5_,HS6_,HS7_,HS8_,HS9_,HS10_,HS11_,HS12_,HS13_,HS14_⟩ (fun hHeld=> ?_)
  clear hK K
  refine no_ (N:=some 44) ?_
  refine pu_ (i:=7) (N:=some 45) (bt_ 9 255) HT_ ?_
  refine pu_ (i:=8) (N:=some 37) (bt_ 9 511) HT_ ?_
  refine done_ (done_of HT_.out (by kernel_rfl)) ?_
  try go_wp2_with (first|((with_reducible refine gate_callee (f:=113) rfl ?_);refine gl_ (some 46) Try.func113 #[.int .i64 12] ?_;(with_reducible refine (r10_no.calls 12 t27 t30 _ A44.out).mono ?_);rintro e w54 ⟨v28,rfl,ho0,hb⟩;refine ⟨_,rfl, ?_⟩;have HO29:=am_ (Kd.R_lower (Kd.R_new' ho0 (Kd.R_lt (zr_ HO15))) (below_size (zl2_ HB GE1 GE2)));replace HO15:=am_ (Kd.R_elder' (zr_ HO15) (Kd.R_base ho0) hb);replace BK1:=am_ (blk_below (zb_ BK1) hb);replace BK2:=am_ (blk_below (zb_ BK2) hb);replace HB:=am_ (below_step (zl2_ HB GE1 GE2) hb);(try clear hb);(try clear hb2);(try clear hk);(try clear hi);(try clear ho0);obtain ⟨Ao55,co55,eo55⟩:=Kd.R_slice HO29.out;subst eo55;obtain ⟨hcz56_0,hcz56_1⟩:=x2_ BK2;have hfz56_0:=blk_frozen BK2.out 0;have hfz56_1:=blk_frozen BK2.out 1))
  refine bodyPost_ret (results_cell_row rfl _ _ gb2 67 #[.slice Ao55 t27.length co55, .int .i64 t30] (0,0) _ rfl (zw_ BK2) Try.underlying67 rfl (by kernel_rfl)) rfl ?_
  exact ⟨_,by first|rfl|(simp [errW_none,errW_some]<;>rfl)|(simp [*,errW_none,errW_some]<;>rfl),zy_ HO29 BK2,zl2_ HB GE1 GE2⟩
 subst c26
 have H1:((some (t13.set (t16:Int).toNat (⟨(rd_T31 t13 t16).f0,(rd_T31 t13 t16).f1,(⟨a2_0,a2_1,a2_2⟩:S27),(⟨(rd_T31 t13 t16).f3.f0,(rd_T31 t13 t16).f3.f1,(rd_T31 t13 t16).f3.f2⟩:S27),(⟨(rd_T31 t13 t16).f4.f0,(rd_T31 t13 t16).f4.f1,(rd_T31 t13 t16).f4.f2⟩:S27),(rd_T31 t13 t16).f5⟩:S31):List (S31))).bind fun y24=>(some ((y24.set (t16:Int).toNat (⟨(rd_T31 y24 t16).f0,(rd_T31 y24 t16).f1,(⟨(rd_T31 y24 t16).f2.f0,(rd_T31 y24 t16).f2.f1,(rd_T31 y24 t16).f2.f2⟩:S27),(⟨(rd_T31 y24 t16).f3.f0,(rd_T31 y24 t16).f3.f1,(rd_T31 y24 t16).f3.f2⟩:S27),(⟨(rd_T31 y24 t16).f4.f0,(rd_T31 y24 t16).f4.f1,(rd_T31 y24 t16).f4.f2⟩:S27),wrap64 (((rd_T31 y24 t16).f5)+1)⟩:S31)),0)))=some (r1,r2):=by rw [if_pos rfl] at H;exact H
 clear H
 have H:=H1
 clear H1
 obtain ⟨y24,hy24⟩: ∃y_:List (S31),y_=(t13.set (t16:Int).toNat (⟨(rd_T31 t13 t16).f0,(rd_T31 t13 t16).f1,(⟨a2_0,a2_1,a2_2⟩:S27),(⟨(rd_T31 t13 t16).f3.f0,(rd_T31 t13 t16).f3.f1,(rd_T31 t13 t16).f3.f2⟩:S27),(⟨(rd_T31 t13 t16).f4.f0,(rd_T31 t13 t16).f4.f1,(rd_T31 t13 t16).f4.f2⟩:S27),(rd_T31 t13 t16).f5⟩:S31)):=⟨_,rfl⟩
 replace H:(some ((y24.set (t16:Int).toNat (⟨(rd_T31 y24 t16).f0,(rd_T31 y24 t16).f1,(⟨(rd_T31 y24 t16).f2.f0,(rd_T31 y24 t16).f2.f1,(rd_T31 y24 t16).f2.f2⟩:S27),(⟨(rd_T31 y24 t16).f3.f0,(rd_T31 y24 t16).f3.f1,(rd_T31 y24 t16).f3.f2⟩:S27),(⟨(rd_T31 y24 t16).f4.f0,(rd_T31 y24 t16).f4.f1,(rd_T31 y24 t16).f4.f2⟩:S27),wrap64 (((rd_T31 y24 t16).f5)+1)⟩:S31)),0))=some (r1,r2):=by first|(rw [hy24];with_reducible exact H)|(have H2_:=(Option.bind_some _ _).symm.trans H;rw [hy24];with_reducible exact H2_)|(have H2_:=(Option.bind_some _ _).symm.trans H;with_reducible exact H2_)|with_reducible exact H|(rw [hy24];exact H)|exact H
 have Ny24:=Aside0.mk hy24
 clear hy24
 obtain ⟨y26,hy26⟩: ∃y_:List (S31),y_=(y24.set (t16:Int).toNat (⟨(rd_T31 y24 t16).f0,(rd_T31 y24 t16).f1,(⟨(rd_T31 y24 t16).f2.f0,(rd_T31 y24 t16).f2.f1,(rd_T31 y24 t16).f2.f2⟩:S27),(⟨(rd_T31 y24 t16).f3.f0,(rd_T31 y24 t16).f3.f1,(rd_T31 y24 t16).f3.f2⟩:S27),(⟨(rd_T31 y24 t16).f4.f0,(rd_T31 y24 t16).f4.f1,(rd_T31 y24 t16).f4.f2⟩:S27),wrap64 (((rd_T31 y24 t16).f5)+1)⟩:S31)):=⟨_,rfl⟩
 replace H:(some (y26,0))=some (r1,r2):=by first|(rw [hy26];with_reducible exact H)|(have H2_:=(Option.bind_some _ _).symm.trans H;rw [hy26];with_reducible exact H2_)|(have H2_:=(Option.bind_some _ _).symm.trans H;with_reducible exact H2_)|with_reducible exact H|(rw [hy26];exact H)|exact H
 have Ny26:=Aside0.mk hy26
 clear hy26
 simp only [Option.some.injEq,Prod.mk.injEq] at H
 obtain ⟨rfl,rfl⟩:=H
 go_enter Try.func91,Try.ntmps91
 try go_wp2_with (first|((with_reducible refine gate_dst (N:=6) rfl ?_);refine bx_ (N:=6) (cs:=#[.int .i64 a2_0, .int .i64 a2_1, .int .i64 a2_2]) (t:=27) ?_;intro gb1 hg w29 hbox hb;have n0_:=am_ (below_step (zl0_ HB) hb);have n1_:=am_ (hbox);have n2_:=am_ ((zg0_ HB hg:w.heap.size≤gb1));have n3_:=am_ ((zg0_ HB hg:w.heap.size≤gb1));clear HB;have HB:=n0_;have BK1:=n1_;have GE1:=n3_;clear n0_ n1_ n2_ n3_;clear hb hbox hg)|((with_reducible refine gate_dst (N:=8) rfl ?_);refine bx_ (N:=8) (cs:=#[.slice none 0 0, .int .i64 0]) (t:=67) ?_;intro gb2 hg w30 hbox hb;have n0_:=am_ (blk_below (zb_ BK1) hb);have n1_:=am_ (below_step (zl1_ HB GE1) hb);have n2_:=am_ (hbox);have n3_:=am_ ((zg1_ HB GE1 hg:w.heap.size≤gb2));have n4_:=am_ ((zg1_ HB GE1 hg:w.heap.size≤gb2));have n5_:=am_ ((zn_ BK1 hg:gb1≠gb2));have n6_:=am_ ((zm_ BK1 hg:gb2≠gb1));clear BK1;clear HB;have BK1:=n0_;have HB:=n1_;have BK2:=n2_;have GE2:=n4_;clear n0_ n1_ n2_ n3_ n4_ n5_ n6_;clear hb hbox hg;obtain ⟨hcz32_0,hcz32_1,hcz32_2⟩:=x3_ BK1)|((with_reducible refine gate_callee (f:=65) rfl ?_);refine gl_ (some 13) Try.func65 #[.agg #[.int .i64 a2_0, .int .i64 a2_1, .int .i64 a2_2]] ?_;(with_reducible refine (r10_MayVec.calls a2_0 a2_1 a2_2 true _ A5.out).mono ?_);rintro e w33 ⟨rfl,hb⟩;refine ⟨_,rfl, ?_⟩;replace BK1:=am_ (blk_below (zb_ BK1) hb);replace BK2:=am_ (blk_below (zb_ BK2) hb);replace HB:=am_ (below_step (zl2_ HB GE1 GE2) hb);(try clear hb);(try clear hb2);(try clear hk);(try clear hi))|((with_reducible refine gate_callee (f:=147) rfl ?_);refine gl_ (some 19) Try.func147 #[.slice A0 l0.length c0, .string a1, .int .i64 a3] ?_;(with_reducible refine (r10_old.calls k _ _ l0 a1 a3 t8 _ ?side1 ?side2 A7.out).mono ?_);(case side1=>exact zc_ (Kd.C_below HR0.out HB.out));(case side2=>exact HC0.out);rintro e w' ⟨rfl,⟨nd,rfl⟩⟩;refine ⟨_,rfl, ?_⟩;(try (rw [drewN_self w33];generalize hq_:World.drewN w33 _=w33;have n0_:Aside0 (w33.heap[gb1]?=some (.cells #[.int .i64 a2_0, .int .i64 a2_1, .int .i64 a2_2] 27 (0,0))):=⟨by rw [←hq_];exact (zb_ BK1)⟩;have n1_:Aside0 (w33.heap[gb2]?=some (.cells #[.slice none 0 0, .int .i64 0] 67 (0,0))):=⟨by rw [←hq_];exact (zb_ BK2)⟩;have n2_:Aside0 (Below w.heap.size w w33):=⟨by rw [←hq_];exact (zl2_ HB GE1 GE2)⟩;clear BK1 BK2 HB hq_;have BK1:=n0_;have BK2:=n1_;have HB:=n2_;clear n0_ n1_ n2_)))|((with_reducible refine gate_callee (f:=124) rfl ?_);refine gl_ (some 25) Try.func124 #[.slice A0 l0.length c0] ?_;(with_reducible refine (r10_copied.calls _ _ l0 t13 _ ?side1 ?side2 A9.out).mono ?_);(case side1=>exact zc_ (Kd.C_below HR0.out HB.out));(case side2=>exact HC0.out);rintro e w34 ⟨v14,rfl,ho0,hb⟩;refine ⟨_,rfl, ?_⟩;have HO15:=am_ (Kd.R_lower ho0 (below_size (zl2_ HB GE1 GE2)));replace BK1:=am_ (blk_below (zb_ BK1) hb);replace BK2:=am_ (blk_below (zb_ BK2) hb);replace HB:=am_ (below_step (zl2_ HB GE1 GE2) hb);(try clear hb);(try clear hb2);(try clear hk);(try clear hi);(try clear ho0);obtain ⟨Ao35,co35,eo35⟩:=Kd.R_slice HO15.out;subst eo35)|((with_reducible refine gate_callee (f:=50) rfl ?_);refine gl_ (some 28) Try.func50 #[.slice Ao35 t13.length co35, .string a1] ?_;(with_reducible refine (r10_Find.calls k _ _ t13 a1 t16 _ ?side1 ?side2 A10.out).mono ?_);(case side1=>exact zc_ (Kd.R_reads' HO15.out).2.2);(case side2=>exact (Kd.R_reads' HO15.out).2.1);rintro e w' ⟨rfl,⟨nd,rfl⟩⟩;refine ⟨_,rfl, ?_⟩;(try (rw [drewN_self w34];generalize hq_:World.drewN w34 _=w34;have n0_:Aside0 (Kd.R k31 31 w34 w.heap.size (fun _=>True) (.slice Ao35 t13.length co35) t13):=⟨by rw [←hq_];exact (zr_ HO15)⟩;have n1_:Aside0 (w34.heap[gb1]?=some (.cells #[.int .i64 a2_0, .int .i64 a2_1, .int .i64 a2_2] 27 (0,0))):=⟨by rw [←hq_];exact (zb_ BK1)⟩;have n2_:Aside0 (w34.heap[gb2]?=some (.cells #[.slice none 0 0, .int .i64 0] 67 (0,0))):=⟨by rw [←hq_];exact (zb_ BK2)⟩;have n3_:Aside0 (Below w.heap.size w w34):=⟨by rw [←hq_];exact (zl2_ HB GE1 GE2)⟩;clear HO15 BK1 BK2 HB hq_;have HO15:=n0_;have BK1:=n1_;have BK2:=n2_;have HB:=n3_;clear n0_ n1_ n2_ n3_));have p17:0≤(t16:Int):=of_decide_eq_true zq_;have q17:t16<(t13.length:Int):=of_decide_eq_true zq_;obtain ⟨ad17,e17,hx17_0,hx17_1,hx17_2,hx17_3,hx17_4,hx17_5,hx17_6,hx17_7,hx17_8,hx17_9,hx17_10,hx17_11⟩:=at_T31 (Kd.R_reads' HO15.out).2.2 t16 p17 q17;cases e17;replace p17:=eq_true p17;replace q17:=eq_true q17))
 replace HO15:=am_ (Kd.R_drew HO15.out)
 replace BK1:=am_ (blk_drew BK1.out)
 replace BK2:=am_ (blk_drew BK2.out)
 replace HB:=am_ (below_drew1 HB.out)
 have p22:0≤(t16:Int):=of_decide_eq_true zq_
 have q22:t16<(t13.length:Int):=of_decide_eq_true zq_
 obtain ⟨ad22,e22,hx22_0,hx22_1,hx22_2,hx22_3,hx22_4,hx22_5,hx22_6,hx22_7,hx22_8,hx22_9,hx22_10,hx22_11⟩:=at_T31 (Kd.R_reads' HO15.out).2.2 t16 p22 q22
 obtain rfl:ad17=ad22:=(by injection e22)
 replace p22:=eq_true p22
 replace q22:=eq_true q22
 refine start_ (n:=9) (S:=fun w'=>w'.cell? ⟨gb1,0,none⟩=some (.int .i64 a2_0)∧w'.cell? ⟨gb1,1,none⟩=some (.int .i64 a2_1)∧w'.cell? ⟨gb1,2,none⟩=some (.int .i64 a2_2)∧w'.cell? (ad17.add ((t16).toNat*12))=some (.string ((rd_T31 t13 t16).f0))∧w'.cell? ⟨(ad17.add ((t16).toNat*12)).block,(ad17.add ((t16).toNat*12)).off+1,none⟩=some (.string ((rd_T31 t13 t16).f1))∧w'.cell? ⟨(ad17.add ((t16).toNat*12)).block,(ad17.add ((t16).toNat*12)).off+2,none⟩=some (.int .i64 ((rd_T31 t13 t16).f2.f0))∧w'.cell? ⟨(ad17.add ((t16).toNat*12)).block,(ad17.add ((t16).toNat*12)).off+3,none⟩=some (.int .i64 ((rd_T31 t13 t16).f2.f1))∧w'.cell? ⟨(ad17.add ((t16).toNat*12)).block,(ad17.add ((t16).toNat*12)).off+4,none⟩=some (.int .i64 ((rd_T31 t13 t16).f2.f2))∧w'.cell? ⟨(ad17.add ((t16).toNat*12)).block,(ad17.add ((t16).toNat*12)).off+5,none⟩=some (.int .i64 ((rd_T31 t13 t16).f3.f0))∧w'.cell? ⟨(ad17.add ((t16).toNat*12)).block,(ad17.add ((t16).toNat*12)).off+6,none⟩=some (.int .i64 ((rd_T31 t13 t16).f3.f1))∧w'.cell? ⟨(ad17.add ((t16).toNat*12)).block,(ad17.add ((t16).toNat*12)).off+7,none⟩=some (.int .i64 ((rd_T31 t13 t16).f3.f2))∧w'.cell? ⟨(ad17.add ((t16).toNat*12)).block,(ad17.add ((t16).toNat*12)).off+8,none⟩=some (.int .i64 ((rd_T31 t13 t16).f4.f0))∧w'.cell? ⟨(ad17.add ((t16).toNat*12)).block,(ad17.add ((t16).toNat*12)).off+9,none⟩=some (.int .i64 ((rd_T31 t13 t16).f4.f1))∧w'.cell? ⟨(ad17.add ((t16).toNat*12)).block,(ad17.add ((t16).toNat*12)).off+10,none⟩=some (.int .i64 ((rd_T31 t13 t16).f4.f2))∧w'.cell? ⟨(ad17.add ((t16).toNat*12)).block,(ad17.add ((t16).toNat*12)).off+11,none⟩=some (.int .i64 ((rd_T31 t13 t16).f5))) (ds:=[]) (bt_ 9 0) (by kernel_rfl) rfl rfl ⟨(blk_cell BK1.out 0).trans rfl,(blk_cell BK1.out 1).trans rfl,(blk_cell BK1.out 2).trans rfl,hx22_0,hx22_1,hx22_2,hx22_3,hx22_4,hx22_5,hx22_6,hx22_7,hx22_8,hx22_9,hx22_10,hx22_11⟩ (fun hHeld=> ?_);refine with_tabW r10_Limit.tab10 r10_Limit.bits10 (fun HT_ HW_=> ?_)
 generalize w34.drew=w36 at HO15 BK1 BK2 HB hx22_0 hx22_1 hx22_10 hx22_11 hx22_2 hx22_3 hx22_4 hx22_5 hx22_6 hx22_7 hx22_8 hx22_9 hHeld ⊢
 refine pu_ (i:=0) (N:=some 38) (bt_ 9 1) HT_ ?_
 refine pu_ (i:=1) (N:=some 39) (bt_ 9 3) HT_ ?_
 refine pu_ (i:=2) (N:=some 40) (bt_ 9 7) HT_ ?_
 refine pu_ (i:=3) (N:=some 41) (bt_ 9 15) HT_ ?_
 refine tk_ (i:=4) (N:=some 42) (bt_ 9 31) HT_ HW_ hHeld ?_
 refine tk_ (i:=5) (N:=some 43) (bt_ 9 63) HT_ HW_ hHeld ?_
 refine on_ (i:=6) (N:=some 44) (bt_ 9 127) HT_ (fun K hK=> ?_)
 refine gs_ Try.func34 #[.agg #[.int .i64 ((rd_T31 t13 t16).f4.f0), .int .i64 ((rd_T31 t13 t16).f4.f1), .int .i64 ((rd_T31 t13 t16).f4.f2)], .agg #[.int .i64 a2_0, .int .i64 a2_1, .int .i64 a2_2]] ?_
 with_reducible refine (r10_Le.calls ((rd_T31 t13 t16).f4.f0) ((rd_T31 t13 t16).f4.f1) ((rd_T31 t13 t16).f4.f2) a2_0 a2_1 a2_2 true _ A25.out).mono ?_
 rintro e w37 ⟨rfl,hb⟩
 have HS3_:=zh_ hb (hHeld.2.2.2.1)
 have HS4_:=zh_ hb (hHeld.2.2.2.2.1)
 have HS5_:=zh_ hb (hHeld.2.2.2.2.2.1)
 have HS6_:=zh_ hb (hHeld.2.2.2.2.2.2.1)
 have HS7_:=zh_ hb (hHeld.2.2.2.2.2.2.2.1)
 have HS8_:=zh_ hb (hHeld.2.2.2.2.2.2.2.2.1)
 have HS9_:=zh_ hb (hHeld.2.2.2.2.2.2.2.2.2.1)
 have HS10_:=zh_ hb (hHeld.2.2.2.2.2.2.2.2.2.2.1)
 have HS11_:=zh_ hb (hHeld.2.2.2.2.2.2.2.2.2.2.2.1)
 have HS12_:=zh_ hb (hHeld.2.2.2.2.2.2.2.2.2.2.2.2.1)
 have HS13_:=zh_ hb (hHeld.2.2.2.2.2.2.2.2.2.2.2.2.2.1)
 have HS14_:=zh_ hb (hHeld.2.2.2.2.2.2.2.2.2.2.2.2.2.2)
 refine ⟨_,rfl, ?_⟩
 replace HO15:=am_ (Kd.R_below (zr_ HO15) hb)
 replace BK1:=am_ (blk_below (zb_ BK1) hb)
 replace BK2:=am_ (blk_below (zb_ BK2) hb)
 replace HB:=am_ (below_step (zl2_ HB GE1 GE2) hb)
 (try clear hb)
 (try clear hb2)
 (try clear hk)
 (try clear hi)
 refine hK.out _ _ ⟨(blk_cell BK1.out 0).trans rfl,(blk_cell BK1.out 1).trans rfl,(blk_cell BK1.out 2).trans rfl,HS3_,HS4_,HS5_,HS6_,HS7_,HS8_,HS9_,HS10_,HS11_,HS12_,HS13_,HS14_⟩ (fun hHeld=> ?_)
 clear hK K
 refine no_ (N:=some 44) ?_
 refine pu_ (i:=7) (N:=some 45) (bt_ 9 255) HT_ ?_
 refine pu_ (i:=8) (N:=some 37) (bt_ 9 511) HT_ ?_
 refine done_ (done_of HT_.out (by kernel_rfl)) ?_
 obtain ⟨hcz38_0,hcz38_1,hcz38_2⟩:=x3_ BK1
 have p27:0≤(t16:Int):=of_decide_eq_true zq_
 have q27:(t16:Int)<((t13.length:Int):Int):=of_decide_eq_true zq_
 obtain ⟨go27,co27,eo27,gb27,gl27,cl27,HG27⟩:=Kd.R_form HO15.out (by omega)
 (first|cases eo27|(injection eo27 with ea_ en_ ec_;(first|subst ea_|(injection ea_ with ea_;subst ea_));subst ec_;clear en_))
 have GB27:=Aside0.mk gb27
 clear gb27 gl27 HG27
 replace hx17_0:=zv_ hx17_0
 replace hx17_1:=zv_ hx17_1
 replace hx17_2:=zv_ hx17_2
 replace hx17_3:=zv_ hx17_3
 replace hx17_4:=zv_ hx17_4
 replace hx17_5:=zv_ hx17_5
 replace hx17_6:=zv_ hx17_6
 replace hx17_7:=zv_ hx17_7
 replace hx17_8:=zv_ hx17_8
 replace hx17_9:=zv_ hx17_9
 replace hx17_10:=zv_ hx17_10
 replace hx17_11:=zv_ hx17_11
 replace hx22_0:=zv_ hx22_0
 replace hx22_1:=zv_ hx22_1
 replace hx22_2:=zv_ hx22_2
 replace hx22_3:=zv_ hx22_3
 replace hx22_4:=zv_ hx22_4
 replace hx22_5:=zv_ hx22_5
 replace hx22_6:=zv_ hx22_6
 replace hx22_7:=zv_ hx22_7
 replace hx22_8:=zv_ hx22_8
 replace hx22_9:=zv_ hx22_9
 replace hx22_10:=zv_ hx22_10
 replace hx22_11:=zv_ hx22_11
 obtain ⟨ce27,hcl27,hM27,hcc27,hfr27⟩:=Kd.R_elem HO15.out z31 (t16:Int) p27 q27
 obtain rfl:=k31_openM hM27
 have hx27_2:w37.cell? ⟨go27,(t16:Int).toNat*12+2,none⟩=some (.int .i64 ((rd_T31 t13 t16).f2.f0)):=hcc27 2 _ rfl
 have hx27_3:w37.cell? ⟨go27,(t16:Int).toNat*12+3,none⟩=some (.int .i64 ((rd_T31 t13 t16).f2.f1)):=hcc27 3 _ rfl
 have hx27_4:w37.cell? ⟨go27,(t16:Int).toNat*12+4,none⟩=some (.int .i64 ((rd_T31 t13 t16).f2.f2)):=hcc27 4 _ rfl
 have hf27_2:w37.frozen? ⟨go27,(t16:Int).toNat*12+2,none⟩=false:=hfr27 2
 have hf27_3:w37.frozen? ⟨go27,(t16:Int).toNat*12+3,none⟩=false:=hfr27 3
 have hf27_4:w37.frozen? ⟨go27,(t16:Int).toNat*12+4,none⟩=false:=hfr27 4
 clear hcl27 hcc27 hfr27 hM27
 replace p27:=eq_true p27
 replace q27:=eq_true q27
 have HX39:=am_ (show Kd.R k31 31 w37 w.heap.size (fun _=>True) (.slice (some ⟨go27,0,none⟩) t13.length co35) t13 from (zr_ HO15))
 obtain ⟨ce39,hcl39,hM39,hcc39,hfr39⟩:=Kd.R_elem HX39.out z31 (t16:Int) (of_decide_eq_true zq_) (by have h_:(t16:Int)<((t13.length:Int):Int):=of_decide_eq_true zq_;first|exact h_|(have e_:=(Kd.R_reads' HO15.out).1;omega)|simpa using h_)
 obtain rfl:=k31_openM hM39
 have HP39:=Kd.R_seg HX39.out (t16:Int) (of_decide_eq_true zq_) (by have h_:(t16:Int)<((t13.length:Int):Int):=of_decide_eq_true zq_;first|exact h_|(have e_:=(Kd.R_reads' HO15.out).1;omega)|simpa using h_) (seg:=[.int .i64 a2_0, .int .i64 a2_1, .int .i64 a2_2]) (j:=2) hcl39 hcc39 (show 5≤12 from by decide) (x':=(⟨(rd_T31 t13 t16).f0,(rd_T31 t13 t16).f1,(⟨a2_0,a2_1,a2_2⟩:S27),(⟨(rd_T31 t13 t16).f3.f0,(rd_T31 t13 t16).f3.f1,(rd_T31 t13 t16).f3.f2⟩:S27),(⟨(rd_T31 t13 t16).f4.f0,(rd_T31 t13 t16).f4.f1,(rd_T31 t13 t16).f4.f2⟩:S27),(rd_T31 t13 t16).f5⟩:S31)) (k31_mkM _ _ _ (⟨(rd_T31 t13 t16).f0,(rd_T31 t13 t16).f1,(⟨a2_0,a2_1,a2_2⟩:S27),(⟨(rd_T31 t13 t16).f3.f0,(rd_T31 t13 t16).f3.f1,(rd_T31 t13 t16).f3.f2⟩:S27),(⟨(rd_T31 t13 t16).f4.f0,(rd_T31 t13 t16).f4.f1,(rd_T31 t13 t16).f4.f2⟩:S27),(rd_T31 t13 t16).f5⟩:S31)) (fun _ hk=>hk)
 have hx39_2:=hcc39 2 _ rfl
 (try simp only [show (k31).sz=12 from rfl,Nat.mul_one,Nat.add_zero] at hx39_2)
 have hf39_2:=hfr39 2
 (try simp only [show (k31).sz=12 from rfl,Nat.mul_one,Nat.add_zero] at hf39_2)
 have hx39_3:=hcc39 3 _ rfl
 (try simp only [show (k31).sz=12 from rfl,Nat.mul_one,Nat.add_zero] at hx39_3)
 have hf39_3:=hfr39 3
 (try simp only [show (k31).sz=12 from rfl,Nat.mul_one,Nat.add_zero] at hf39_3)
 have hx39_4:=hcc39 4 _ rfl
 (try simp only [show (k31).sz=12 from rfl,Nat.mul_one,Nat.add_zero] at hx39_4)
 have hf39_4:=hfr39 4
 (try simp only [show (k31).sz=12 from rfl,Nat.mul_one,Nat.add_zero] at hf39_4)
 clear hcl39 hcc39 hfr39 hM39
 try go_wp2_with (first|((with_reducible refine gate_store (t:=27) (p:=51) rfl ?_);refine store_event (t:=27) (p:=51) (v:= ?vo_w40) (w1:=(((w37.setCell ⟨go27,(t16:Int).toNat*12+2,none⟩ (.int .i64 a2_0)).setCell ⟨go27,(t16:Int).toNat*12+3,none⟩ (.int .i64 a2_1)).setCell ⟨go27,(t16:Int).toNat*12+4,none⟩ (.int .i64 a2_2))) ?hg ?ho ?hn ?hr ?_;(case ho=>rfl);(case hg=>rfl);(case hn=>rfl);(case hr=>first|(go_simp;done)|(go_simp;rfl));intro w40 hw;have hg:w37.grownBy w40 (some go27):=(by rw [hw];exact HP39.2);have hp_:Kd.R k31 31 w40 w.heap.size (fun _=>True) (.slice (some ⟨go27,0,none⟩) t13.length co35) y24:=(by rw [hw,Ny24.out];exact HP39.1);clear HP39;replace BK1:=am_ (blk_grown (zb_ BK1) hg (Kd.R_ne HO15.out BK1.out (by decide)));replace BK2:=am_ (blk_grown (zb_ BK2) hg (Kd.R_ne HO15.out BK2.out (by decide)));replace HO15:=am_ (hp_);replace HB:=am_ ((by rw [hw];exact below_set (below_set (below_set (HB.out) GB27.out) GB27.out) GB27.out:Below w.heap.size w w40));clear hg hw hp_;have p25:0≤(t16:Int):=of_decide_eq_true zq_;have q25:t16<(y24.length:Int):=(by have h_:(t16:Int)<((t13.length:Int):Int):=of_decide_eq_true zq_;first|(have e_:=(Kd.R_reads' HO15.out).1;omega)|simpa only [Ny24.out,List.length_set] using h_);obtain ⟨ad25,e25,hx25_0,hx25_1,hx25_2,hx25_3,hx25_4,hx25_5,hx25_6,hx25_7,hx25_8,hx25_9,hx25_10,hx25_11⟩:=at_T31 (Kd.R_reads' HO15.out).2.2 t16 p25 q25;obtain rfl:(⟨go27,0,none⟩:Addr)=ad25:=(by injection e25);replace hx25_0:=za_ hx25_0;replace hx25_1:=za_ hx25_1;replace hx25_2:=za_ hx25_2;replace hx25_3:=za_ hx25_3;replace hx25_4:=za_ hx25_4;replace hx25_5:=za_ hx25_5;replace hx25_6:=za_ hx25_6;replace hx25_7:=za_ hx25_7;replace hx25_8:=za_ hx25_8;replace hx25_9:=za_ hx25_9;replace hx25_10:=za_ hx25_10;replace hx25_11:=za_ hx25_11;replace p25:=eq_true p25;replace q25:=eq_true q25;have p28:0≤(t16:Int):=of_decide_eq_true zq_;have q28:(t16:Int)<((t13.length:Int):Int):=of_decide_eq_true zq_;obtain ⟨ce28,hcl28,hM28,hcc28,hfr28⟩:=Kd.R_elem HO15.out z31 (t16:Int) p28 q28;obtain rfl:=k31_openM hM28;have hf28_11:w40.frozen? ⟨go27,(t16:Int).toNat*12+11,none⟩=false:=hfr28 11;clear hcl28 hcc28 hfr28 hM28;replace p28:=eq_true p28;replace q28:=eq_true q28;have HX41:=am_ (show Kd.R k31 31 w40 w.heap.size (fun _=>True) (.slice (some ⟨go27,0,none⟩) t13.length co35) y24 from (zr_ HO15));obtain ⟨ce41,hcl41,hM41,hcc41,hfr41⟩:=Kd.R_elem HX41.out z31 (t16:Int) (of_decide_eq_true zq_) (by have h_:(t16:Int)<((t13.length:Int):Int):=of_decide_eq_true zq_;first|exact h_|(have e_:=(Kd.R_reads' HO15.out).1;omega)|simpa using h_);obtain rfl:=k31_openM hM41;have HP41:=Kd.R_seg HX41.out (t16:Int) (of_decide_eq_true zq_) (by have h_:(t16:Int)<((t13.length:Int):Int):=of_decide_eq_true zq_;first|exact h_|(have e_:=(Kd.R_reads' HO15.out).1;omega)|simpa using h_) (seg:=[.int .i64 (wrap64 (((rd_T31 y24 t16).f5)+1))]) (j:=11) hcl41 hcc41 (show 12≤12 from by decide) (x':=(⟨(rd_T31 y24 t16).f0,(rd_T31 y24 t16).f1,(⟨(rd_T31 y24 t16).f2.f0,(rd_T31 y24 t16).f2.f1,(rd_T31 y24 t16).f2.f2⟩:S27),(⟨(rd_T31 y24 t16).f3.f0,(rd_T31 y24 t16).f3.f1,(rd_T31 y24 t16).f3.f2⟩:S27),(⟨(rd_T31 y24 t16).f4.f0,(rd_T31 y24 t16).f4.f1,(rd_T31 y24 t16).f4.f2⟩:S27),wrap64 (((rd_T31 y24 t16).f5)+1)⟩:S31)) (k31_mkM _ _ _ (⟨(rd_T31 y24 t16).f0,(rd_T31 y24 t16).f1,(⟨(rd_T31 y24 t16).f2.f0,(rd_T31 y24 t16).f2.f1,(rd_T31 y24 t16).f2.f2⟩:S27),(⟨(rd_T31 y24 t16).f3.f0,(rd_T31 y24 t16).f3.f1,(rd_T31 y24 t16).f3.f2⟩:S27),(⟨(rd_T31 y24 t16).f4.f0,(rd_T31 y24 t16).f4.f1,(rd_T31 y24 t16).f4.f2⟩:S27),wrap64 (((rd_T31 y24 t16).f5)+1)⟩:S31)) (fun _ hk=>hk);have hx41_11:=hcc41 11 _ rfl;(try simp only [show (k31).sz=12 from rfl,Nat.mul_one,Nat.add_zero] at hx41_11);have hf41_11:=hfr41 11;(try simp only [show (k31).sz=12 from rfl,Nat.mul_one,Nat.add_zero] at hf41_11);clear hcl41 hcc41 hfr41 hM41)|((with_reducible refine gate_store (t:=3) (p:=59) rfl ?_);refine store_event (t:=3) (p:=59) (v:= ?vo_w42) (w1:=(w40.setCell ⟨go27,(t16:Int).toNat*12+11,none⟩ (.int .i64 (wrap64 (((rd_T31 y24 t16).f5)+1))))) ?hg ?ho ?hn ?hr ?_;(case ho=>rfl);(case hg=>rfl);(case hn=>rfl);(case hr=>first|(go_simp;done)|(go_simp;rfl));intro w42 hw;have hg:w40.grownBy w42 (some go27):=(by rw [hw];exact HP41.2);have hp_:Kd.R k31 31 w42 w.heap.size (fun _=>True) (.slice (some ⟨go27,0,none⟩) t13.length co35) y26:=(by rw [hw,Ny26.out];exact HP41.1);clear HP41;replace BK1:=am_ (blk_grown (zb_ BK1) hg (Kd.R_ne HO15.out BK1.out (by decide)));replace BK2:=am_ (blk_grown (zb_ BK2) hg (Kd.R_ne HO15.out BK2.out (by decide)));replace HO15:=am_ (hp_);replace HB:=am_ ((by rw [hw];exact below_set (HB.out) GB27.out:Below w.heap.size w w42));clear hg hw hp_;obtain ⟨hcz43_0,hcz43_1⟩:=x2_ BK2;have hfz43_0:=blk_frozen BK2.out 0;have hfz43_1:=blk_frozen BK2.out 1))
 refine bodyPost_ret (results_cell_row rfl _ _ gb2 67 #[.slice (some ⟨go27,0,none⟩) t13.length co35, .int .i64 0] (0,0) _ rfl (zw_ BK2) Try.underlying67 rfl (by kernel_rfl)) rfl ?_
 exact ⟨_,by first|rfl|(simp [errW_none,errW_some]<;>rfl)|(simp [*,errW_none,errW_some]<;>rfl),zy_ HO15 BK2,zl2_ HB GE1 GE2⟩
attribute [local go_sem high] eqA27
def r10_Delete.j0:Nat→List (S31)→Int→Bool→Option ((List (S31))×Int)
 |0,_,_,_=>none
 |k+1,x0,x8,x34=>if x34=true then ((r10_no.f 13).bind fun bt12=>(some (bt12.1,bt12.2))) else (if 0≤x8 then (if x8≤(x0.length:Int) then ((r10_copied.f (x0.take (x8:Int).toNat)).bind fun t20=>(if 0≤(wrap64 (x8+1)) then (if (wrap64 (x8+1))≤(x0.length:Int) then ((some (x0.drop ((wrap64 (x8+1)):Int).toNat:List (S31))).bind fun y23=>(if t20.length+y23.length<1256584717458 then (some ((t20++y23),0)) else (none))) else (none)) else (none))) else (none)) else (none))
def r10_Delete.f (k:Nat) (l0:List (S31)) (a1:ByteArray) (a2:Int):Option ((List (S31))×Int):=(r10_old.f k l0 a1 a2).bind fun t2=>(if t2=0 then ((r10_Find.f k l0 a1).bind fun t7=>((r10_Below.f k l0 a1).bind fun t8=>(if (t8.length:Int)>0 then (r10_Delete.j0 k l0 t7 true) else (if 0≤t7 then (if t7<(l0.length:Int) then (r10_Delete.j0 k l0 t7 (!(((rd_T31 l0 t7).f3.f0)==0)||(!(((rd_T31 l0 t7).f3.f1)==0)||(!(((rd_T31 l0 t7).f3.f2)==0))))) else (none)) else (none))))) else ((r10_no.f t2).bind fun bt3=>(some (bt3.1,bt3.2))))
theorem r10_Delete.mono_l: ∀k,(∀y0 y1 y2,LeO (r10_Delete.j0 k y0 y1 y2) (r10_Delete.j0 (k+1) y0 y1 y2))
 |0=>fun _ _ _ r h=>by simp [r10_Delete.j0] at h
 |k+1=>by
  have ih0:=r10_Delete.mono_l k
  intro y0 y1 y2
  unfold r10_Delete.j0
  repeat' first
  |(with_reducible exact ih0 _ _ _)
  |(with_reducible exact r10_Below.mono _ _ _)
  |(with_reducible exact r10_Find.mono _ _ _)
  |(with_reducible exact r10_old.mono _ _ _ _)
  |(with_reducible exact LeO.refl _)
  |(with_reducible exact LeO.none _)
  |(with_reducible refine LeO.ite ?_ ?_)
  |(with_reducible refine LeO.bind ?_ (fun _=> ?_))
  |exact ih0 _ _ _
  |exact r10_Below.mono _ _ _
  |exact r10_Find.mono _ _ _
  |exact r10_old.mono _ _ _ _
  |exact LeO.none _
  |refine LeO.ite ?_ ?_
  |refine LeO.bind ?_ (fun _=> ?_)
theorem r10_Delete.mono: ∀a0 a1 a2 k,LeO (r10_Delete.f k a0 a1 a2) (r10_Delete.f (k+1) a0 a1 a2):=by
 intro a0 a1 a2 k
 have ih0:=r10_Delete.mono_l k
 unfold r10_Delete.f
 repeat' first
  |(with_reducible exact ih0 _ _ _)
  |(with_reducible exact r10_Below.mono _ _ _)
  |(with_reducible exact r10_Find.mono _ _ _)
  |(with_reducible exact r10_old.mono _ _ _ _)
  |(with_reducible exact LeO.refl _)
  |(with_reducible exact LeO.none _)
  |(with_reducible refine LeO.ite ?_ ?_)
  |(with_reducible refine LeO.bind ?_ (fun _=> ?_))
  |exact ih0 _ _ _
  |exact r10_Below.mono _ _ _
  |exact r10_Find.mono _ _ _
  |exact r10_old.mono _ _ _ _
  |exact LeO.none _
  |refine LeO.ite ?_ ?_
  |refine LeO.bind ?_ (fun _=> ?_)
set_option maxHeartbeats 8000000 in
set_option maxRecDepth 100000 in
theorem r10_Delete.calls (k:Nat) (A0:Option Addr) (c0:Nat) (l0:List (S31)) (a1:ByteArray) (a2:Int) (r1:List (S31)) (r2:Int) (w:World) (hr0:Kd.C k31 w A0 l0.length l0) (hc0:l0.length≤c0) (h:r10_Delete.f k l0 a1 a2=some (r1,r2)):
  Calls Try.prog 93 #[.slice A0 l0.length c0, .string a1, .int .i64 a2] w fun e w'=> ∃v0_:Value,e= .returned (.agg #[v0_, .int .i64 r2])∧Kd.R k31 31 w' w.heap.size (fun _=>True) v0_ r1∧Below w.heap.size w w':=by
 have HR0:=Aside0.mk hr0
 have HC0:=Aside0.mk hc0
 clear hr0 hc0
 have HB:=am_ (Below.refl w.heap.size w)
 have H:((r10_old.f k l0 a1 a2).bind fun t2=>(if t2=0 then ((r10_Find.f k l0 a1).bind fun t7=>((r10_Below.f k l0 a1).bind fun t8=>(if (t8.length:Int)>0 then (r10_Delete.j0 k l0 t7 true) else (if 0≤t7 then (if t7<(l0.length:Int) then (r10_Delete.j0 k l0 t7 (!(((rd_T31 l0 t7).f3.f0)==0)||(!(((rd_T31 l0 t7).f3.f1)==0)||(!(((rd_T31 l0 t7).f3.f2)==0))))) else (none)) else (none))))) else ((r10_no.f t2).bind fun bt3=>(some (bt3.1,bt3.2)))))=some (r1,r2):=h
 clear h
 replace H:=Option.bind_eq_some_iff.mp H
 obtain ⟨t2,A40,H⟩:=H
 try dsimp only at H
 have A4:=Aside0.mk A40
 clear A40
 by_cases c5:t2=0
 rotate_left
 ·rw [if_neg c5] at H
  have c5b1:(t2 !=0)=true:=bne_iff_ne.mpr c5
  replace H:=Option.bind_eq_some_iff.mp H
  obtain ⟨⟨t3,t6⟩,A350,H⟩:=H
  try dsimp only at H
  have A35:=Aside0.mk A350
  clear A350
  simp only [Option.some.injEq,Prod.mk.injEq] at H
  obtain ⟨rfl,rfl⟩:=H
  go_enter Try.func93,Try.ntmps93
  go_wp2_with (first|((with_reducible refine gate_dst (N:=6) rfl ?_);refine bx_ (N:=6) (cs:=#[.slice none 0 0, .int .i64 0]) (t:=67) ?_;intro gb1 hg w36 hbox hb;have n0_:=am_ (below_step (zl0_ HB) hb);have n1_:=am_ (hbox);have n2_:=am_ ((zg0_ HB hg:w.heap.size≤gb1));have n3_:=am_ ((zg0_ HB hg:w.heap.size≤gb1));clear HB;have HB:=n0_;have BK1:=n1_;have GE1:=n3_;clear n0_ n1_ n2_ n3_;clear hb hbox hg)|((with_reducible refine gate_callee (f:=147) rfl ?_);refine gl_ (some 13) Try.func147 #[.slice A0 l0.length c0, .string a1, .int .i64 a2] ?_;(with_reducible refine (r10_old.calls k _ _ l0 a1 a2 t2 _ ?side1 ?side2 A4.out).mono ?_);(case side1=>exact zc_ (Kd.C_below HR0.out HB.out));(case side2=>exact HC0.out);rintro e w' ⟨rfl,⟨nd,rfl⟩⟩;refine ⟨_,rfl, ?_⟩;(try (rw [drewN_self w36];generalize hq_:World.drewN w36 _=w36;have n0_:Aside0 (w36.heap[gb1]?=some (.cells #[.slice none 0 0, .int .i64 0] 67 (0,0))):=⟨by rw [←hq_];exact (zb_ BK1)⟩;have n1_:Aside0 (Below w.heap.size w w36):=⟨by rw [←hq_];exact (zl1_ HB GE1)⟩;clear BK1 HB hq_;have BK1:=n0_;have HB:=n1_;clear n0_ n1_)))|((with_reducible refine gate_callee (f:=113) rfl ?_);refine gl_ (some 17) Try.func113 #[.int .i64 t2] ?_;(with_reducible refine (r10_no.calls t2 t3 t6 _ A35.out).mono ?_);rintro e w37 ⟨v4,rfl,ho0,hb⟩;refine ⟨_,rfl, ?_⟩;have HO5:=am_ (Kd.R_lower ho0 (below_size (zl1_ HB GE1)));replace BK1:=am_ (blk_below (zb_ BK1) hb);replace HB:=am_ (below_step (zl1_ HB GE1) hb);(try clear hb);(try clear hb2);(try clear hk);(try clear hi);(try clear ho0);obtain ⟨Ao38,co38,eo38⟩:=Kd.R_slice HO5.out;subst eo38;obtain ⟨hcz39_0,hcz39_1⟩:=x2_ BK1;have hfz39_0:=blk_frozen BK1.out 0;have hfz39_1:=blk_frozen BK1.out 1))
  refine bodyPost_ret (results_cell_row rfl _ _ gb1 67 #[.slice Ao38 t3.length co38, .int .i64 t6] (0,0) _ rfl (zw_ BK1) Try.underlying67 rfl (by kernel_rfl)) rfl ?_
  exact ⟨_,by first|rfl|(simp [errW_none,errW_some]<;>rfl)|(simp [*,errW_none,errW_some]<;>rfl),zy_ HO5 BK1,zl1_ HB GE1⟩

 rw [if_pos c5] at H
 have c5b1:(t2 !=0)=false:=bne_eq_false_iff_eq.mpr c5
 clear c5
 replace H:=Option.bind_eq_some_iff.mp H
 obtain ⟨t7,A60,H⟩:=H
 try dsimp only at H
 have A6:=Aside0.mk A60
 clear A60
 have HC7:=Aside0.mk H
 clear H
 go_enter Try.func93,Try.ntmps93
 go_upto_region 5 with (first|((with_reducible refine gate_dst (N:=6) rfl ?_);refine bx_ (N:=6) (cs:=#[.slice none 0 0, .int .i64 0]) (t:=67) ?_;intro gb1 hg w8 hbox hb;have n0_:=am_ (below_step (zl0_ HB) hb);have n1_:=am_ (hbox);have n2_:=am_ ((zg0_ HB hg:w.heap.size≤gb1));have n3_:=am_ ((zg0_ HB hg:w.heap.size≤gb1));clear HB;have HB:=n0_;have BK1:=n1_;have GE1:=n3_;clear n0_ n1_ n2_ n3_;clear hb hbox hg)|((with_reducible refine gate_callee (f:=147) rfl ?_);refine gl_ (some 13) Try.func147 #[.slice A0 l0.length c0, .string a1, .int .i64 a2] ?_;(with_reducible refine (r10_old.calls k _ _ l0 a1 a2 t2 _ ?side1 ?side2 A4.out).mono ?_);(case side1=>exact zc_ (Kd.C_below HR0.out HB.out));(case side2=>exact HC0.out);rintro e w' ⟨rfl,⟨nd,rfl⟩⟩;refine ⟨_,rfl, ?_⟩)|((with_reducible refine gate_callee (f:=50) rfl ?_);refine gl_ (some 20) Try.func50 #[.slice A0 l0.length c0, .string a1] ?_;(with_reducible refine (r10_Find.calls k _ _ l0 a1 t7 _ ?side1 ?side2 A6.out).mono ?_);(case side1=>repeat (first|exact (Kd.C_below HR0.out (zl1_ HB GE1))|(with_reducible refine Kd.C_alloc ?_ _)|(with_reducible refine Kd.C_drewN ?_ _)|(with_reducible refine Kd.C_drew ?_)));(case side2=>exact HC0.out);rintro e w' ⟨rfl,⟨nd,rfl⟩⟩;refine ⟨_,rfl, ?_⟩))
 (try simp only [Act.put,List.setIfInBounds_toArray,List.set_cons_zero,List.set_cons_succ])
 go_cut [34] (fun v34 wc=> ∃(kq:Nat) (x34_6:Bool),v34= .bool x34_6∧Aside0 (r10_Delete.j0 kq l0 t7 x34_6=some (r1,r2))∧Aside0 (kq≤k)∧Aside0 (wc.heap[gb1]?=some (.cells #[(.slice none 0 0), .int .i64 0] 67 (0,0)))∧Aside0 (Below w.heap.size w wc))
 case first=>
  have H:=HC7.out
  clear HC7
  replace H:=Option.bind_eq_some_iff.mp H
  obtain ⟨t8,A90,H⟩:=H
  try dsimp only at H
  have A9:=Aside0.mk A90
  clear A90
  by_cases c10:(t8.length:Int)>0
  ·rw [if_pos c10] at H
   have c10b0:decide (0<(t8.length:Int))=true:=decide_eq_true c10
   have c10b1:decide (0<t8.length)=true:=decide_eq_true (by omega)
   clear c10
   (first|rw [c10b0]|(simp only [i64_w,i32_w];rw [c10b0])|skip)
   have H':=Aside0.mk H
   clear H
   go_wp2_with (first|((with_reducible refine gate_callee (f:=75) rfl ?_);refine gl_ (some 23) Try.func75 #[.slice A0 l0.length c0, .string a1] ?_;(with_reducible refine (r10_Below.calls k _ _ l0 a1 t8 _ ?side1 ?side2 A9.out).mono ?_);(case side1=>exact zc_ (Kd.C_below HR0.out HB.out));(case side2=>exact HC0.out);rintro e w11 ⟨v9,rfl,ho0,hb⟩;refine ⟨_,rfl, ?_⟩;have HO10:=am_ (Kd.R_lower ho0 (below_size (zl1_ HB GE1)));replace BK1:=am_ (blk_below (zb_ BK1) hb);replace HB:=am_ (below_step (zl1_ HB GE1) hb);(try clear hb);(try clear hb2);(try clear hk);(try clear hi);(try clear ho0);obtain ⟨Ao12,co12,eo12⟩:=Kd.R_slice HO10.out;subst eo12))
   go_meet
   case rel=>exact ⟨_,(true),(by first|rfl|(simp;done)|(simp [*];done)),H',⟨by first|omega|exact Nat.le_refl _⟩,⟨by refine zk_ ?_;exact BK1.out⟩,⟨zl1_ HB GE1⟩⟩
  rw [if_neg c10] at H
  have c10b0:decide (0<(t8.length:Int))=false:=decide_eq_false c10
  have c10b1:decide (0<t8.length)=false:=decide_eq_false (by omega)
  clear c10
  (first|rw [c10b0]|(simp only [i64_w,i32_w];rw [c10b0])|skip)
  by_cases c13:0≤t7
  rotate_left
  ·rw [if_neg c13] at H
   exact absurd H (by simp)
  rw [if_pos c13] at H
  have c13b0:decide (0≤t7)=true:=decide_eq_true c13
  clear c13
  by_cases c14:t7<(l0.length:Int)
  rotate_left
  ·rw [if_neg c14] at H
   exact absurd H (by simp)
  rw [if_pos c14] at H
  have c14b0:decide (t7<(l0.length:Int))=true:=decide_eq_true c14
  clear c14
  have H':=Aside0.mk H
  clear H
  go_wp2_with (first|((with_reducible refine gate_callee (f:=75) rfl ?_);refine gl_ (some 23) Try.func75 #[.slice A0 l0.length c0, .string a1] ?_;(with_reducible refine (r10_Below.calls k _ _ l0 a1 t8 _ ?side1 ?side2 A9.out).mono ?_);(case side1=>exact zc_ (Kd.C_below HR0.out HB.out));(case side2=>exact HC0.out);rintro e w15 ⟨v9,rfl,ho0,hb⟩;refine ⟨_,rfl, ?_⟩;have HO10:=am_ (Kd.R_lower ho0 (below_size (zl1_ HB GE1)));replace BK1:=am_ (blk_below (zb_ BK1) hb);replace HB:=am_ (below_step (zl1_ HB GE1) hb);(try clear hb);(try clear hb2);(try clear hk);(try clear hi);(try clear ho0);obtain ⟨Ao16,co16,eo16⟩:=Kd.R_slice HO10.out;subst eo16;have p11:0≤(t7:Int):=of_decide_eq_true zq_;have q11:t7<(l0.length:Int):=of_decide_eq_true zq_;obtain ⟨ad11,e11,hx11_0,hx11_1,hx11_2,hx11_3,hx11_4,hx11_5,hx11_6,hx11_7,hx11_8,hx11_9,hx11_10,hx11_11⟩:=at_T31 HR0.out t7 p11 q11;cases e11;replace hx11_0:=zx_ HB hx11_0;replace hx11_1:=zx_ HB hx11_1;replace hx11_2:=zx_ HB hx11_2;replace hx11_3:=zx_ HB hx11_3;replace hx11_4:=zx_ HB hx11_4;replace hx11_5:=zx_ HB hx11_5;replace hx11_6:=zx_ HB hx11_6;replace hx11_7:=zx_ HB hx11_7;replace hx11_8:=zx_ HB hx11_8;replace hx11_9:=zx_ HB hx11_9;replace hx11_10:=zx_ HB hx11_10;replace hx11_11:=zx_ HB hx11_11;replace p11:=eq_true p11;replace q11:=eq_true q11))
  go_meet
  case rel=>exact ⟨_,((!(((rd_T31 l0 t7).f3.f0)==0)||(!(((rd_T31 l0 t7).f3.f1)==0)||(!(((rd_T31 l0 t7).f3.f2)==0))))),(by first|rfl|(simp;done)|(simp [*];done)),H',⟨by first|omega|exact Nat.le_refl _⟩,⟨by refine zk_ ?_;exact BK1.out⟩,⟨zl1_ HB GE1⟩⟩
 case rest=>
  clear HC7
  try clear c1
  try clear p1
  try clear q1
  try clear hx1
  try clear p2
  try clear c5
  try clear c5b1
  try clear c7
  try clear c9
  try clear c10
  try clear c10b0
  try clear c10b1
  try clear p11
  try clear q11
  try clear hx11
  try clear c13
  try clear c13b0
  try clear c14
  try clear c14b0
  try clear hx11_0
  try clear hx11_1
  try clear hx11_10
  try clear hx11_11
  try clear hx11_2
  try clear hx11_3
  try clear hx11_4
  try clear hx11_5
  try clear hx11_6
  try clear hx11_7
  try clear hx11_8
  try clear hx11_9
  try clear p11
  try clear q11
  obtain ⟨kq,x34_6,rfl,HA,HJ6,BK1,HB⟩:=hcut
  cases kq with
  |zero=>exact absurd HA.out (by simp [r10_Delete.j0])
  |succ kj6=>
   have H:=HA.out
   clear HA
   simp only [r10_Delete.j0] at H
   by_cases c17:x34_6=true
   ·subst c17
    have H1:((r10_no.f 13).bind fun bt12=>(some (bt12.1,bt12.2)))=some (r1,r2):=by rw [if_pos rfl] at H;exact H
    clear H
    have H:=H1
    clear H1
    replace H:=Option.bind_eq_some_iff.mp H
    obtain ⟨⟨t12,t15⟩,A180,H⟩:=H
    try dsimp only at H
    have A18:=Aside0.mk A180
    clear A180
    simp only [Option.some.injEq,Prod.mk.injEq] at H
    obtain ⟨rfl,rfl⟩:=H
    go_wp2_with (first|((with_reducible refine gate_callee (f:=113) rfl ?_);refine gl_ (some 35) Try.func113 #[.int .i64 13] ?_;(with_reducible refine (r10_no.calls 13 t12 t15 _ A18.out).mono ?_);rintro e w19 ⟨v13,rfl,ho0,hb⟩;refine ⟨_,rfl, ?_⟩;have HO14:=am_ (Kd.R_lower ho0 (below_size (zl1_ HB GE1)));replace BK1:=am_ (blk_below (zb_ BK1) hb);replace HB:=am_ (below_step (zl1_ HB GE1) hb);(try clear hb);(try clear hb2);(try clear hk);(try clear hi);(try clear ho0);obtain ⟨Ao20,co20,eo20⟩:=Kd.R_slice HO14.out;subst eo20;obtain ⟨hcz21_0,hcz21_1⟩:=x2_ BK1;have hfz21_0:=blk_frozen BK1.out 0;have hfz21_1:=blk_frozen BK1.out 1))
    refine bodyPost_ret (results_cell_row rfl _ _ gb1 67 #[.slice Ao20 t12.length co20, .int .i64 t15] (0,0) _ rfl (zw_ BK1) Try.underlying67 rfl (by kernel_rfl)) rfl ?_
    exact ⟨_,by first|rfl|(simp [errW_none,errW_some]<;>rfl)|(simp [*,errW_none,errW_some]<;>rfl),zy_ HO14 BK1,zl1_ HB GE1⟩
   replace c17:=Bool.eq_false_iff.mpr c17
   subst c17
   have H1:(if 0≤t7 then (if t7≤(l0.length:Int) then ((r10_copied.f (l0.take (t7:Int).toNat)).bind fun t20=>(if 0≤(wrap64 (t7+1)) then (if (wrap64 (t7+1))≤(l0.length:Int) then ((some (l0.drop ((wrap64 (t7+1)):Int).toNat:List (S31))).bind fun y23=>(if t20.length+y23.length<1256584717458 then (some ((t20++y23),0)) else (none))) else (none)) else (none))) else (none)) else (none))=some (r1,r2):=by rw [if_neg (show¬(false=true) by decide)] at H;exact H
   clear H
   have H:=H1
   clear H1
   by_cases c22:0≤t7
   rotate_left
   ·rw [if_neg c22] at H
    exact absurd H (by simp)
   rw [if_pos c22] at H
   have c22b1:decide (0≤t7)=true:=decide_eq_true c22
   clear c22
   by_cases c23:t7≤(l0.length:Int)
   rotate_left
   ·rw [if_neg c23] at H
    exact absurd H (by simp)
   rw [if_pos c23] at H
   have c23b1:decide (t7≤(l0.length:Int))=true:=decide_eq_true c23
   clear c23
   obtain ⟨y16,hy16⟩: ∃y_:List (S31),y_=(l0.take (t7:Int).toNat):=⟨_,rfl⟩
   replace H:((r10_copied.f y16).bind fun t20=>(if 0≤(wrap64 (t7+1)) then (if (wrap64 (t7+1))≤(l0.length:Int) then ((some (l0.drop ((wrap64 (t7+1)):Int).toNat:List (S31))).bind fun y23=>(if t20.length+y23.length<1256584717458 then (some ((t20++y23),0)) else (none))) else (none)) else (none)))=some (r1,r2):=by first|(rw [hy16];with_reducible exact H)|(have H2_:=(Option.bind_some _ _).symm.trans H;rw [hy16];with_reducible exact H2_)|(have H2_:=(Option.bind_some _ _).symm.trans H;with_reducible exact H2_)|with_reducible exact H|(rw [hy16];exact H)|exact H
   have Ny16:=Aside0.mk hy16
   clear hy16
   replace H:=Option.bind_eq_some_iff.mp H
   obtain ⟨t20,A240,H⟩:=H
   try dsimp only at H
   have A24:=Aside0.mk A240
   clear A240
   obtain ⟨ji25,hji25⟩: ∃j_:Int,(wrap64 (t7+1))=j_:=⟨_,rfl⟩
   replace H:(if 0≤(ji25) then (if (ji25)≤(l0.length:Int) then ((some (l0.drop ((ji25):Int).toNat:List (S31))).bind fun y23=>(if t20.length+y23.length<1256584717458 then (some ((t20++y23),0)) else (none))) else (none)) else (none))=some (r1,r2):=by first|(rw [hji25] at H;exact H)|(simp only [hji25] at H ⊢;exact H)
   (try rw [hji25] at A24)
   have hji25w:(IntKind.i64.wrap (t7+1))=ji25:=(i64_w _).trans hji25
   by_cases c26:0≤(ji25)
   rotate_left
   ·rw [if_neg c26] at H
    exact absurd H (by simp)
   rw [if_pos c26] at H
   have c26b1:decide (0≤(ji25))=true:=decide_eq_true c26
   clear c26
   by_cases c27:(ji25)≤(l0.length:Int)
   rotate_left
   ·rw [if_neg c27] at H
    exact absurd H (by simp)
   rw [if_pos c27] at H
   have c27b1:decide ((ji25)≤(l0.length:Int))=true:=decide_eq_true c27
   clear c27
   obtain ⟨y23,hy23⟩: ∃y_:List (S31),y_=(l0.drop ((ji25):Int).toNat):=⟨_,rfl⟩
   replace H:(if t20.length+y23.length<1256584717458 then (some ((t20++y23),0)) else (none))=some (r1,r2):=by first|(rw [hy23];with_reducible exact H)|(have H2_:=(Option.bind_some _ _).symm.trans H;rw [hy23];with_reducible exact H2_)|(have H2_:=(Option.bind_some _ _).symm.trans H;with_reducible exact H2_)|with_reducible exact H|(rw [hy23];exact H)|exact H
   have Ny23:=Aside0.mk hy23
   clear hy23
   by_cases c28:t20.length+y23.length<1256584717458
   rotate_left
   ·rw [if_neg c28] at H
    exact absurd H (by simp)
   rw [if_pos c28] at H
   have LMc28:=Aside0.mk c28
   clear c28
   obtain ⟨y27,hy27⟩: ∃y_:List (S31),y_=(t20++y23):=⟨_,rfl⟩
   replace H:(some (y27,0))=some (r1,r2):=by first|(rw [hy27];with_reducible exact H)|(have H2_:=(Option.bind_some _ _).symm.trans H;rw [hy27];with_reducible exact H2_)|(have H2_:=(Option.bind_some _ _).symm.trans H;with_reducible exact H2_)|with_reducible exact H|(rw [hy27];exact H)|exact H
   have Ny27:=Aside0.mk hy27
   clear hy27
   simp only [Option.some.injEq,Prod.mk.injEq] at H
   obtain ⟨rfl,rfl⟩:=H
   have q29:(t7:Int)≤((l0.length:Int):Int):=of_decide_eq_true zq_
   obtain ⟨i029,hi029,_,hsz29,_⟩:=info_parts info31
   have hroom29:l0.length≤c0:=HC0.out
   have hC29:Kd.C k31 _ A0 l0.length l0:=HR0.out
   have hcut29:=cut_to (P:=Try.prog) 24 31 .i64 Try.underlying24 hi029 A0 l0.length c0 t7 (of_decide_eq_true zq_) q29 hroom29
   have hr29:=Kd.C_take (m:=(t7:Int).toNat) hC29 (by omega)
   have hy29:y16.length=(t7:Int).toNat:=(by rw [Ny16.out,List.length_take];omega)
   rw [←Ny16.out] at hr29
   rw [←hy29] at hcut29
   have HR19:=Aside0.mk hr29
   have HC19:=am_ (show y16.length≤c0 from by omega)
   clear hr29 hC29 hroom29 hi029 hsz29
   clear hy29
   replace q29:=eq_true q29
   go_wp2_with (first|((with_reducible refine gate_callee (f:=124) rfl ?_);refine gl_ (some 39) Try.func124 #[.slice A0 y16.length c0] ?_;(with_reducible refine (r10_copied.calls _ _ y16 t20 _ ?side1 ?side2 A24.out).mono ?_);(case side1=>exact zc_ (Kd.C_below HR19.out HB.out));(case side2=>exact HC19.out);rintro e w30 ⟨v21,rfl,ho0,hb⟩;refine ⟨_,rfl, ?_⟩;have HO22:=am_ (Kd.R_lower ho0 (below_size (zl1_ HB GE1)));replace BK1:=am_ (blk_below (zb_ BK1) hb);replace HB:=am_ (below_step (zl1_ HB GE1) hb);(try clear hb);(try clear hb2);(try clear hk);(try clear hi);(try clear ho0);have q31:((ji25):Int)≤((l0.length:Int):Int):=of_decide_eq_true zq_;obtain ⟨i031,hi031,_,hsz31,_⟩:=info_parts info31;have hroom31:l0.length≤c0:=HC0.out;have hC31:Kd.C k31 _ A0 l0.length l0:=HR0.out;have q031:(0:Int)≤((ji25):Int):=of_decide_eq_true zq_;have hcut31:=cut_from (P:=Try.prog) 24 31 .i64 Try.underlying24 hi031 12 hsz31 A0 l0.length c0 (ji25) q031 q31;have hr31:=Kd.C_drop (m:=((ji25):Int).toNat) (c:=c0) hC31 (by omega) hroom31;obtain ⟨A31,hA31⟩: ∃A1,A1=(if c0=((ji25):Int).toNat then A0 else (A0:Option Addr).map (·.add (((ji25):Int).toNat*12))):=⟨_,rfl⟩;obtain ⟨c31,hc31⟩: ∃c1,c1=c0 - ((ji25):Int).toNat:=⟨_,rfl⟩;have hy31:y23.length=l0.length - ((ji25):Int).toNat:=(by rw [Ny23.out,List.length_drop]<;>omega);rw [show (l0).drop ((ji25):Int).toNat=y23 from Ny23.out.symm] at hr31;replace hr31:Kd.C k31 _ A31 y23.length y23:=(by rw [hA31];exact hr31);rw [←hy31,←hA31,←hc31] at hcut31;have HR26:=Aside0.mk hr31;clear hr31 hC31 hroom31 hi031 hsz31 hc31;clear hy31 hA31;replace q31:=eq_true q31)|((with_reducible refine gate_builtin (b:= .append) (xs:=#[.tmp 40, .tmp 44]) rfl ?_);at_builtin;refine Kd.R_append_rows k31 (w0:=w) w.heap.size rfl (.tmp 40) (.tmp 44) 24 31 (.agg #[(.string ⟨#[]⟩),(.string ⟨#[]⟩),(.int .i64 0),(.int .i64 0),(.int .i64 0),(.int .i64 0),(.int .i64 0),(.int .i64 0),(.int .i64 0),(.int .i64 0),(.int .i64 0),(.int .i64 0)]) 112 rfl Try.underlying24 info31 rfl (by decide) (by omega) v21 t20 y23 _ _ _ (fun _=>True) (fun _=>False) rfl rfl ?aO ?aR (fun _ _ h=>h) (fun _ h=>h.elim) ?aF ?aB ?aS ?aL ?_;(case aR=>repeat (first|exact (Kd.C_below HR26.out HB.out)|(with_reducible refine Kd.C_alloc ?_ _)|(with_reducible refine Kd.C_drewN ?_ _)|(with_reducible refine Kd.C_drew ?_)));(case aB=>exact (zl1_ HB GE1));(case aF=>exact (fun _ _=>trivial));(case aO=>exact (zr_ HO22));(case aS=>exact (below_size (zl1_ HB GE1)));(case aL=>have:=LMc28.out;omega);intro v28 w32 ho hb hg hat;rw [←Ny27.out] at ho;have n0_:=am_ (blk_grown (zb_ BK1) hg (Kd.R_ne HO22.out BK1.out (by decide)));have n1_:=am_ (hb);have n2_:=am_ (ho);clear BK1;clear HB;clear HO22;have BK1:=n0_;have HB:=n1_;have HO29:=n2_;clear n0_ n1_ n2_;clear ho hb hg hat;obtain ⟨Ao33,co33,eo33⟩:=Kd.R_slice HO29.out;subst eo33;obtain ⟨hcz34_0,hcz34_1⟩:=x2_ BK1;have hfz34_0:=blk_frozen BK1.out 0;have hfz34_1:=blk_frozen BK1.out 1))
   refine bodyPost_ret (results_cell_row rfl _ _ gb1 67 #[.slice Ao33 y27.length co33, .int .i64 0] (0,0) _ rfl (zw_ BK1) Try.underlying67 rfl (by kernel_rfl)) rfl ?_
   exact ⟨_,by first|rfl|(simp [errW_none,errW_some]<;>rfl)|(simp only [←hji25];first|rfl|(simp [errW_none,errW_some]<;>rfl))|(simp [*,errW_none,errW_some]<;>rfl),zy_ HO29 BK1,zl1_ HB GE1⟩
def r10_Admit.l0:Nat→ByteArray→List ByteArray→List (S31)→Int→Int→Int→Int→Option ((List (S31))×Int)
 |0,_,_,_,_,_,_,_=>none
 |k+1,x1,x7,x8,x9,x2000,x2001,x2002=>if x9<(x7.length:Int) then (if 0≤x9 then ((r10_Find.f k x8 (rdOf ByteArray.empty x7 x9)).bind fun t25=>(if 0≤t25 then (if t25<(x8.length:Int) then ((r10_Add.f ((rd_T31 x8 t25).f4.f0) ((rd_T31 x8 t25).f4.f1) ((rd_T31 x8 t25).f4.f2) x2000 x2001 x2002).bind fun bt27=>((some (x8.set (t25:Int).toNat (⟨(rd_T31 x8 t25).f0,(rd_T31 x8 t25).f1,(⟨(rd_T31 x8 t25).f2.f0,(rd_T31 x8 t25).f2.f1,(rd_T31 x8 t25).f2.f2⟩:S27),(⟨(rd_T31 x8 t25).f3.f0,(rd_T31 x8 t25).f3.f1,(rd_T31 x8 t25).f3.f2⟩:S27),(⟨bt27.1,bt27.2.1,bt27.2.2⟩:S27),(rd_T31 x8 t25).f5⟩:S31):List (S31))).bind fun y30=>((r10_Le.f ((rd_T31 y30 t25).f4.f0) ((rd_T31 y30 t25).f4.f1) ((rd_T31 y30 t25).f4.f2) ((rd_T31 y30 t25).f2.f0) ((rd_T31 y30 t25).f2.f1) ((rd_T31 y30 t25).f2.f2)).bind fun t33=>(if t33=true then (r10_Admit.l0 k x1 x7 y30 (wrap64 (x9+1)) x2000 x2001 x2002) else ((r10_no.f 12).bind fun bt34=>(some (bt34.1,bt34.2))))))) else (none)) else (none))) else (none)) else ((r10_Find.f k x8 x1).bind fun t18=>(if 0≤t18 then (if t18<(x8.length:Int) then ((r10_Add.f ((rd_T31 x8 t18).f3.f0) ((rd_T31 x8 t18).f3.f1) ((rd_T31 x8 t18).f3.f2) x2000 x2001 x2002).bind fun bt20=>(some ((x8.set (t18:Int).toNat (⟨(rd_T31 x8 t18).f0,(rd_T31 x8 t18).f1,(⟨(rd_T31 x8 t18).f2.f0,(rd_T31 x8 t18).f2.f1,(rd_T31 x8 t18).f2.f2⟩:S27),(⟨bt20.1,bt20.2.1,bt20.2.2⟩:S27),(⟨(rd_T31 x8 t18).f4.f0,(rd_T31 x8 t18).f4.f1,(rd_T31 x8 t18).f4.f2⟩:S27),(rd_T31 x8 t18).f5⟩:S31)),0))) else (none)) else (none)))
def r10_Admit.f (k:Nat) (l0:List (S31)) (a1:ByteArray) (a2_0:Int) (a2_1:Int) (a2_2:Int):Option ((List (S31))×Int):=(r10_Up.f k l0 a1).bind fun t3=>((r10_MayVec.f a2_0 a2_1 a2_2).bind fun t6=>(if t6=true then (if (t3.length:Int)=0 then ((r10_no.f 2).bind fun bt11=>(some (bt11.1,bt11.2))) else ((r10_copied.f l0).bind fun t15=>(r10_Admit.l0 k a1 t3 t15 0 a2_0 a2_1 a2_2))) else ((r10_no.f 1).bind fun bt7=>(some (bt7.1,bt7.2)))))
theorem r10_Admit.mono_l: ∀k,(∀y0 y1 y2 y3 y4 y5 y6,LeO (r10_Admit.l0 k y0 y1 y2 y3 y4 y5 y6) (r10_Admit.l0 (k+1) y0 y1 y2 y3 y4 y5 y6))
 |0=>fun _ _ _ _ _ _ _ r h=>by simp [r10_Admit.l0] at h
 |k+1=>by
  have ih0:=r10_Admit.mono_l k
  intro y0 y1 y2 y3 y4 y5 y6
  unfold r10_Admit.l0
  repeat' first
  |(with_reducible exact ih0 _ _ _ _ _ _ _)
  |(with_reducible exact r10_Find.mono _ _ _)
  |(with_reducible exact r10_Up.mono _ _ _)
  |(with_reducible exact LeO.refl _)
  |(with_reducible exact LeO.none _)
  |(with_reducible refine LeO.ite ?_ ?_)
  |(with_reducible refine LeO.bind ?_ (fun _=> ?_))
  |exact ih0 _ _ _ _ _ _ _
  |exact r10_Find.mono _ _ _
  |exact r10_Up.mono _ _ _
  |exact LeO.none _
  |refine LeO.ite ?_ ?_
  |refine LeO.bind ?_ (fun _=> ?_)
theorem r10_Admit.mono: ∀a0 a1 a2 a3 a4 k,LeO (r10_Admit.f k a0 a1 a2 a3 a4) (r10_Admit.f (k+1) a0 a1 a2 a3 a4):=by
 intro a0 a1 a2 a3 a4 k
 have ih0:=r10_Admit.mono_l k
 unfold r10_Admit.f
 repeat' first
  |(with_reducible exact ih0 _ _ _ _ _ _ _)
  |(with_reducible exact r10_Find.mono _ _ _)
  |(with_reducible exact r10_Up.mono _ _ _)
  |(with_reducible exact LeO.refl _)
  |(with_reducible exact LeO.none _)
  |(with_reducible refine LeO.ite ?_ ?_)
  |(with_reducible refine LeO.bind ?_ (fun _=> ?_))
  |exact ih0 _ _ _ _ _ _ _
  |exact r10_Find.mono _ _ _
  |exact r10_Up.mono _ _ _
  |exact LeO.none _
  |refine LeO.ite ?_ ?_
  |refine LeO.bind ?_ (fun _=> ?_)
def r10_Admit.T11:Bool×List (List Nat×List Nat):=(true,[([],[]),([],[]),([],[]),([],[]),([2,3],[2,3]),([4],[4]),([5],[5]),([],[]),([6,7],[6,7]),([0,1,0,1,2,3,4,5,6,7,8],[0,1]),([9,0,1,2,3,4,5,6,7,8],[9]),([10,8,8,0,1,2,3,4,5,6,7,8],[8,10])])
def r10_Admit.B11:List Nat:=[0,0,0,0,12,28,60,0,252,511,1023,2047]
theorem r10_Admit.tab11:rtab .any (opsOf Try.f66 11)=r10_Admit.T11:=by kernel_rfl
theorem r10_Admit.bits11:waitsOk r10_Admit.T11.2 r10_Admit.B11=true:=by kernel_rfl
def r10_Admit.T12:Bool×List (List Nat×List Nat):=(true,[([],[]),([],[]),([0,1],[0,1]),([2],[2]),([3],[3]),([],[]),([],[]),([5,6],[5,6]),([7],[7]),([8],[8]),([4,9],[4,9]),([10],[10])])
def r10_Admit.B12:List Nat:=[0,0,3,7,15,0,0,96,224,480,1023,2047]
theorem r10_Admit.tab12:rtab .any (opsOf Try.f66 12)=r10_Admit.T12:=by kernel_rfl
theorem r10_Admit.bits12:waitsOk r10_Admit.T12.2 r10_Admit.B12=true:=by kernel_rfl
def r10_Admit.T15:Bool×List (List Nat×List Nat):=(true,[([],[]),([],[]),([],[]),([],[]),([2,3],[2,3]),([4],[4]),([5],[5]),([],[]),([6,7],[6,7]),([0,1,0,1,2,3,4,5,6,7,8],[0,1]),([9,0,1,2,3,4,5,6,7,8],[9]),([10,8,8,0,1,2,3,4,5,6,7,8],[8,10])])
def r10_Admit.B15:List Nat:=[0,0,0,0,12,28,60,0,252,511,1023,2047]
theorem r10_Admit.tab15:rtab .any (opsOf Try.f66 15)=r10_Admit.T15:=by kernel_rfl
theorem r10_Admit.bits15:waitsOk r10_Admit.T15.2 r10_Admit.B15=true:=by kernel_rfl
set_option maxHeartbeats 8000000 in
set_option maxRecDepth 100000 in
theorem r10_Admit.calls (k:Nat) (A0:Option Addr) (c0:Nat) (l0:List (S31)) (a1:ByteArray) (a2_0:Int) (a2_1:Int) (a2_2:Int) (r1:List (S31)) (r2:Int) (w:World) (hr0:Kd.C k31 w A0 l0.length l0) (hc0:l0.length≤c0) (h:r10_Admit.f k l0 a1 a2_0 a2_1 a2_2=some (r1,r2)):
  Calls Try.prog 66 #[.slice A0 l0.length c0, .string a1, .agg #[.int .i64 a2_0, .int .i64 a2_1, .int .i64 a2_2]] w fun e w'=> ∃v0_:Value,e= .returned (.agg #[v0_, .int .i64 r2])∧Kd.R k31 31 w' w.heap.size (fun _=>True) v0_ r1∧Below w.heap.size w w':=by
 have HR0:=Aside0.mk hr0
 have HC0:=Aside0.mk hc0
 clear hr0 hc0
 have HB:=am_ (Below.refl w.heap.size w)
 have H:((r10_Up.f k l0 a1).bind fun t3=>((r10_MayVec.f a2_0 a2_1 a2_2).bind fun t6=>(if t6=true then (if (t3.length:Int)=0 then ((r10_no.f 2).bind fun bt11=>(some (bt11.1,bt11.2))) else ((r10_copied.f l0).bind fun t15=>(r10_Admit.l0 k a1 t3 t15 0 a2_0 a2_1 a2_2))) else ((r10_no.f 1).bind fun bt7=>(some (bt7.1,bt7.2))))))=some (r1,r2):=h
 clear h
 replace H:=Option.bind_eq_some_iff.mp H
 obtain ⟨t3,A40,H⟩:=H
 try dsimp only at H
 have A4:=Aside0.mk A40
 clear A40
 replace H:=Option.bind_eq_some_iff.mp H
 obtain ⟨t6,A50,H⟩:=H
 try dsimp only at H
 have A5:=Aside0.mk A50
 clear A50
 by_cases c6:t6=true
 rotate_left
 ·replace c6:=Bool.eq_false_iff.mpr c6
  subst c6
  have H1:((r10_no.f 1).bind fun bt7=>(some (bt7.1,bt7.2)))=some (r1,r2):=by rw [if_neg (show¬(false=true) by decide)] at H;exact H
  clear H
  have H:=H1
  clear H1
  replace H:=Option.bind_eq_some_iff.mp H
  obtain ⟨⟨t7,t10⟩,A680,H⟩:=H
  try dsimp only at H
  have A68:=Aside0.mk A680
  clear A680
  simp only [Option.some.injEq,Prod.mk.injEq] at H
  obtain ⟨rfl,rfl⟩:=H
  go_enter Try.func66,Try.ntmps66
  go_wp2_with (first|((with_reducible refine gate_dst (N:=5) rfl ?_);refine bx_ (N:=5) (cs:=#[.int .i64 a2_0, .int .i64 a2_1, .int .i64 a2_2]) (t:=27) ?_;intro gb1 hg w69 hbox hb;have n0_:=am_ (below_step (zl0_ HB) hb);have n1_:=am_ (hbox);have n2_:=am_ ((zg0_ HB hg:w.heap.size≤gb1));have n3_:=am_ ((zg0_ HB hg:w.heap.size≤gb1));clear HB;have HB:=n0_;have BK1:=n1_;have GE1:=n3_;clear n0_ n1_ n2_ n3_;clear hb hbox hg)|((with_reducible refine gate_dst (N:=6) rfl ?_);refine bx_ (N:=6) (cs:=#[.slice none 0 0, .int .i64 0]) (t:=67) ?_;intro gb2 hg w70 hbox hb;have n0_:=am_ (blk_below (zb_ BK1) hb);have n1_:=am_ (below_step (zl1_ HB GE1) hb);have n2_:=am_ (hbox);have n3_:=am_ ((zg1_ HB GE1 hg:w.heap.size≤gb2));have n4_:=am_ ((zg1_ HB GE1 hg:w.heap.size≤gb2));have n5_:=am_ ((zn_ BK1 hg:gb1≠gb2));have n6_:=am_ ((zm_ BK1 hg:gb2≠gb1));clear BK1;clear HB;have BK1:=n0_;have HB:=n1_;have BK2:=n2_;have GE2:=n4_;clear n0_ n1_ n2_ n3_ n4_ n5_ n6_;clear hb hbox hg)|((with_reducible refine gate_callee (f:=106) rfl ?_);refine gl_ (some 14) Try.func106 #[.slice A0 l0.length c0, .string a1] ?_;(with_reducible refine (r10_Up.calls k _ _ l0 a1 t3 _ ?side1 ?side2 A4.out).mono ?_);(case side1=>exact zc_ (Kd.C_below HR0.out HB.out));(case side2=>exact HC0.out);rintro e w71 ⟨v4,rfl,ho0,hb⟩;refine ⟨_,rfl, ?_⟩;have HO5:=am_ (Kd.R_lower ho0 (below_size (zl2_ HB GE1 GE2)));replace BK1:=am_ (blk_below (zb_ BK1) hb);replace BK2:=am_ (blk_below (zb_ BK2) hb);replace HB:=am_ (below_step (zl2_ HB GE1 GE2) hb);(try clear hb);(try clear hb2);(try clear hk);(try clear hi);(try clear ho0);obtain ⟨hcz73_0,hcz73_1,hcz73_2⟩:=x3_ BK1)|((with_reducible refine gate_callee (f:=65) rfl ?_);refine gl_ (some 16) Try.func65 #[.agg #[.int .i64 a2_0, .int .i64 a2_1, .int .i64 a2_2]] ?_;(with_reducible refine (r10_MayVec.calls a2_0 a2_1 a2_2 false _ A5.out).mono ?_);rintro e w74 ⟨rfl,hb⟩;refine ⟨_,rfl, ?_⟩;replace HO5:=am_ (Kd.R_below (zr_ HO5) hb);replace BK1:=am_ (blk_below (zb_ BK1) hb);replace BK2:=am_ (blk_below (zb_ BK2) hb);replace HB:=am_ (below_step (zl2_ HB GE1 GE2) hb);(try clear hb);(try clear hb2);(try clear hk);(try clear hi))|((with_reducible refine gate_callee (f:=113) rfl ?_);refine gl_ (some 18) Try.func113 #[.int .i64 1] ?_;(with_reducible refine (r10_no.calls 1 t7 t10 _ A68.out).mono ?_);rintro e w75 ⟨v8,rfl,ho0,hb⟩;refine ⟨_,rfl, ?_⟩;replace HO5:=am_ (Kd.R_below (zr_ HO5) hb);have HO9:=am_ (Kd.R_lower ho0 (below_size (zl2_ HB GE1 GE2)));replace BK1:=am_ (blk_below (zb_ BK1) hb);replace BK2:=am_ (blk_below (zb_ BK2) hb);replace HB:=am_ (below_step (zl2_ HB GE1 GE2) hb);(try clear hb);(try clear hb2);(try clear hk);(try clear hi);(try clear ho0);obtain ⟨Ao76,co76,eo76⟩:=Kd.R_slice HO9.out;subst eo76;obtain ⟨hcz77_0,hcz77_1⟩:=x2_ BK2;have hfz77_0:=blk_frozen BK2.out 0;have hfz77_1:=blk_frozen BK2.out 1))
  refine bodyPost_ret (results_cell_row rfl _ _ gb2 67 #[.slice Ao76 t7.length co76, .int .i64 t10] (0,0) _ rfl (zw_ BK2) Try.underlying67 rfl (by kernel_rfl)) rfl ?_
  exact ⟨_,by first|rfl|(simp [errW_none,errW_some]<;>rfl)|(simp [*,errW_none,errW_some]<;>rfl),zy_ HO9 BK2,zl2_ HB GE1 GE2⟩

 subst c6
 have H1:(if (t3.length:Int)=0 then ((r10_no.f 2).bind fun bt11=>(some (bt11.1,bt11.2))) else ((r10_copied.f l0).bind fun t15=>(r10_Admit.l0 k a1 t3 t15 0 a2_0 a2_1 a2_2)))=some (r1,r2):=by rw [if_pos rfl] at H;exact H
 clear H
 have H:=H1
 clear H1
 by_cases c7:(t3.length:Int)=0
 ·rw [if_pos c7] at H
  have c7b0:((t3.length:Int)==0)=true:=beq_iff_eq.mpr c7
  clear c7
  replace H:=Option.bind_eq_some_iff.mp H
  obtain ⟨⟨t11,t14⟩,A80,H⟩:=H
  try dsimp only at H
  have A8:=Aside0.mk A80
  clear A80
  simp only [Option.some.injEq,Prod.mk.injEq] at H
  obtain ⟨rfl,rfl⟩:=H
  go_enter Try.func66,Try.ntmps66
  go_wp2_with (first|((with_reducible refine gate_dst (N:=5) rfl ?_);refine bx_ (N:=5) (cs:=#[.int .i64 a2_0, .int .i64 a2_1, .int .i64 a2_2]) (t:=27) ?_;intro gb1 hg w9 hbox hb;have n0_:=am_ (below_step (zl0_ HB) hb);have n1_:=am_ (hbox);have n2_:=am_ ((zg0_ HB hg:w.heap.size≤gb1));have n3_:=am_ ((zg0_ HB hg:w.heap.size≤gb1));clear HB;have HB:=n0_;have BK1:=n1_;have GE1:=n3_;clear n0_ n1_ n2_ n3_;clear hb hbox hg)|((with_reducible refine gate_dst (N:=6) rfl ?_);refine bx_ (N:=6) (cs:=#[.slice none 0 0, .int .i64 0]) (t:=67) ?_;intro gb2 hg w10 hbox hb;have n0_:=am_ (blk_below (zb_ BK1) hb);have n1_:=am_ (below_step (zl1_ HB GE1) hb);have n2_:=am_ (hbox);have n3_:=am_ ((zg1_ HB GE1 hg:w.heap.size≤gb2));have n4_:=am_ ((zg1_ HB GE1 hg:w.heap.size≤gb2));have n5_:=am_ ((zn_ BK1 hg:gb1≠gb2));have n6_:=am_ ((zm_ BK1 hg:gb2≠gb1));clear BK1;clear HB;have BK1:=n0_;have HB:=n1_;have BK2:=n2_;have GE2:=n4_;clear n0_ n1_ n2_ n3_ n4_ n5_ n6_;clear hb hbox hg)|((with_reducible refine gate_callee (f:=106) rfl ?_);refine gl_ (some 14) Try.func106 #[.slice A0 l0.length c0, .string a1] ?_;(with_reducible refine (r10_Up.calls k _ _ l0 a1 t3 _ ?side1 ?side2 A4.out).mono ?_);(case side1=>exact zc_ (Kd.C_below HR0.out HB.out));(case side2=>exact HC0.out);rintro e w11 ⟨v4,rfl,ho0,hb⟩;refine ⟨_,rfl, ?_⟩;have HO5:=am_ (Kd.R_lower ho0 (below_size (zl2_ HB GE1 GE2)));replace BK1:=am_ (blk_below (zb_ BK1) hb);replace BK2:=am_ (blk_below (zb_ BK2) hb);replace HB:=am_ (below_step (zl2_ HB GE1 GE2) hb);(try clear hb);(try clear hb2);(try clear hk);(try clear hi);(try clear ho0);obtain ⟨hcz13_0,hcz13_1,hcz13_2⟩:=x3_ BK1)|((with_reducible refine gate_callee (f:=65) rfl ?_);refine gl_ (some 16) Try.func65 #[.agg #[.int .i64 a2_0, .int .i64 a2_1, .int .i64 a2_2]] ?_;(with_reducible refine (r10_MayVec.calls a2_0 a2_1 a2_2 true _ A5.out).mono ?_);rintro e w14 ⟨rfl,hb⟩;refine ⟨_,rfl, ?_⟩;replace HO5:=am_ (Kd.R_below (zr_ HO5) hb);replace BK1:=am_ (blk_below (zb_ BK1) hb);replace BK2:=am_ (blk_below (zb_ BK2) hb);replace HB:=am_ (below_step (zl2_ HB GE1 GE2) hb);(try clear hb);(try clear hb2);(try clear hk);(try clear hi);obtain ⟨Ao15,co15,eo15⟩:=Kd.R_slice HO5.out;subst eo15)|((with_reducible refine gate_callee (f:=113) rfl ?_);refine gl_ (some 22) Try.func113 #[.int .i64 2] ?_;(with_reducible refine (r10_no.calls 2 t11 t14 _ A8.out).mono ?_);rintro e w16 ⟨v12,rfl,ho0,hb⟩;refine ⟨_,rfl, ?_⟩;replace HO5:=am_ (Kd.R_below (zr_ HO5) hb);have HO13:=am_ (Kd.R_lower ho0 (below_size (zl2_ HB GE1 GE2)));replace BK1:=am_ (blk_below (zb_ BK1) hb);replace BK2:=am_ (blk_below (zb_ BK2) hb);replace HB:=am_ (below_step (zl2_ HB GE1 GE2) hb);(try clear hb);(try clear hb2);(try clear hk);(try clear hi);(try clear ho0);obtain ⟨Ao17,co17,eo17⟩:=Kd.R_slice HO13.out;subst eo17;obtain ⟨hcz18_0,hcz18_1⟩:=x2_ BK2;have hfz18_0:=blk_frozen BK2.out 0;have hfz18_1:=blk_frozen BK2.out 1))
  refine bodyPost_ret (results_cell_row rfl _ _ gb2 67 #[.slice Ao17 t11.length co17, .int .i64 t14] (0,0) _ rfl (zw_ BK2) Try.underlying67 rfl (by kernel_rfl)) rfl ?_
  exact ⟨_,by first|rfl|(simp [errW_none,errW_some]<;>rfl)|(simp [*,errW_none,errW_some]<;>rfl),zy_ HO13 BK2,zl2_ HB GE1 GE2⟩
 rw [if_neg c7] at H
 have c7b0:((t3.length:Int)==0)=false:=beq_eq_false_iff_ne.mpr c7
 replace H:=Option.bind_eq_some_iff.mp H
 obtain ⟨t15,A190,H⟩:=H
 try dsimp only at H
 have A19:=Aside0.mk A190
 clear A190
 have H':=Aside0.mk H
 clear H
 go_enter Try.func66,Try.ntmps66
 go_wp2_with (first|((with_reducible refine gate_dst (N:=5) rfl ?_);refine bx_ (N:=5) (cs:=#[.int .i64 a2_0, .int .i64 a2_1, .int .i64 a2_2]) (t:=27) ?_;intro gb1 hg w20 hbox hb;have n0_:=am_ (below_step (zl0_ HB) hb);have n1_:=am_ (hbox);have n2_:=am_ ((zg0_ HB hg:w.heap.size≤gb1));have n3_:=am_ ((zg0_ HB hg:w.heap.size≤gb1));clear HB;have HB:=n0_;have BK1:=n1_;have GE1:=n3_;clear n0_ n1_ n2_ n3_;clear hb hbox hg)|((with_reducible refine gate_dst (N:=6) rfl ?_);refine bx_ (N:=6) (cs:=#[.slice none 0 0, .int .i64 0]) (t:=67) ?_;intro gb2 hg w21 hbox hb;have n0_:=am_ (blk_below (zb_ BK1) hb);have n1_:=am_ (below_step (zl1_ HB GE1) hb);have n2_:=am_ (hbox);have n3_:=am_ ((zg1_ HB GE1 hg:w.heap.size≤gb2));have n4_:=am_ ((zg1_ HB GE1 hg:w.heap.size≤gb2));have n5_:=am_ ((zn_ BK1 hg:gb1≠gb2));have n6_:=am_ ((zm_ BK1 hg:gb2≠gb1));clear BK1;clear HB;have BK1:=n0_;have HB:=n1_;have BK2:=n2_;have GE2:=n4_;clear n0_ n1_ n2_ n3_ n4_ n5_ n6_;clear hb hbox hg)|((with_reducible refine gate_callee (f:=106) rfl ?_);refine gl_ (some 14) Try.func106 #[.slice A0 l0.length c0, .string a1] ?_;(with_reducible refine (r10_Up.calls k _ _ l0 a1 t3 _ ?side1 ?side2 A4.out).mono ?_);(case side1=>exact zc_ (Kd.C_below HR0.out HB.out));(case side2=>exact HC0.out);rintro e w22 ⟨v4,rfl,ho0,hb⟩;refine ⟨_,rfl, ?_⟩;have HO5:=am_ (Kd.R_lower ho0 (below_size (zl2_ HB GE1 GE2)));replace BK1:=am_ (blk_below (zb_ BK1) hb);replace BK2:=am_ (blk_below (zb_ BK2) hb);replace HB:=am_ (below_step (zl2_ HB GE1 GE2) hb);(try clear hb);(try clear hb2);(try clear hk);(try clear hi);(try clear ho0);obtain ⟨hcz24_0,hcz24_1,hcz24_2⟩:=x3_ BK1)|((with_reducible refine gate_callee (f:=65) rfl ?_);refine gl_ (some 16) Try.func65 #[.agg #[.int .i64 a2_0, .int .i64 a2_1, .int .i64 a2_2]] ?_;(with_reducible refine (r10_MayVec.calls a2_0 a2_1 a2_2 true _ A5.out).mono ?_);rintro e w25 ⟨rfl,hb⟩;refine ⟨_,rfl, ?_⟩;replace HO5:=am_ (Kd.R_below (zr_ HO5) hb);replace BK1:=am_ (blk_below (zb_ BK1) hb);replace BK2:=am_ (blk_below (zb_ BK2) hb);replace HB:=am_ (below_step (zl2_ HB GE1 GE2) hb);(try clear hb);(try clear hb2);(try clear hk);(try clear hi);obtain ⟨Ao26,co26,eo26⟩:=Kd.R_slice HO5.out;subst eo26)|((with_reducible refine gate_callee (f:=124) rfl ?_);refine gl_ (some 24) Try.func124 #[.slice A0 l0.length c0] ?_;(with_reducible refine (r10_copied.calls _ _ l0 t15 _ ?side1 ?side2 A19.out).mono ?_);(case side1=>exact zc_ (Kd.C_below HR0.out HB.out));(case side2=>exact HC0.out);rintro e w27 ⟨v16,rfl,ho0,hb⟩;refine ⟨_,rfl, ?_⟩;replace HO5:=am_ (Kd.R_below (zr_ HO5) hb);have HO17:=am_ (Kd.R_lower ho0 (below_size (zl2_ HB GE1 GE2)));replace BK1:=am_ (blk_below (zb_ BK1) hb);replace BK2:=am_ (blk_below (zb_ BK2) hb);replace HB:=am_ (below_step (zl2_ HB GE1 GE2) hb);(try clear hb);(try clear hb2);(try clear hk);(try clear hi);(try clear ho0)))
 go_loopg [9] k (fun kq v9 w'=> ∃(x8_1:List (S31)) (x9_1:Int) (x3001_1:Int),v9= .int .i64 x9_1∧Aside0 (r10_Admit.l0 kq a1 t3 x8_1 x9_1 a2_0 a2_1 a2_2=some (r1,r2))∧Aside0 (kq≤k)∧Aside0 (Kd.R Kd.string 9 w' w.heap.size (fun _=>True) (.slice Ao26 t3.length co26) t3)∧Aside0 (Kd.R k31 31 w' w.heap.size (fun _=>True) v16 x8_1)∧Aside0 (w'.heap[gb1]?=some (.cells #[.int .i64 a2_0, .int .i64 a2_1, .int .i64 a2_2] 27 (0,0)))∧Aside0 (w'.heap[gb2]?=some (.cells #[(.slice none 0 0), .int .i64 x3001_1] 67 (0,0)))∧Aside0 (Below w.heap.size w w'))
 case atStart=>exact ⟨(t15),(0),(0),(by first|rfl|(simp;done)|(simp [*];done)),H',⟨Nat.le_refl _⟩,⟨by (with_reducible repeat (first|apply Kd.R_alloc|apply Kd.R_drewN|apply Kd.R_drew));exact HO5.out⟩,⟨by (with_reducible repeat (first|apply Kd.R_alloc|apply Kd.R_drewN|apply Kd.R_drew));exact HO17.out⟩,⟨by refine zk_ ?_;exact BK1.out⟩,⟨by refine zk_ ?_;exact BK2.out⟩,⟨zl2_ HB GE1 GE2⟩⟩
 case round=>
  clear H'
  try clear c1
  try clear c2
  try clear p2
  try clear c6
  try clear c7
  try clear c7b0
  try clear c10
  try clear c11
  try clear c12
  try clear c23
  try clear hcz13_0
  try clear hcz13_1
  try clear hcz13_2
  try clear hcz18_0
  try clear hcz18_1
  try clear hcz24_0
  try clear hcz24_1
  try clear hcz24_2
  try clear hfz18_0
  try clear hfz18_1
  obtain ⟨x8_1,x9_1,x3001_1,rfl,HA,HK1,HO_7,HO_8,BK1,BK2,HB⟩:=hrel
  cases gk with
  |zero=>exact absurd HA.out (by simp [r10_Admit.l0])
  |succ k1=>
   have H:=HA.out
   clear HA
   simp only [r10_Admit.l0] at H
   by_cases c28:x9_1<(t3.length:Int)
   rotate_left
   ·rw [if_neg c28] at H
    have c28b0:decide (x9_1<(t3.length:Int))=false:=decide_eq_false c28
    clear c28
    replace H:=Option.bind_eq_some_iff.mp H
    obtain ⟨t18,A560,H⟩:=H
    try dsimp only at H
    have A56:=Aside0.mk A560
    clear A560
    by_cases c57:0≤t18
    rotate_left
    ·rw [if_neg c57] at H
     exact absurd H (by simp)
    rw [if_pos c57] at H
    have c57b0:decide (0≤t18)=true:=decide_eq_true c57
    clear c57
    by_cases c58:t18<(x8_1.length:Int)
    rotate_left
    ·rw [if_neg c58] at H
     exact absurd H (by simp)
    rw [if_pos c58] at H
    have c58b0:decide (t18<(x8_1.length:Int))=true:=decide_eq_true c58
    clear c58
    replace H:=Option.bind_eq_some_iff.mp H
    obtain ⟨⟨t20,t21,t22⟩,A590,H⟩:=H
    try dsimp only at H
    have A59:=Aside0.mk A590
    clear A590
    obtain ⟨y23,hy23⟩: ∃y_:List (S31),y_=(x8_1.set (t18:Int).toNat (⟨(rd_T31 x8_1 t18).f0,(rd_T31 x8_1 t18).f1,(⟨(rd_T31 x8_1 t18).f2.f0,(rd_T31 x8_1 t18).f2.f1,(rd_T31 x8_1 t18).f2.f2⟩:S27),(⟨t20,t21,t22⟩:S27),(⟨(rd_T31 x8_1 t18).f4.f0,(rd_T31 x8_1 t18).f4.f1,(rd_T31 x8_1 t18).f4.f2⟩:S27),(rd_T31 x8_1 t18).f5⟩:S31)):=⟨_,rfl⟩
    replace H:(some (y23,0))=some (r1,r2):=by first|(rw [hy23];with_reducible exact H)|(have H2_:=(Option.bind_some _ _).symm.trans H;rw [hy23];with_reducible exact H2_)|(have H2_:=(Option.bind_some _ _).symm.trans H;with_reducible exact H2_)|with_reducible exact H|(rw [hy23];exact H)|exact H
    have Ny23:=Aside0.mk hy23
    clear hy23
    simp only [Option.some.injEq,Prod.mk.injEq] at H
    obtain ⟨rfl,rfl⟩:=H
    obtain ⟨Ao61,co61,eo61⟩:=Kd.R_slice HO_8.out
    subst eo61
    try go_wp2_with (first|((with_reducible refine gate_callee (f:=50) rfl ?_);refine gl_ (some 63) Try.func50 #[.slice Ao61 x8_1.length co61, .string a1] ?_;(with_reducible refine (r10_Find.calls k1 _ _ x8_1 a1 t18 _ ?side1 ?side2 A56.out).mono ?_);(case side1=>exact zc_ (Kd.R_reads' HO_8.out).2.2);(case side2=>exact (Kd.R_reads' HO_8.out).2.1);rintro e w' ⟨rfl,⟨nd,rfl⟩⟩;refine ⟨_,rfl, ?_⟩;(try (rw [drewN_self wr];generalize hq_:World.drewN wr _=wr;have n0_:Aside0 (Kd.R Kd.string 9 wr w.heap.size (fun _=>True) (.slice Ao26 t3.length co26) t3):=⟨by rw [←hq_];exact (zr_ HO_7)⟩;have n1_:Aside0 (Kd.R k31 31 wr w.heap.size (fun _=>True) (.slice Ao61 x8_1.length co61) x8_1):=⟨by rw [←hq_];exact (zr_ HO_8)⟩;have n2_:Aside0 (wr.heap[gb1]?=some (.cells #[.int .i64 a2_0, .int .i64 a2_1, .int .i64 a2_2] 27 (0,0))):=⟨by rw [←hq_];exact (zb_ BK1)⟩;have n3_:Aside0 (wr.heap[gb2]?=some (.cells #[.slice none 0 0, .int .i64 x3001_1] 67 (0,0))):=⟨by rw [←hq_];exact (zb_ BK2)⟩;have n4_:Aside0 (Below w.heap.size w wr):=⟨by rw [←hq_];exact (zl2_ HB GE1 GE2)⟩;clear HO_7 HO_8 BK1 BK2 HB hq_;have HO_7:=n0_;have HO_8:=n1_;have BK1:=n2_;have BK2:=n3_;have HB:=n4_;clear n0_ n1_ n2_ n3_ n4_))))
    replace HO_7:=am_ (Kd.R_drew HO_7.out)
    replace HO_8:=am_ (Kd.R_drew HO_8.out)
    replace BK1:=am_ (blk_drew BK1.out)
    replace BK2:=am_ (blk_drew BK2.out)
    replace HB:=am_ (below_drew1 HB.out)
    have p19:0≤(t18:Int):=of_decide_eq_true zq_
    have q19:t18<(x8_1.length:Int):=of_decide_eq_true zq_
    obtain ⟨ad19,e19,hx19_0,hx19_1,hx19_2,hx19_3,hx19_4,hx19_5,hx19_6,hx19_7,hx19_8,hx19_9,hx19_10,hx19_11⟩:=at_T31 (Kd.R_reads' HO_8.out).2.2 t18 p19 q19
    cases e19
    replace p19:=eq_true p19
    replace q19:=eq_true q19
    refine start_ (n:=12) (S:=fun w'=>w'.cell? ⟨gb1,0,none⟩=some (.int .i64 a2_0)∧w'.cell? ⟨gb1,1,none⟩=some (.int .i64 a2_1)∧w'.cell? ⟨gb1,2,none⟩=some (.int .i64 a2_2)∧w'.cell? (ad19.add ((t18).toNat*12))=some (.string ((rd_T31 x8_1 t18).f0))∧w'.cell? ⟨(ad19.add ((t18).toNat*12)).block,(ad19.add ((t18).toNat*12)).off+1,none⟩=some (.string ((rd_T31 x8_1 t18).f1))∧w'.cell? ⟨(ad19.add ((t18).toNat*12)).block,(ad19.add ((t18).toNat*12)).off+2,none⟩=some (.int .i64 ((rd_T31 x8_1 t18).f2.f0))∧w'.cell? ⟨(ad19.add ((t18).toNat*12)).block,(ad19.add ((t18).toNat*12)).off+3,none⟩=some (.int .i64 ((rd_T31 x8_1 t18).f2.f1))∧w'.cell? ⟨(ad19.add ((t18).toNat*12)).block,(ad19.add ((t18).toNat*12)).off+4,none⟩=some (.int .i64 ((rd_T31 x8_1 t18).f2.f2))∧w'.cell? ⟨(ad19.add ((t18).toNat*12)).block,(ad19.add ((t18).toNat*12)).off+5,none⟩=some (.int .i64 ((rd_T31 x8_1 t18).f3.f0))∧w'.cell? ⟨(ad19.add ((t18).toNat*12)).block,(ad19.add ((t18).toNat*12)).off+6,none⟩=some (.int .i64 ((rd_T31 x8_1 t18).f3.f1))∧w'.cell? ⟨(ad19.add ((t18).toNat*12)).block,(ad19.add ((t18).toNat*12)).off+7,none⟩=some (.int .i64 ((rd_T31 x8_1 t18).f3.f2))∧w'.cell? ⟨(ad19.add ((t18).toNat*12)).block,(ad19.add ((t18).toNat*12)).off+8,none⟩=some (.int .i64 ((rd_T31 x8_1 t18).f4.f0))∧w'.cell? ⟨(ad19.add ((t18).toNat*12)).block,(ad19.add ((t18).toNat*12)).off+9,none⟩=some (.int .i64 ((rd_T31 x8_1 t18).f4.f1))∧w'.cell? ⟨(ad19.add ((t18).toNat*12)).block,(ad19.add ((t18).toNat*12)).off+10,none⟩=some (.int .i64 ((rd_T31 x8_1 t18).f4.f2))∧w'.cell? ⟨(ad19.add ((t18).toNat*12)).block,(ad19.add ((t18).toNat*12)).off+11,none⟩=some (.int .i64 ((rd_T31 x8_1 t18).f5))) (ds:=[11]) (bt_ 12 0) (by kernel_rfl) rfl rfl ⟨(blk_cell BK1.out 0).trans rfl,(blk_cell BK1.out 1).trans rfl,(blk_cell BK1.out 2).trans rfl,hx19_0,hx19_1,hx19_2,hx19_3,hx19_4,hx19_5,hx19_6,hx19_7,hx19_8,hx19_9,hx19_10,hx19_11⟩ (fun hHeld=> ?_);refine with_tabW r10_Admit.tab15 r10_Admit.bits15 (fun HT_ HW_=> ?_)
    generalize wr.drew=w62 at HO_7 HO_8 BK1 BK2 HB hx19_0 hx19_1 hx19_10 hx19_11 hx19_2 hx19_3 hx19_4 hx19_5 hx19_6 hx19_7 hx19_8 hx19_9 hHeld ⊢
    refine pu_ (i:=0) (N:=some 64) (bt_ 12 1) HT_ ?_
    refine pu_ (i:=1) (N:=some 65) (bt_ 12 3) HT_ ?_
    refine pu_ (i:=2) (N:=some 66) (bt_ 12 7) HT_ ?_
    refine pu_ (i:=3) (N:=some 67) (bt_ 12 15) HT_ ?_
    refine pu_ (i:=4) (N:=some 68) (bt_ 12 31) HT_ ?_
    refine pu_ (i:=5) (N:=some 69) (bt_ 12 63) HT_ ?_
    refine tk_ (i:=6) (N:=some 70) (bt_ 12 127) HT_ HW_ hHeld ?_
    refine tk_ (i:=7) (N:=some 71) (bt_ 12 255) HT_ HW_ hHeld ?_
    refine on_ (i:=8) (N:=some 72) (bt_ 12 511) HT_ (fun K hK=> ?_)
    refine gs_ Try.func63 #[.agg #[.int .i64 ((rd_T31 x8_1 t18).f3.f0), .int .i64 ((rd_T31 x8_1 t18).f3.f1), .int .i64 ((rd_T31 x8_1 t18).f3.f2)], .agg #[.int .i64 a2_0, .int .i64 a2_1, .int .i64 a2_2]] ?_
    with_reducible refine (r10_Add.calls ((rd_T31 x8_1 t18).f3.f0) ((rd_T31 x8_1 t18).f3.f1) ((rd_T31 x8_1 t18).f3.f2) a2_0 a2_1 a2_2 t20 t21 t22 _ A59.out).mono ?_
    rintro e w63 ⟨rfl,hb⟩
    have HS3_:=zh_ hb (hHeld.2.2.2.1)
    have HS4_:=zh_ hb (hHeld.2.2.2.2.1)
    have HS5_:=zh_ hb (hHeld.2.2.2.2.2.1)
    have HS6_:=zh_ hb (hHeld.2.2.2.2.2.2.1)
    have HS7_:=zh_ hb (hHeld.2.2.2.2.2.2.2.1)
    have HS8_:=zh_ hb (hHeld.2.2.2.2.2.2.2.2.1)
    have HS9_:=zh_ hb (hHeld.2.2.2.2.2.2.2.2.2.1)
    have HS10_:=zh_ hb (hHeld.2.2.2.2.2.2.2.2.2.2.1)
    have HS11_:=zh_ hb (hHeld.2.2.2.2.2.2.2.2.2.2.2.1)
    have HS12_:=zh_ hb (hHeld.2.2.2.2.2.2.2.2.2.2.2.2.1)
    have HS13_:=zh_ hb (hHeld.2.2.2.2.2.2.2.2.2.2.2.2.2.1)
    have HS14_:=zh_ hb (hHeld.2.2.2.2.2.2.2.2.2.2.2.2.2.2)
    refine ⟨_,rfl, ?_⟩
    replace HO_7:=am_ (Kd.R_below (zr_ HO_7) hb)
    replace HO_8:=am_ (Kd.R_below (zr_ HO_8) hb)
    replace BK1:=am_ (blk_below (zb_ BK1) hb)
    replace BK2:=am_ (blk_below (zb_ BK2) hb)
    replace HB:=am_ (below_step (zl2_ HB GE1 GE2) hb)
    (try clear hb)
    (try clear hb2)
    (try clear hk)
    (try clear hi)
    have p60:0≤(t18:Int):=of_decide_eq_true zq_
    have q60:(t18:Int)<((x8_1.length:Int):Int):=of_decide_eq_true zq_
    obtain ⟨go60,co60,eo60,gb60,gl60,cl60,HG60⟩:=Kd.R_form HO_8.out (by omega)
    (first|cases eo60|(injection eo60 with ea_ en_ ec_;(first|subst ea_|(injection ea_ with ea_;subst ea_));subst ec_;clear en_))
    have GB60:=Aside0.mk gb60
    have GG60:=Aside0.mk HG60
    clear gb60 gl60 HG60
    replace hx19_0:=zv_ hx19_0
    replace hx19_1:=zv_ hx19_1
    replace hx19_2:=zv_ hx19_2
    replace hx19_3:=zv_ hx19_3
    replace hx19_4:=zv_ hx19_4
    replace hx19_5:=zv_ hx19_5
    replace hx19_6:=zv_ hx19_6
    replace hx19_7:=zv_ hx19_7
    replace hx19_8:=zv_ hx19_8
    replace hx19_9:=zv_ hx19_9
    replace hx19_10:=zv_ hx19_10
    replace hx19_11:=zv_ hx19_11
    obtain ⟨ce60,hcl60,hM60,hcc60,hfr60⟩:=Kd.R_elem HO_8.out z31 (t18:Int) p60 q60
    obtain rfl:=k31_openM hM60
    have hx60_5:World.cell? _ ⟨go60,(t18:Int).toNat*12+5,none⟩=some (.int .i64 ((rd_T31 x8_1 t18).f3.f0)):=hcc60 5 _ rfl
    have hx60_6:World.cell? _ ⟨go60,(t18:Int).toNat*12+6,none⟩=some (.int .i64 ((rd_T31 x8_1 t18).f3.f1)):=hcc60 6 _ rfl
    have hx60_7:World.cell? _ ⟨go60,(t18:Int).toNat*12+7,none⟩=some (.int .i64 ((rd_T31 x8_1 t18).f3.f2)):=hcc60 7 _ rfl
    have hf60_5:World.frozen? _ ⟨go60,(t18:Int).toNat*12+5,none⟩=false:=hfr60 5
    have hf60_6:World.frozen? _ ⟨go60,(t18:Int).toNat*12+6,none⟩=false:=hfr60 6
    have hf60_7:World.frozen? _ ⟨go60,(t18:Int).toNat*12+7,none⟩=false:=hfr60 7
    clear hcl60 hcc60 hfr60 hM60
    replace p60:=eq_true p60
    replace q60:=eq_true q60
    obtain ⟨ce64,hcl64,hM64,hcc64,hfr64⟩:=Kd.R_elem HO_8.out z31 (t18:Int) (of_decide_eq_true zq_) (by have h_:(t18:Int)<((x8_1.length:Int):Int):=of_decide_eq_true zq_;first|exact h_|(have e_:=(Kd.R_reads' HO_8.out).1;omega)|simpa using h_)
    obtain rfl:=k31_openM hM64
    have HP64:=(Kd.R_seg HO_8.out (t18:Int) (of_decide_eq_true zq_) (by have h_:(t18:Int)<((x8_1.length:Int):Int):=of_decide_eq_true zq_;first|exact h_|(have e_:=(Kd.R_reads' HO_8.out).1;omega)|simpa using h_) (seg:=[.int .i64 t20, .int .i64 t21, .int .i64 t22]) (j:=5) hcl64 hcc64 (show 8≤12 from by decide) (x':=(⟨(rd_T31 x8_1 t18).f0,(rd_T31 x8_1 t18).f1,(⟨(rd_T31 x8_1 t18).f2.f0,(rd_T31 x8_1 t18).f2.f1,(rd_T31 x8_1 t18).f2.f2⟩:S27),(⟨t20,t21,t22⟩:S27),(⟨(rd_T31 x8_1 t18).f4.f0,(rd_T31 x8_1 t18).f4.f1,(rd_T31 x8_1 t18).f4.f2⟩:S27),(rd_T31 x8_1 t18).f5⟩:S31)) (k31_mkM _ _ _ (⟨(rd_T31 x8_1 t18).f0,(rd_T31 x8_1 t18).f1,(⟨(rd_T31 x8_1 t18).f2.f0,(rd_T31 x8_1 t18).f2.f1,(rd_T31 x8_1 t18).f2.f2⟩:S27),(⟨t20,t21,t22⟩:S27),(⟨(rd_T31 x8_1 t18).f4.f0,(rd_T31 x8_1 t18).f4.f1,(rd_T31 x8_1 t18).f4.f2⟩:S27),(rd_T31 x8_1 t18).f5⟩:S31)) (fun _ hk=>hk)).1
    rw [←Ny23.out] at HP64
    have HQ64:=Aside0.mk HP64
    clear hcl64 hcc64 hfr64 hM64 HP64
    refine hK.out _ _ ⟨(blk_cell BK1.out 0).trans rfl,(blk_cell BK1.out 1).trans rfl,(blk_cell BK1.out 2).trans rfl,HS3_,HS4_,HS5_,HS6_,HS7_,HS8_,HS9_,HS10_,HS11_,HS12_,HS13_,HS14_⟩ (fun hHeld=> ?_)
    clear hK K
    refine no_ (N:=some 72) ?_
    refine pu_ (i:=9) (N:=some 73) (bt_ 12 1023) HT_ ?_
    refine pu_ (i:=10) (N:=some 74) (bt_ 12 2047) HT_ ?_
    refine last_ (i:=11) (N:=none) (bt_ 12 4095) rfl rfl (one_of HT_.out (by kernel_rfl)) (by decide) (fun K hK=> ?_)
    refine skip_ (w1:= ?_) (by rfl) rfl ?_ ?_
    rotate_left
    ·go_simp
     rfl
    refine hK.out _ _ ?_
    clear hK K
    refine done_ (done_of HT_.out (by kernel_rfl)) ?_
    have n0_:Aside0 (Kd.R Kd.string 9 (((w63.setCell ⟨go60,(t18:Int).toNat*12+5,none⟩ (.int .i64 t20)).setCell ⟨go60,(t18:Int).toNat*12+6,none⟩ (.int .i64 t21)).setCell ⟨go60,(t18:Int).toNat*12+7,none⟩ (.int .i64 t22)) w.heap.size (fun _=>True) (.slice Ao26 t3.length co26) t3):=⟨by (with_reducible repeat (first|apply Kd.R_alloc|apply Kd.R_drewN|apply Kd.R_drew));exact Kd.R_mono (Kd.R_far (p:=⟨go60,(t18:Int).toNat*12+7,none⟩) (Kd.R_far (p:=⟨go60,(t18:Int).toNat*12+6,none⟩) (Kd.R_far (p:=⟨go60,(t18:Int).toNat*12+5,none⟩) (Kd.R_types HO_7.out GG60.out (by decide)) (fun _ hk=>hk.2) (.int .i64 t20)) (fun _ hk=>hk.2) (.int .i64 t21)) (fun _ hk=>hk.2) (.int .i64 t22)) (fun _ hk=>trivial)⟩
    have n1_:Aside0 (Kd.R k31 31 (((w63.setCell ⟨go60,(t18:Int).toNat*12+5,none⟩ (.int .i64 t20)).setCell ⟨go60,(t18:Int).toNat*12+6,none⟩ (.int .i64 t21)).setCell ⟨go60,(t18:Int).toNat*12+7,none⟩ (.int .i64 t22)) w.heap.size (fun _=>True) (.slice (some ⟨go60,0,none⟩) x8_1.length co61) y23):=⟨by (with_reducible repeat (first|apply Kd.R_alloc|apply Kd.R_drewN|apply Kd.R_drew));exact HQ64.out⟩
    have n2_:Aside0 ((((w63.setCell ⟨go60,(t18:Int).toNat*12+5,none⟩ (.int .i64 t20)).setCell ⟨go60,(t18:Int).toNat*12+6,none⟩ (.int .i64 t21)).setCell ⟨go60,(t18:Int).toNat*12+7,none⟩ (.int .i64 t22)).heap[gb1]?=some (.cells #[.int .i64 a2_0, .int .i64 a2_1, .int .i64 a2_2] 27 (0,0))):=⟨by refine zk_ ?_;refine blk_far ?_ (by have h_:=Kd.R_ne HO_8.out BK1.out (by decide);intro e_;exact h_ (by rw [e_];rfl)) _;refine zk_ ?_;refine blk_far ?_ (by have h_:=Kd.R_ne HO_8.out BK1.out (by decide);intro e_;exact h_ (by rw [e_];rfl)) _;refine zk_ ?_;refine blk_far ?_ (by have h_:=Kd.R_ne HO_8.out BK1.out (by decide);intro e_;exact h_ (by rw [e_];rfl)) _;refine zk_ ?_;exact BK1.out⟩
    have n3_:Aside0 ((((w63.setCell ⟨go60,(t18:Int).toNat*12+5,none⟩ (.int .i64 t20)).setCell ⟨go60,(t18:Int).toNat*12+6,none⟩ (.int .i64 t21)).setCell ⟨go60,(t18:Int).toNat*12+7,none⟩ (.int .i64 t22)).heap[gb2]?=some (.cells #[.slice none 0 0, .int .i64 x3001_1] 67 (0,0))):=⟨by refine zk_ ?_;refine blk_far ?_ (by have h_:=Kd.R_ne HO_8.out BK2.out (by decide);intro e_;exact h_ (by rw [e_];rfl)) _;refine zk_ ?_;refine blk_far ?_ (by have h_:=Kd.R_ne HO_8.out BK2.out (by decide);intro e_;exact h_ (by rw [e_];rfl)) _;refine zk_ ?_;refine blk_far ?_ (by have h_:=Kd.R_ne HO_8.out BK2.out (by decide);intro e_;exact h_ (by rw [e_];rfl)) _;refine zk_ ?_;exact BK2.out⟩
    have n4_:Aside0 (Below w.heap.size w (((w63.setCell ⟨go60,(t18:Int).toNat*12+5,none⟩ (.int .i64 t20)).setCell ⟨go60,(t18:Int).toNat*12+6,none⟩ (.int .i64 t21)).setCell ⟨go60,(t18:Int).toNat*12+7,none⟩ (.int .i64 t22))):=⟨by repeat (first|(with_reducible first|exact HB.out|apply below_alloc|apply pw_below_drewN|apply below_drew1|refine below_set ?_ GB60.out|refine below_set ?_ GB60.out|refine below_set ?_ GB60.out|refine below_set ?_ GE1.out|refine below_set ?_ GE2.out)|exact HB.out)⟩
    (try clear HO_7)
    (try clear HO_8)
    (try clear BK1)
    (try clear BK2)
    (try clear HB)
    generalize (((w63.setCell ⟨go60,(t18:Int).toNat*12+5,none⟩ (.int .i64 t20)).setCell ⟨go60,(t18:Int).toNat*12+6,none⟩ (.int .i64 t21)).setCell ⟨go60,(t18:Int).toNat*12+7,none⟩ (.int .i64 t22))=w65 at n0_ n1_ n2_ n3_ n4_ ⊢
    have HO_7:=n0_
    have HO_8:=n1_
    have BK1:=n2_
    have BK2:=n3_
    have HB:=n4_
    clear n0_ n1_ n2_ n3_ n4_
    obtain ⟨hcz67_0,hcz67_1,hfz67_0,hfz67_1⟩:=y2_ BK2
    try go_wp2
    refine bodyPost_ret (results_cell_row rfl _ _ gb2 67 #[.slice (some ⟨go60,0,none⟩) x8_1.length co61, .int .i64 0] (0,0) _ rfl (zw_ BK2) Try.underlying67 rfl (by kernel_rfl)) rfl ?_
    exact ⟨_,by first|rfl|(simp [errW_none,errW_some]<;>rfl)|(simp [*,errW_none,errW_some]<;>rfl),zy_ HO_8 BK2,zl2_ HB GE1 GE2⟩
   rw [if_pos c28] at H
   have c28b0:decide (x9_1<(t3.length:Int))=true:=decide_eq_true c28
   clear c28
   by_cases c29:0≤x9_1
   rotate_left
   ·rw [if_neg c29] at H
    exact absurd H (by simp)
   rw [if_pos c29] at H
   have c29b0:decide (0≤x9_1)=true:=decide_eq_true c29
   clear c29
   replace H:=Option.bind_eq_some_iff.mp H
   obtain ⟨t25,A300,H⟩:=H
   try dsimp only at H
   have A30:=Aside0.mk A300
   clear A300
   by_cases c31:0≤t25
   rotate_left
   ·rw [if_neg c31] at H
    exact absurd H (by simp)
   rw [if_pos c31] at H
   have c31b0:decide (0≤t25)=true:=decide_eq_true c31
   clear c31
   by_cases c32:t25<(x8_1.length:Int)
   rotate_left
   ·rw [if_neg c32] at H
    exact absurd H (by simp)
   rw [if_pos c32] at H
   have c32b0:decide (t25<(x8_1.length:Int))=true:=decide_eq_true c32
   clear c32
   replace H:=Option.bind_eq_some_iff.mp H
   obtain ⟨⟨t27,t28,t29⟩,A330,H⟩:=H
   try dsimp only at H
   have A33:=Aside0.mk A330
   clear A330
   obtain ⟨y30,hy30⟩: ∃y_:List (S31),y_=(x8_1.set (t25:Int).toNat (⟨(rd_T31 x8_1 t25).f0,(rd_T31 x8_1 t25).f1,(⟨(rd_T31 x8_1 t25).f2.f0,(rd_T31 x8_1 t25).f2.f1,(rd_T31 x8_1 t25).f2.f2⟩:S27),(⟨(rd_T31 x8_1 t25).f3.f0,(rd_T31 x8_1 t25).f3.f1,(rd_T31 x8_1 t25).f3.f2⟩:S27),(⟨t27,t28,t29⟩:S27),(rd_T31 x8_1 t25).f5⟩:S31)):=⟨_,rfl⟩
   replace H:((r10_Le.f ((rd_T31 y30 t25).f4.f0) ((rd_T31 y30 t25).f4.f1) ((rd_T31 y30 t25).f4.f2) ((rd_T31 y30 t25).f2.f0) ((rd_T31 y30 t25).f2.f1) ((rd_T31 y30 t25).f2.f2)).bind fun t33=>(if t33=true then (r10_Admit.l0 k1 a1 t3 y30 (wrap64 (x9_1+1)) a2_0 a2_1 a2_2) else ((r10_no.f 12).bind fun bt34=>(some (bt34.1,bt34.2)))))=some (r1,r2):=by first|(rw [hy30];with_reducible exact H)|(have H2_:=(Option.bind_some _ _).symm.trans H;rw [hy30];with_reducible exact H2_)|(have H2_:=(Option.bind_some _ _).symm.trans H;with_reducible exact H2_)|with_reducible exact H|(rw [hy30];exact H)|exact H
   have Ny30:=Aside0.mk hy30
   clear hy30
   replace H:=Option.bind_eq_some_iff.mp H
   obtain ⟨t33,A350,H⟩:=H
   try dsimp only at H
   have A35:=Aside0.mk A350
   clear A350
   by_cases c36:t33=true
   ·subst c36
    have H1:(r10_Admit.l0 k1 a1 t3 y30 (wrap64 (x9_1+1)) a2_0 a2_1 a2_2)=some (r1,r2):=by rw [if_pos rfl] at H;exact H
    clear H
    have H:=H1
    clear H1
    have H':=Aside0.mk H
    clear H
    have p24:0≤(x9_1:Int):=of_decide_eq_true zq_
    have q24:x9_1<(t3.length:Int):=of_decide_eq_true zq_
    obtain ⟨ad24,e24,hx24_0⟩:=Kd.at_string (Kd.R_reads' HO_7.out).2.2 x9_1 p24 q24
    cases e24
    replace p24:=eq_true p24
    replace q24:=eq_true q24
    obtain ⟨Ao37,co37,eo37⟩:=Kd.R_slice HO_8.out
    subst eo37
    try go_wp2_with (first|((with_reducible refine gate_callee (f:=50) rfl ?_);refine gl_ (some 36) Try.func50 #[.slice Ao37 x8_1.length co37, .string (rdOf ByteArray.empty t3 x9_1)] ?_;(with_reducible refine (r10_Find.calls k1 _ _ x8_1 (rdOf ByteArray.empty t3 x9_1) t25 _ ?side1 ?side2 A30.out).mono ?_);(case side1=>exact zc_ (Kd.R_reads' HO_8.out).2.2);(case side2=>exact (Kd.R_reads' HO_8.out).2.1);rintro e w' ⟨rfl,⟨nd,rfl⟩⟩;refine ⟨_,rfl, ?_⟩;(try (rw [drewN_self wr];generalize hq_:World.drewN wr _=wr;have n0_:Aside0 (Kd.R Kd.string 9 wr w.heap.size (fun _=>True) (.slice (some ad24) t3.length co26) t3):=⟨by rw [←hq_];exact (zr_ HO_7)⟩;have n1_:Aside0 (Kd.R k31 31 wr w.heap.size (fun _=>True) (.slice Ao37 x8_1.length co37) x8_1):=⟨by rw [←hq_];exact (zr_ HO_8)⟩;have n2_:Aside0 (wr.heap[gb1]?=some (.cells #[.int .i64 a2_0, .int .i64 a2_1, .int .i64 a2_2] 27 (0,0))):=⟨by rw [←hq_];exact (zb_ BK1)⟩;have n3_:Aside0 (wr.heap[gb2]?=some (.cells #[.slice none 0 0, .int .i64 x3001_1] 67 (0,0))):=⟨by rw [←hq_];exact (zb_ BK2)⟩;have n4_:Aside0 (Below w.heap.size w wr):=⟨by rw [←hq_];exact (zl2_ HB GE1 GE2)⟩;clear HO_7 HO_8 BK1 BK2 HB hq_;have HO_7:=n0_;have HO_8:=n1_;have BK1:=n2_;have BK2:=n3_;have HB:=n4_;clear n0_ n1_ n2_ n3_ n4_))))
    replace HO_7:=am_ (Kd.R_drew HO_7.out)
    replace HO_8:=am_ (Kd.R_drew HO_8.out)
    replace BK1:=am_ (blk_drew BK1.out)
    replace BK2:=am_ (blk_drew BK2.out)
    replace HB:=am_ (below_drew1 HB.out)
    have p26:0≤(t25:Int):=of_decide_eq_true zq_
    have q26:t25<(x8_1.length:Int):=of_decide_eq_true zq_
    obtain ⟨ad26,e26,hx26_0,hx26_1,hx26_2,hx26_3,hx26_4,hx26_5,hx26_6,hx26_7,hx26_8,hx26_9,hx26_10,hx26_11⟩:=at_T31 (Kd.R_reads' HO_8.out).2.2 t25 p26 q26
    cases e26
    replace p26:=eq_true p26
    replace q26:=eq_true q26
    refine start_ (n:=12) (S:=fun w'=>w'.cell? ⟨gb1,0,none⟩=some (.int .i64 a2_0)∧w'.cell? ⟨gb1,1,none⟩=some (.int .i64 a2_1)∧w'.cell? ⟨gb1,2,none⟩=some (.int .i64 a2_2)∧w'.cell? (ad26.add ((t25).toNat*12))=some (.string ((rd_T31 x8_1 t25).f0))∧w'.cell? ⟨(ad26.add ((t25).toNat*12)).block,(ad26.add ((t25).toNat*12)).off+1,none⟩=some (.string ((rd_T31 x8_1 t25).f1))∧w'.cell? ⟨(ad26.add ((t25).toNat*12)).block,(ad26.add ((t25).toNat*12)).off+2,none⟩=some (.int .i64 ((rd_T31 x8_1 t25).f2.f0))∧w'.cell? ⟨(ad26.add ((t25).toNat*12)).block,(ad26.add ((t25).toNat*12)).off+3,none⟩=some (.int .i64 ((rd_T31 x8_1 t25).f2.f1))∧w'.cell? ⟨(ad26.add ((t25).toNat*12)).block,(ad26.add ((t25).toNat*12)).off+4,none⟩=some (.int .i64 ((rd_T31 x8_1 t25).f2.f2))∧w'.cell? ⟨(ad26.add ((t25).toNat*12)).block,(ad26.add ((t25).toNat*12)).off+5,none⟩=some (.int .i64 ((rd_T31 x8_1 t25).f3.f0))∧w'.cell? ⟨(ad26.add ((t25).toNat*12)).block,(ad26.add ((t25).toNat*12)).off+6,none⟩=some (.int .i64 ((rd_T31 x8_1 t25).f3.f1))∧w'.cell? ⟨(ad26.add ((t25).toNat*12)).block,(ad26.add ((t25).toNat*12)).off+7,none⟩=some (.int .i64 ((rd_T31 x8_1 t25).f3.f2))∧w'.cell? ⟨(ad26.add ((t25).toNat*12)).block,(ad26.add ((t25).toNat*12)).off+8,none⟩=some (.int .i64 ((rd_T31 x8_1 t25).f4.f0))∧w'.cell? ⟨(ad26.add ((t25).toNat*12)).block,(ad26.add ((t25).toNat*12)).off+9,none⟩=some (.int .i64 ((rd_T31 x8_1 t25).f4.f1))∧w'.cell? ⟨(ad26.add ((t25).toNat*12)).block,(ad26.add ((t25).toNat*12)).off+10,none⟩=some (.int .i64 ((rd_T31 x8_1 t25).f4.f2))∧w'.cell? ⟨(ad26.add ((t25).toNat*12)).block,(ad26.add ((t25).toNat*12)).off+11,none⟩=some (.int .i64 ((rd_T31 x8_1 t25).f5))) (ds:=[11]) (bt_ 12 0) (by kernel_rfl) rfl rfl ⟨(blk_cell BK1.out 0).trans rfl,(blk_cell BK1.out 1).trans rfl,(blk_cell BK1.out 2).trans rfl,hx26_0,hx26_1,hx26_2,hx26_3,hx26_4,hx26_5,hx26_6,hx26_7,hx26_8,hx26_9,hx26_10,hx26_11⟩ (fun hHeld=> ?_);refine with_tabW r10_Admit.tab11 r10_Admit.bits11 (fun HT_ HW_=> ?_)
    generalize wr.drew=w38 at HO_7 HO_8 BK1 BK2 HB hx26_0 hx26_1 hx26_10 hx26_11 hx26_2 hx26_3 hx26_4 hx26_5 hx26_6 hx26_7 hx26_8 hx26_9 hHeld ⊢
    refine pu_ (i:=0) (N:=some 37) (bt_ 12 1) HT_ ?_
    refine pu_ (i:=1) (N:=some 38) (bt_ 12 3) HT_ ?_
    refine pu_ (i:=2) (N:=some 39) (bt_ 12 7) HT_ ?_
    refine pu_ (i:=3) (N:=some 40) (bt_ 12 15) HT_ ?_
    refine pu_ (i:=4) (N:=some 41) (bt_ 12 31) HT_ ?_
    refine pu_ (i:=5) (N:=some 42) (bt_ 12 63) HT_ ?_
    refine tk_ (i:=6) (N:=some 43) (bt_ 12 127) HT_ HW_ hHeld ?_
    refine tk_ (i:=7) (N:=some 44) (bt_ 12 255) HT_ HW_ hHeld ?_
    refine on_ (i:=8) (N:=some 45) (bt_ 12 511) HT_ (fun K hK=> ?_)
    refine gs_ Try.func63 #[.agg #[.int .i64 ((rd_T31 x8_1 t25).f4.f0), .int .i64 ((rd_T31 x8_1 t25).f4.f1), .int .i64 ((rd_T31 x8_1 t25).f4.f2)], .agg #[.int .i64 a2_0, .int .i64 a2_1, .int .i64 a2_2]] ?_
    with_reducible refine (r10_Add.calls ((rd_T31 x8_1 t25).f4.f0) ((rd_T31 x8_1 t25).f4.f1) ((rd_T31 x8_1 t25).f4.f2) a2_0 a2_1 a2_2 t27 t28 t29 _ A33.out).mono ?_
    rintro e w39 ⟨rfl,hb⟩
    have HS3_:=zh_ hb (hHeld.2.2.2.1)
    have HS4_:=zh_ hb (hHeld.2.2.2.2.1)
    have HS5_:=zh_ hb (hHeld.2.2.2.2.2.1)
    have HS6_:=zh_ hb (hHeld.2.2.2.2.2.2.1)
    have HS7_:=zh_ hb (hHeld.2.2.2.2.2.2.2.1)
    have HS8_:=zh_ hb (hHeld.2.2.2.2.2.2.2.2.1)
    have HS9_:=zh_ hb (hHeld.2.2.2.2.2.2.2.2.2.1)
    have HS10_:=zh_ hb (hHeld.2.2.2.2.2.2.2.2.2.2.1)
    have HS11_:=zh_ hb (hHeld.2.2.2.2.2.2.2.2.2.2.2.1)
    have HS12_:=zh_ hb (hHeld.2.2.2.2.2.2.2.2.2.2.2.2.1)
    have HS13_:=zh_ hb (hHeld.2.2.2.2.2.2.2.2.2.2.2.2.2.1)
    have HS14_:=zh_ hb (hHeld.2.2.2.2.2.2.2.2.2.2.2.2.2.2)
    refine ⟨_,rfl, ?_⟩
    replace HO_7:=am_ (Kd.R_below (zr_ HO_7) hb)
    replace HO_8:=am_ (Kd.R_below (zr_ HO_8) hb)
    replace BK1:=am_ (blk_below (zb_ BK1) hb)
    replace BK2:=am_ (blk_below (zb_ BK2) hb)
    replace HB:=am_ (below_step (zl2_ HB GE1 GE2) hb)
    (try clear hb)
    (try clear hb2)
    (try clear hk)
    (try clear hi)
    have p34:0≤(t25:Int):=of_decide_eq_true zq_
    have q34:(t25:Int)<((x8_1.length:Int):Int):=of_decide_eq_true zq_
    obtain ⟨go34,co34,eo34,gb34,gl34,cl34,HG34⟩:=Kd.R_form HO_8.out (by omega)
    (first|cases eo34|(injection eo34 with ea_ en_ ec_;(first|subst ea_|(injection ea_ with ea_;subst ea_));subst ec_;clear en_))
    have GB34:=Aside0.mk gb34
    have GG34:=Aside0.mk HG34
    clear gb34 gl34 HG34
    replace hx26_0:=zv_ hx26_0
    replace hx26_1:=zv_ hx26_1
    replace hx26_2:=zv_ hx26_2
    replace hx26_3:=zv_ hx26_3
    replace hx26_4:=zv_ hx26_4
    replace hx26_5:=zv_ hx26_5
    replace hx26_6:=zv_ hx26_6
    replace hx26_7:=zv_ hx26_7
    replace hx26_8:=zv_ hx26_8
    replace hx26_9:=zv_ hx26_9
    replace hx26_10:=zv_ hx26_10
    replace hx26_11:=zv_ hx26_11
    obtain ⟨ce34,hcl34,hM34,hcc34,hfr34⟩:=Kd.R_elem HO_8.out z31 (t25:Int) p34 q34
    obtain rfl:=k31_openM hM34
    have hx34_8:World.cell? _ ⟨go34,(t25:Int).toNat*12+8,none⟩=some (.int .i64 ((rd_T31 x8_1 t25).f4.f0)):=hcc34 8 _ rfl
    have hx34_9:World.cell? _ ⟨go34,(t25:Int).toNat*12+9,none⟩=some (.int .i64 ((rd_T31 x8_1 t25).f4.f1)):=hcc34 9 _ rfl
    have hx34_10:World.cell? _ ⟨go34,(t25:Int).toNat*12+10,none⟩=some (.int .i64 ((rd_T31 x8_1 t25).f4.f2)):=hcc34 10 _ rfl
    have hf34_8:World.frozen? _ ⟨go34,(t25:Int).toNat*12+8,none⟩=false:=hfr34 8
    have hf34_9:World.frozen? _ ⟨go34,(t25:Int).toNat*12+9,none⟩=false:=hfr34 9
    have hf34_10:World.frozen? _ ⟨go34,(t25:Int).toNat*12+10,none⟩=false:=hfr34 10
    clear hcl34 hcc34 hfr34 hM34
    replace p34:=eq_true p34
    replace q34:=eq_true q34
    obtain ⟨ce40,hcl40,hM40,hcc40,hfr40⟩:=Kd.R_elem HO_8.out z31 (t25:Int) (of_decide_eq_true zq_) (by have h_:(t25:Int)<((x8_1.length:Int):Int):=of_decide_eq_true zq_;first|exact h_|(have e_:=(Kd.R_reads' HO_8.out).1;omega)|simpa using h_)
    obtain rfl:=k31_openM hM40
    have HP40:=(Kd.R_seg HO_8.out (t25:Int) (of_decide_eq_true zq_) (by have h_:(t25:Int)<((x8_1.length:Int):Int):=of_decide_eq_true zq_;first|exact h_|(have e_:=(Kd.R_reads' HO_8.out).1;omega)|simpa using h_) (seg:=[.int .i64 t27, .int .i64 t28, .int .i64 t29]) (j:=8) hcl40 hcc40 (show 11≤12 from by decide) (x':=(⟨(rd_T31 x8_1 t25).f0,(rd_T31 x8_1 t25).f1,(⟨(rd_T31 x8_1 t25).f2.f0,(rd_T31 x8_1 t25).f2.f1,(rd_T31 x8_1 t25).f2.f2⟩:S27),(⟨(rd_T31 x8_1 t25).f3.f0,(rd_T31 x8_1 t25).f3.f1,(rd_T31 x8_1 t25).f3.f2⟩:S27),(⟨t27,t28,t29⟩:S27),(rd_T31 x8_1 t25).f5⟩:S31)) (k31_mkM _ _ _ (⟨(rd_T31 x8_1 t25).f0,(rd_T31 x8_1 t25).f1,(⟨(rd_T31 x8_1 t25).f2.f0,(rd_T31 x8_1 t25).f2.f1,(rd_T31 x8_1 t25).f2.f2⟩:S27),(⟨(rd_T31 x8_1 t25).f3.f0,(rd_T31 x8_1 t25).f3.f1,(rd_T31 x8_1 t25).f3.f2⟩:S27),(⟨t27,t28,t29⟩:S27),(rd_T31 x8_1 t25).f5⟩:S31)) (fun _ hk=>hk)).1
    rw [←Ny30.out] at HP40
    have HQ40:=Aside0.mk HP40
    clear hcl40 hcc40 hfr40 hM40 HP40
    refine hK.out _ _ ⟨(blk_cell BK1.out 0).trans rfl,(blk_cell BK1.out 1).trans rfl,(blk_cell BK1.out 2).trans rfl,HS3_,HS4_,HS5_,HS6_,HS7_,HS8_,HS9_,HS10_,HS11_,HS12_,HS13_,HS14_⟩ (fun hHeld=> ?_)
    clear hK K
    refine no_ (N:=some 45) ?_
    refine pu_ (i:=9) (N:=some 46) (bt_ 12 1023) HT_ ?_
    refine pu_ (i:=10) (N:=some 47) (bt_ 12 2047) HT_ ?_
    refine last_ (i:=11) (N:=none) (bt_ 12 4095) rfl rfl (one_of HT_.out (by kernel_rfl)) (by decide) (fun K hK=> ?_)
    refine skip_ (w1:= ?_) (by rfl) rfl ?_ ?_
    rotate_left
    ·go_simp
     rfl
    refine hK.out _ _ ?_
    clear hK K
    refine done_ (done_of HT_.out (by kernel_rfl)) ?_
    try go_wp2
    have n0_:Aside0 (Kd.R Kd.string 9 (((w39.setCell ⟨go34,(t25:Int).toNat*12+8,none⟩ (.int .i64 t27)).setCell ⟨go34,(t25:Int).toNat*12+9,none⟩ (.int .i64 t28)).setCell ⟨go34,(t25:Int).toNat*12+10,none⟩ (.int .i64 t29)) w.heap.size (fun _=>True) (.slice (some ad24) t3.length co26) t3):=⟨by (with_reducible repeat (first|apply Kd.R_alloc|apply Kd.R_drewN|apply Kd.R_drew));exact Kd.R_mono (Kd.R_far (p:=⟨go34,(t25:Int).toNat*12+10,none⟩) (Kd.R_far (p:=⟨go34,(t25:Int).toNat*12+9,none⟩) (Kd.R_far (p:=⟨go34,(t25:Int).toNat*12+8,none⟩) (Kd.R_types HO_7.out GG34.out (by decide)) (fun _ hk=>hk.2) (.int .i64 t27)) (fun _ hk=>hk.2) (.int .i64 t28)) (fun _ hk=>hk.2) (.int .i64 t29)) (fun _ hk=>trivial)⟩
    have n1_:Aside0 (Kd.R k31 31 (((w39.setCell ⟨go34,(t25:Int).toNat*12+8,none⟩ (.int .i64 t27)).setCell ⟨go34,(t25:Int).toNat*12+9,none⟩ (.int .i64 t28)).setCell ⟨go34,(t25:Int).toNat*12+10,none⟩ (.int .i64 t29)) w.heap.size (fun _=>True) (.slice (some ⟨go34,0,none⟩) x8_1.length co37) y30):=⟨by (with_reducible repeat (first|apply Kd.R_alloc|apply Kd.R_drewN|apply Kd.R_drew));exact HQ40.out⟩
    have n2_:Aside0 ((((w39.setCell ⟨go34,(t25:Int).toNat*12+8,none⟩ (.int .i64 t27)).setCell ⟨go34,(t25:Int).toNat*12+9,none⟩ (.int .i64 t28)).setCell ⟨go34,(t25:Int).toNat*12+10,none⟩ (.int .i64 t29)).heap[gb1]?=some (.cells #[.int .i64 a2_0, .int .i64 a2_1, .int .i64 a2_2] 27 (0,0))):=⟨by refine zk_ ?_;refine blk_far ?_ (by have h_:=Kd.R_ne HO_8.out BK1.out (by decide);intro e_;exact h_ (by rw [e_];rfl)) _;refine zk_ ?_;refine blk_far ?_ (by have h_:=Kd.R_ne HO_8.out BK1.out (by decide);intro e_;exact h_ (by rw [e_];rfl)) _;refine zk_ ?_;refine blk_far ?_ (by have h_:=Kd.R_ne HO_8.out BK1.out (by decide);intro e_;exact h_ (by rw [e_];rfl)) _;refine zk_ ?_;exact BK1.out⟩
    have n3_:Aside0 ((((w39.setCell ⟨go34,(t25:Int).toNat*12+8,none⟩ (.int .i64 t27)).setCell ⟨go34,(t25:Int).toNat*12+9,none⟩ (.int .i64 t28)).setCell ⟨go34,(t25:Int).toNat*12+10,none⟩ (.int .i64 t29)).heap[gb2]?=some (.cells #[.slice none 0 0, .int .i64 x3001_1] 67 (0,0))):=⟨by refine zk_ ?_;refine blk_far ?_ (by have h_:=Kd.R_ne HO_8.out BK2.out (by decide);intro e_;exact h_ (by rw [e_];rfl)) _;refine zk_ ?_;refine blk_far ?_ (by have h_:=Kd.R_ne HO_8.out BK2.out (by decide);intro e_;exact h_ (by rw [e_];rfl)) _;refine zk_ ?_;refine blk_far ?_ (by have h_:=Kd.R_ne HO_8.out BK2.out (by decide);intro e_;exact h_ (by rw [e_];rfl)) _;refine zk_ ?_;exact BK2.out⟩
    have n4_:Aside0 (Below w.heap.size w (((w39.setCell ⟨go34,(t25:Int).toNat*12+8,none⟩ (.int .i64 t27)).setCell ⟨go34,(t25:Int).toNat*12+9,none⟩ (.int .i64 t28)).setCell ⟨go34,(t25:Int).toNat*12+10,none⟩ (.int .i64 t29))):=⟨by repeat (first|(with_reducible first|exact HB.out|apply below_alloc|apply pw_below_drewN|apply below_drew1|refine below_set ?_ GB34.out|refine below_set ?_ GB34.out|refine below_set ?_ GB34.out|refine below_set ?_ GE1.out|refine below_set ?_ GE2.out)|exact HB.out)⟩
    (try clear HO_7)
    (try clear HO_8)
    (try clear BK1)
    (try clear BK2)
    (try clear HB)
    generalize (((w39.setCell ⟨go34,(t25:Int).toNat*12+8,none⟩ (.int .i64 t27)).setCell ⟨go34,(t25:Int).toNat*12+9,none⟩ (.int .i64 t28)).setCell ⟨go34,(t25:Int).toNat*12+10,none⟩ (.int .i64 t29))=w41 at n0_ n1_ n2_ n3_ n4_ ⊢
    have HO_7:=n0_
    have HO_8:=n1_
    have BK1:=n2_
    have BK2:=n3_
    have HB:=n4_
    clear n0_ n1_ n2_ n3_ n4_
    replace HO_7:=am_ (Kd.R_drew HO_7.out)
    replace HO_8:=am_ (Kd.R_drew HO_8.out)
    replace BK1:=am_ (blk_drew BK1.out)
    replace BK2:=am_ (blk_drew BK2.out)
    replace HB:=am_ (below_drew1 HB.out)
    have p31:0≤(t25:Int):=of_decide_eq_true zq_
    have q31:t25<(y30.length:Int):=(by have h_:(t25:Int)<((x8_1.length:Int):Int):=of_decide_eq_true zq_;first|(have e_:=(Kd.R_reads' HO_8.out).1;omega)|simpa only [Ny30.out,List.length_set] using h_)
    obtain ⟨ad31,e31,hx31_0,hx31_1,hx31_2,hx31_3,hx31_4,hx31_5,hx31_6,hx31_7,hx31_8,hx31_9,hx31_10,hx31_11⟩:=at_T31 (Kd.R_reads' HO_8.out).2.2 t25 p31 q31
    obtain rfl:(⟨go34,0,none⟩:Addr)=ad31:=(by injection e31)
    replace hx31_0:=za_ hx31_0
    replace hx31_1:=za_ hx31_1
    replace hx31_2:=za_ hx31_2
    replace hx31_3:=za_ hx31_3
    replace hx31_4:=za_ hx31_4
    replace hx31_5:=za_ hx31_5
    replace hx31_6:=za_ hx31_6
    replace hx31_7:=za_ hx31_7
    replace hx31_8:=za_ hx31_8
    replace hx31_9:=za_ hx31_9
    replace hx31_10:=za_ hx31_10
    replace hx31_11:=za_ hx31_11
    replace p31:=eq_true p31
    replace q31:=eq_true q31
    have p32:0≤(t25:Int):=of_decide_eq_true zq_
    have q32:t25<(y30.length:Int):=(by have h_:(t25:Int)<((x8_1.length:Int):Int):=of_decide_eq_true zq_;first|(have e_:=(Kd.R_reads' HO_8.out).1;omega)|simpa only [Ny30.out,List.length_set] using h_)
    obtain ⟨ad32,e32,hx32_0,hx32_1,hx32_2,hx32_3,hx32_4,hx32_5,hx32_6,hx32_7,hx32_8,hx32_9,hx32_10,hx32_11⟩:=at_T31 (Kd.R_reads' HO_8.out).2.2 t25 p32 q32
    obtain rfl:(⟨go34,0,none⟩:Addr)=ad32:=(by injection e32)
    replace hx32_0:=za_ hx32_0
    replace hx32_1:=za_ hx32_1
    replace hx32_2:=za_ hx32_2
    replace hx32_3:=za_ hx32_3
    replace hx32_4:=za_ hx32_4
    replace hx32_5:=za_ hx32_5
    replace hx32_6:=za_ hx32_6
    replace hx32_7:=za_ hx32_7
    replace hx32_8:=za_ hx32_8
    replace hx32_9:=za_ hx32_9
    replace hx32_10:=za_ hx32_10
    replace hx32_11:=za_ hx32_11
    replace p32:=eq_true p32
    replace q32:=eq_true q32
    refine start_ (n:=12) (S:=fun w'=>w'.cell? ⟨go34,(t25).toNat*12,none⟩=some (.string ((rd_T31 y30 t25).f0))∧w'.cell? ⟨go34,(t25).toNat*12+1,none⟩=some (.string ((rd_T31 y30 t25).f1))∧w'.cell? ⟨go34,(t25).toNat*12+2,none⟩=some (.int .i64 ((rd_T31 y30 t25).f2.f0))∧w'.cell? ⟨go34,(t25).toNat*12+3,none⟩=some (.int .i64 ((rd_T31 y30 t25).f2.f1))∧w'.cell? ⟨go34,(t25).toNat*12+4,none⟩=some (.int .i64 ((rd_T31 y30 t25).f2.f2))∧w'.cell? ⟨go34,(t25).toNat*12+5,none⟩=some (.int .i64 ((rd_T31 y30 t25).f3.f0))∧w'.cell? ⟨go34,(t25).toNat*12+6,none⟩=some (.int .i64 ((rd_T31 y30 t25).f3.f1))∧w'.cell? ⟨go34,(t25).toNat*12+7,none⟩=some (.int .i64 ((rd_T31 y30 t25).f3.f2))∧w'.cell? ⟨go34,(t25).toNat*12+8,none⟩=some (.int .i64 ((rd_T31 y30 t25).f4.f0))∧w'.cell? ⟨go34,(t25).toNat*12+9,none⟩=some (.int .i64 ((rd_T31 y30 t25).f4.f1))∧w'.cell? ⟨go34,(t25).toNat*12+10,none⟩=some (.int .i64 ((rd_T31 y30 t25).f4.f2))∧w'.cell? ⟨go34,(t25).toNat*12+11,none⟩=some (.int .i64 ((rd_T31 y30 t25).f5))∧w'.cell? ⟨go34,(t25).toNat*12,none⟩=some (.string ((rd_T31 y30 t25).f0))∧w'.cell? ⟨go34,(t25).toNat*12+1,none⟩=some (.string ((rd_T31 y30 t25).f1))∧w'.cell? ⟨go34,(t25).toNat*12+2,none⟩=some (.int .i64 ((rd_T31 y30 t25).f2.f0))∧w'.cell? ⟨go34,(t25).toNat*12+3,none⟩=some (.int .i64 ((rd_T31 y30 t25).f2.f1))∧w'.cell? ⟨go34,(t25).toNat*12+4,none⟩=some (.int .i64 ((rd_T31 y30 t25).f2.f2))∧w'.cell? ⟨go34,(t25).toNat*12+5,none⟩=some (.int .i64 ((rd_T31 y30 t25).f3.f0))∧w'.cell? ⟨go34,(t25).toNat*12+6,none⟩=some (.int .i64 ((rd_T31 y30 t25).f3.f1))∧w'.cell? ⟨go34,(t25).toNat*12+7,none⟩=some (.int .i64 ((rd_T31 y30 t25).f3.f2))∧w'.cell? ⟨go34,(t25).toNat*12+8,none⟩=some (.int .i64 ((rd_T31 y30 t25).f4.f0))∧w'.cell? ⟨go34,(t25).toNat*12+9,none⟩=some (.int .i64 ((rd_T31 y30 t25).f4.f1))∧w'.cell? ⟨go34,(t25).toNat*12+10,none⟩=some (.int .i64 ((rd_T31 y30 t25).f4.f2))∧w'.cell? ⟨go34,(t25).toNat*12+11,none⟩=some (.int .i64 ((rd_T31 y30 t25).f5))) (ds:=[]) (bt_ 12 0) (by kernel_rfl) rfl rfl ⟨hx31_0,hx31_1,hx31_2,hx31_3,hx31_4,hx31_5,hx31_6,hx31_7,hx31_8,hx31_9,hx31_10,hx31_11,hx32_0,hx32_1,hx32_2,hx32_3,hx32_4,hx32_5,hx32_6,hx32_7,hx32_8,hx32_9,hx32_10,hx32_11⟩ (fun hHeld=> ?_);refine with_tabW r10_Admit.tab12 r10_Admit.bits12 (fun HT_ HW_=> ?_)
    generalize w41.drew=w42 at HO_7 HO_8 BK1 BK2 HB HQ40 hx31_0 hx31_1 hx31_10 hx31_11 hx31_2 hx31_3 hx31_4 hx31_5 hx31_6 hx31_7 hx31_8 hx31_9 hx32_0 hx32_1 hx32_10 hx32_11 hx32_2 hx32_3 hx32_4 hx32_5 hx32_6 hx32_7 hx32_8 hx32_9 hHeld ⊢
    refine pu_ (i:=0) (N:=some 48) (bt_ 12 1) HT_ ?_
    refine pu_ (i:=1) (N:=some 49) (bt_ 12 3) HT_ ?_
    refine pu_ (i:=2) (N:=some 50) (bt_ 12 7) HT_ ?_
    refine pu_ (i:=3) (N:=some 51) (bt_ 12 15) HT_ ?_
    refine pu_ (i:=5) (N:=some 53) (bt_ 12 47) HT_ ?_
    refine pu_ (i:=6) (N:=some 54) (bt_ 12 111) HT_ ?_
    refine pu_ (i:=7) (N:=some 55) (bt_ 12 239) HT_ ?_
    refine pu_ (i:=8) (N:=some 56) (bt_ 12 495) HT_ ?_
    refine tk_ (i:=4) (N:=some 52) (bt_ 12 511) HT_ HW_ hHeld ?_
    refine tk_ (i:=9) (N:=some 57) (bt_ 12 1023) HT_ HW_ hHeld ?_
    refine on_ (i:=10) (N:=some 58) (bt_ 12 2047) HT_ (fun K hK=> ?_)
    refine gs_ Try.func34 #[.agg #[.int .i64 ((rd_T31 y30 t25).f4.f0), .int .i64 ((rd_T31 y30 t25).f4.f1), .int .i64 ((rd_T31 y30 t25).f4.f2)], .agg #[.int .i64 ((rd_T31 y30 t25).f2.f0), .int .i64 ((rd_T31 y30 t25).f2.f1), .int .i64 ((rd_T31 y30 t25).f2.f2)]] ?_
    with_reducible refine (r10_Le.calls ((rd_T31 y30 t25).f4.f0) ((rd_T31 y30 t25).f4.f1) ((rd_T31 y30 t25).f4.f2) ((rd_T31 y30 t25).f2.f0) ((rd_T31 y30 t25).f2.f1) ((rd_T31 y30 t25).f2.f2) true _ A35.out).mono ?_
    rintro e w43 ⟨rfl,hb⟩
    have HS0_:=zh_ hb (hHeld.1)
    have HS1_:=zh_ hb (hHeld.2.1)
    have HS2_:=zh_ hb (hHeld.2.2.1)
    have HS3_:=zh_ hb (hHeld.2.2.2.1)
    have HS4_:=zh_ hb (hHeld.2.2.2.2.1)
    have HS5_:=zh_ hb (hHeld.2.2.2.2.2.1)
    have HS6_:=zh_ hb (hHeld.2.2.2.2.2.2.1)
    have HS7_:=zh_ hb (hHeld.2.2.2.2.2.2.2.1)
    have HS8_:=zh_ hb (hHeld.2.2.2.2.2.2.2.2.1)
    have HS9_:=zh_ hb (hHeld.2.2.2.2.2.2.2.2.2.1)
    have HS10_:=zh_ hb (hHeld.2.2.2.2.2.2.2.2.2.2.1)
    have HS11_:=zh_ hb (hHeld.2.2.2.2.2.2.2.2.2.2.2.1)
    have HS12_:=zh_ hb (hHeld.2.2.2.2.2.2.2.2.2.2.2.2.1)
    have HS13_:=zh_ hb (hHeld.2.2.2.2.2.2.2.2.2.2.2.2.2.1)
    have HS14_:=zh_ hb (hHeld.2.2.2.2.2.2.2.2.2.2.2.2.2.2.1)
    have HS15_:=zh_ hb (hHeld.2.2.2.2.2.2.2.2.2.2.2.2.2.2.2.1)
    have HS16_:=zh_ hb (hHeld.2.2.2.2.2.2.2.2.2.2.2.2.2.2.2.2.1)
    have HS17_:=zh_ hb (hHeld.2.2.2.2.2.2.2.2.2.2.2.2.2.2.2.2.2.1)
    have HS18_:=zh_ hb (hHeld.2.2.2.2.2.2.2.2.2.2.2.2.2.2.2.2.2.2.1)
    have HS19_:=zh_ hb (hHeld.2.2.2.2.2.2.2.2.2.2.2.2.2.2.2.2.2.2.2.1)
    have HS20_:=zh_ hb (hHeld.2.2.2.2.2.2.2.2.2.2.2.2.2.2.2.2.2.2.2.2.1)
    have HS21_:=zh_ hb (hHeld.2.2.2.2.2.2.2.2.2.2.2.2.2.2.2.2.2.2.2.2.2.1)
    have HS22_:=zh_ hb (hHeld.2.2.2.2.2.2.2.2.2.2.2.2.2.2.2.2.2.2.2.2.2.2.1)
    have HS23_:=zh_ hb (hHeld.2.2.2.2.2.2.2.2.2.2.2.2.2.2.2.2.2.2.2.2.2.2.2)
    refine ⟨_,rfl, ?_⟩
    replace HO_7:=am_ (Kd.R_below (zr_ HO_7) hb)
    replace HO_8:=am_ (Kd.R_below (zr_ HO_8) hb)
    replace BK1:=am_ (blk_below (zb_ BK1) hb)
    replace BK2:=am_ (blk_below (zb_ BK2) hb)
    replace HB:=am_ (below_step (zl2_ HB GE1 GE2) hb)
    (try clear hb)
    (try clear hb2)
    (try clear hk)
    (try clear hi)
    refine hK.out _ _ ⟨HS0_,HS1_,HS2_,HS3_,HS4_,HS5_,HS6_,HS7_,HS8_,HS9_,HS10_,HS11_,HS12_,HS13_,HS14_,HS15_,HS16_,HS17_,HS18_,HS19_,HS20_,HS21_,HS22_,HS23_⟩ (fun hHeld=> ?_)
    clear hK K
    refine no_ (N:=some 58) ?_
    refine pu_ (i:=11) (N:=some 59) (bt_ 12 4095) HT_ ?_
    refine done_ (done_of HT_.out (by kernel_rfl)) ?_
    try go_wp2
    go_roundg k1
    case measure=>have:=HK1.out;omega
    case rel=>exact ⟨(y30),(wrap64 (x9_1+1)),(x3001_1),(by first|rfl|(simp;done)|(simp [*];done)),H',⟨by have:=HK1.out;omega⟩,⟨by (with_reducible repeat (first|apply Kd.R_alloc|apply Kd.R_drewN|apply Kd.R_drew));exact HO_7.out⟩,⟨by (with_reducible repeat (first|apply Kd.R_alloc|apply Kd.R_drewN|apply Kd.R_drew));exact HO_8.out⟩,⟨by refine zk_ ?_;exact BK1.out⟩,⟨by refine zk_ ?_;exact BK2.out⟩,⟨zl2_ HB GE1 GE2⟩⟩
   replace c36:=Bool.eq_false_iff.mpr c36
   subst c36
   have H1:((r10_no.f 12).bind fun bt34=>(some (bt34.1,bt34.2)))=some (r1,r2):=by rw [if_neg (show¬(false=true) by decide)] at H;exact H
   clear H
   have H:=H1
   clear H1
   replace H:=Option.bind_eq_some_iff.mp H
   obtain ⟨⟨t34,t37⟩,A440,H⟩:=H
   try dsimp only at H
   have A44:=Aside0.mk A440
   clear A440
   simp only [Option.some.injEq,Prod.mk.injEq] at H
   obtain ⟨rfl,rfl⟩:=H
   have p24:0≤(x9_1:Int):=of_decide_eq_true zq_
   have q24:x9_1<(t3.length:Int):=of_decide_eq_true zq_
   obtain ⟨ad24,e24,hx24_0⟩:=Kd.at_string (Kd.R_reads' HO_7.out).2.2 x9_1 p24 q24
   cases e24
   replace p24:=eq_true p24
   replace q24:=eq_true q24
   obtain ⟨Ao45,co45,eo45⟩:=Kd.R_slice HO_8.out
   subst eo45
   try go_wp2_with (first|((with_reducible refine gate_callee (f:=50) rfl ?_);refine gl_ (some 36) Try.func50 #[.slice Ao45 x8_1.length co45, .string (rdOf ByteArray.empty t3 x9_1)] ?_;(with_reducible refine (r10_Find.calls k1 _ _ x8_1 (rdOf ByteArray.empty t3 x9_1) t25 _ ?side1 ?side2 A30.out).mono ?_);(case side1=>exact zc_ (Kd.R_reads' HO_8.out).2.2);(case side2=>exact (Kd.R_reads' HO_8.out).2.1);rintro e w' ⟨rfl,⟨nd,rfl⟩⟩;refine ⟨_,rfl, ?_⟩;(try (rw [drewN_self wr];generalize hq_:World.drewN wr _=wr;have n0_:Aside0 (Kd.R Kd.string 9 wr w.heap.size (fun _=>True) (.slice (some ad24) t3.length co26) t3):=⟨by rw [←hq_];exact (zr_ HO_7)⟩;have n1_:Aside0 (Kd.R k31 31 wr w.heap.size (fun _=>True) (.slice Ao45 x8_1.length co45) x8_1):=⟨by rw [←hq_];exact (zr_ HO_8)⟩;have n2_:Aside0 (wr.heap[gb1]?=some (.cells #[.int .i64 a2_0, .int .i64 a2_1, .int .i64 a2_2] 27 (0,0))):=⟨by rw [←hq_];exact (zb_ BK1)⟩;have n3_:Aside0 (wr.heap[gb2]?=some (.cells #[.slice none 0 0, .int .i64 x3001_1] 67 (0,0))):=⟨by rw [←hq_];exact (zb_ BK2)⟩;have n4_:Aside0 (Below w.heap.size w wr):=⟨by rw [←hq_];exact (zl2_ HB GE1 GE2)⟩;clear HO_7 HO_8 BK1 BK2 HB hq_;have HO_7:=n0_;have HO_8:=n1_;have BK1:=n2_;have BK2:=n3_;have HB:=n4_;clear n0_ n1_ n2_ n3_ n4_))))
   replace HO_7:=am_ (Kd.R_drew HO_7.out)
   replace HO_8:=am_ (Kd.R_drew HO_8.out)
   replace BK1:=am_ (blk_drew BK1.out)
   replace BK2:=am_ (blk_drew BK2.out)
   replace HB:=am_ (below_drew1 HB.out)
   have p26:0≤(t25:Int):=of_decide_eq_true zq_
   have q26:t25<(x8_1.length:Int):=of_decide_eq_true zq_
   obtain ⟨ad26,e26,hx26_0,hx26_1,hx26_2,hx26_3,hx26_4,hx26_5,hx26_6,hx26_7,hx26_8,hx26_9,hx26_10,hx26_11⟩:=at_T31 (Kd.R_reads' HO_8.out).2.2 t25 p26 q26
   cases e26
   replace p26:=eq_true p26
   replace q26:=eq_true q26
   refine start_ (n:=12) (S:=fun w'=>w'.cell? ⟨gb1,0,none⟩=some (.int .i64 a2_0)∧w'.cell? ⟨gb1,1,none⟩=some (.int .i64 a2_1)∧w'.cell? ⟨gb1,2,none⟩=some (.int .i64 a2_2)∧w'.cell? (ad26.add ((t25).toNat*12))=some (.string ((rd_T31 x8_1 t25).f0))∧w'.cell? ⟨(ad26.add ((t25).toNat*12)).block,(ad26.add ((t25).toNat*12)).off+1,none⟩=some (.string ((rd_T31 x8_1 t25).f1))∧w'.cell? ⟨(ad26.add ((t25).toNat*12)).block,(ad26.add ((t25).toNat*12)).off+2,none⟩=some (.int .i64 ((rd_T31 x8_1 t25).f2.f0))∧w'.cell? ⟨(ad26.add ((t25).toNat*12)).block,(ad26.add ((t25).toNat*12)).off+3,none⟩=some (.int .i64 ((rd_T31 x8_1 t25).f2.f1))∧w'.cell? ⟨(ad26.add ((t25).toNat*12)).block,(ad26.add ((t25).toNat*12)).off+4,none⟩=some (.int .i64 ((rd_T31 x8_1 t25).f2.f2))∧w'.cell? ⟨(ad26.add ((t25).toNat*12)).block,(ad26.add ((t25).toNat*12)).off+5,none⟩=some (.int .i64 ((rd_T31 x8_1 t25).f3.f0))∧w'.cell? ⟨(ad26.add ((t25).toNat*12)).block,(ad26.add ((t25).toNat*12)).off+6,none⟩=some (.int .i64 ((rd_T31 x8_1 t25).f3.f1))∧w'.cell? ⟨(ad26.add ((t25).toNat*12)).block,(ad26.add ((t25).toNat*12)).off+7,none⟩=some (.int .i64 ((rd_T31 x8_1 t25).f3.f2))∧w'.cell? ⟨(ad26.add ((t25).toNat*12)).block,(ad26.add ((t25).toNat*12)).off+8,none⟩=some (.int .i64 ((rd_T31 x8_1 t25).f4.f0))∧w'.cell? ⟨(ad26.add ((t25).toNat*12)).block,(ad26.add ((t25).toNat*12)).off+9,none⟩=some (.int .i64 ((rd_T31 x8_1 t25).f4.f1))∧w'.cell? ⟨(ad26.add ((t25).toNat*12)).block,(ad26.add ((t25).toNat*12)).off+10,none⟩=some (.int .i64 ((rd_T31 x8_1 t25).f4.f2))∧w'.cell? ⟨(ad26.add ((t25).toNat*12)).block,(ad26.add ((t25).toNat*12)).off+11,none⟩=some (.int .i64 ((rd_T31 x8_1 t25).f5))) (ds:=[11]) (bt_ 12 0) (by kernel_rfl) rfl rfl ⟨(blk_cell BK1.out 0).trans rfl,(blk_cell BK1.out 1).trans rfl,(blk_cell BK1.out 2).trans rfl,hx26_0,hx26_1,hx26_2,hx26_3,hx26_4,hx26_5,hx26_6,hx26_7,hx26_8,hx26_9,hx26_10,hx26_11⟩ (fun hHeld=> ?_);refine with_tabW r10_Admit.tab11 r10_Admit.bits11 (fun HT_ HW_=> ?_)
   generalize wr.drew=w46 at HO_7 HO_8 BK1 BK2 HB hx26_0 hx26_1 hx26_10 hx26_11 hx26_2 hx26_3 hx26_4 hx26_5 hx26_6 hx26_7 hx26_8 hx26_9 hHeld ⊢
   refine pu_ (i:=0) (N:=some 37) (bt_ 12 1) HT_ ?_
   refine pu_ (i:=1) (N:=some 38) (bt_ 12 3) HT_ ?_
   refine pu_ (i:=2) (N:=some 39) (bt_ 12 7) HT_ ?_
   refine pu_ (i:=3) (N:=some 40) (bt_ 12 15) HT_ ?_
   refine pu_ (i:=4) (N:=some 41) (bt_ 12 31) HT_ ?_
   refine pu_ (i:=5) (N:=some 42) (bt_ 12 63) HT_ ?_
   refine tk_ (i:=6) (N:=some 43) (bt_ 12 127) HT_ HW_ hHeld ?_
   refine tk_ (i:=7) (N:=some 44) (bt_ 12 255) HT_ HW_ hHeld ?_
   refine on_ (i:=8) (N:=some 45) (bt_ 12 511) HT_ (fun K hK=> ?_)
   refine gs_ Try.func63 #[.agg #[.int .i64 ((rd_T31 x8_1 t25).f4.f0), .int .i64 ((rd_T31 x8_1 t25).f4.f1), .int .i64 ((rd_T31 x8_1 t25).f4.f2)], .agg #[.int .i64 a2_0, .int .i64 a2_1, .int .i64 a2_2]] ?_
   with_reducible refine (r10_Add.calls ((rd_T31 x8_1 t25).f4.f0) ((rd_T31 x8_1 t25).f4.f1) ((rd_T31 x8_1 t25).f4.f2) a2_0 a2_1 a2_2 t27 t28 t29 _ A33.out).mono ?_
   rintro e w47 ⟨rfl,hb⟩
   have HS3_:=zh_ hb (hHeld.2.2.2.1)
   have HS4_:=zh_ hb (hHeld.2.2.2.2.1)
   have HS5_:=zh_ hb (hHeld.2.2.2.2.2.1)
   have HS6_:=zh_ hb (hHeld.2.2.2.2.2.2.1)
   have HS7_:=zh_ hb (hHeld.2.2.2.2.2.2.2.1)
   have HS8_:=zh_ hb (hHeld.2.2.2.2.2.2.2.2.1)
   have HS9_:=zh_ hb (hHeld.2.2.2.2.2.2.2.2.2.1)
   have HS10_:=zh_ hb (hHeld.2.2.2.2.2.2.2.2.2.2.1)
   have HS11_:=zh_ hb (hHeld.2.2.2.2.2.2.2.2.2.2.2.1)
   have HS12_:=zh_ hb (hHeld.2.2.2.2.2.2.2.2.2.2.2.2.1)
   have HS13_:=zh_ hb (hHeld.2.2.2.2.2.2.2.2.2.2.2.2.2.1)
   have HS14_:=zh_ hb (hHeld.2.2.2.2.2.2.2.2.2.2.2.2.2.2)
   refine ⟨_,rfl, ?_⟩
   replace HO_7:=am_ (Kd.R_below (zr_ HO_7) hb)
   replace HO_8:=am_ (Kd.R_below (zr_ HO_8) hb)
   replace BK1:=am_ (blk_below (zb_ BK1) hb)
   replace BK2:=am_ (blk_below (zb_ BK2) hb)
   replace HB:=am_ (below_step (zl2_ HB GE1 GE2) hb)
   (try clear hb)
   (try clear hb2)
   (try clear hk)
   (try clear hi)
   have p34:0≤(t25:Int):=of_decide_eq_true zq_
   have q34:(t25:Int)<((x8_1.length:Int):Int):=of_decide_eq_true zq_
   obtain ⟨go34,co34,eo34,gb34,gl34,cl34,HG34⟩:=Kd.R_form HO_8.out (by omega)
   (first|cases eo34|(injection eo34 with ea_ en_ ec_;(first|subst ea_|(injection ea_ with ea_;subst ea_));subst ec_;clear en_))
   have GB34:=Aside0.mk gb34
   have GG34:=Aside0.mk HG34
   clear gb34 gl34 HG34
   replace hx26_0:=zv_ hx26_0
   replace hx26_1:=zv_ hx26_1
   replace hx26_2:=zv_ hx26_2
   replace hx26_3:=zv_ hx26_3
   replace hx26_4:=zv_ hx26_4
   replace hx26_5:=zv_ hx26_5
   replace hx26_6:=zv_ hx26_6
   replace hx26_7:=zv_ hx26_7
   replace hx26_8:=zv_ hx26_8
   replace hx26_9:=zv_ hx26_9
   replace hx26_10:=zv_ hx26_10
   replace hx26_11:=zv_ hx26_11
   obtain ⟨ce34,hcl34,hM34,hcc34,hfr34⟩:=Kd.R_elem HO_8.out z31 (t25:Int) p34 q34
   obtain rfl:=k31_openM hM34
   have hx34_8:World.cell? _ ⟨go34,(t25:Int).toNat*12+8,none⟩=some (.int .i64 ((rd_T31 x8_1 t25).f4.f0)):=hcc34 8 _ rfl
   have hx34_9:World.cell? _ ⟨go34,(t25:Int).toNat*12+9,none⟩=some (.int .i64 ((rd_T31 x8_1 t25).f4.f1)):=hcc34 9 _ rfl
   have hx34_10:World.cell? _ ⟨go34,(t25:Int).toNat*12+10,none⟩=some (.int .i64 ((rd_T31 x8_1 t25).f4.f2)):=hcc34 10 _ rfl
   have hf34_8:World.frozen? _ ⟨go34,(t25:Int).toNat*12+8,none⟩=false:=hfr34 8
   have hf34_9:World.frozen? _ ⟨go34,(t25:Int).toNat*12+9,none⟩=false:=hfr34 9
   have hf34_10:World.frozen? _ ⟨go34,(t25:Int).toNat*12+10,none⟩=false:=hfr34 10
   clear hcl34 hcc34 hfr34 hM34
   replace p34:=eq_true p34
   replace q34:=eq_true q34
   obtain ⟨ce48,hcl48,hM48,hcc48,hfr48⟩:=Kd.R_elem HO_8.out z31 (t25:Int) (of_decide_eq_true zq_) (by have h_:(t25:Int)<((x8_1.length:Int):Int):=of_decide_eq_true zq_;first|exact h_|(have e_:=(Kd.R_reads' HO_8.out).1;omega)|simpa using h_)
   obtain rfl:=k31_openM hM48
   have HP48:=(Kd.R_seg HO_8.out (t25:Int) (of_decide_eq_true zq_) (by have h_:(t25:Int)<((x8_1.length:Int):Int):=of_decide_eq_true zq_;first|exact h_|(have e_:=(Kd.R_reads' HO_8.out).1;omega)|simpa using h_) (seg:=[.int .i64 t27, .int .i64 t28, .int .i64 t29]) (j:=8) hcl48 hcc48 (show 11≤12 from by decide) (x':=(⟨(rd_T31 x8_1 t25).f0,(rd_T31 x8_1 t25).f1,(⟨(rd_T31 x8_1 t25).f2.f0,(rd_T31 x8_1 t25).f2.f1,(rd_T31 x8_1 t25).f2.f2⟩:S27),(⟨(rd_T31 x8_1 t25).f3.f0,(rd_T31 x8_1 t25).f3.f1,(rd_T31 x8_1 t25).f3.f2⟩:S27),(⟨t27,t28,t29⟩:S27),(rd_T31 x8_1 t25).f5⟩:S31)) (k31_mkM _ _ _ (⟨(rd_T31 x8_1 t25).f0,(rd_T31 x8_1 t25).f1,(⟨(rd_T31 x8_1 t25).f2.f0,(rd_T31 x8_1 t25).f2.f1,(rd_T31 x8_1 t25).f2.f2⟩:S27),(⟨(rd_T31 x8_1 t25).f3.f0,(rd_T31 x8_1 t25).f3.f1,(rd_T31 x8_1 t25).f3.f2⟩:S27),(⟨t27,t28,t29⟩:S27),(rd_T31 x8_1 t25).f5⟩:S31)) (fun _ hk=>hk)).1
   rw [←Ny30.out] at HP48
   have HQ48:=Aside0.mk HP48
   clear hcl48 hcc48 hfr48 hM48 HP48
   refine hK.out _ _ ⟨(blk_cell BK1.out 0).trans rfl,(blk_cell BK1.out 1).trans rfl,(blk_cell BK1.out 2).trans rfl,HS3_,HS4_,HS5_,HS6_,HS7_,HS8_,HS9_,HS10_,HS11_,HS12_,HS13_,HS14_⟩ (fun hHeld=> ?_)
   clear hK K
   refine no_ (N:=some 45) ?_
   refine pu_ (i:=9) (N:=some 46) (bt_ 12 1023) HT_ ?_
   refine pu_ (i:=10) (N:=some 47) (bt_ 12 2047) HT_ ?_
   refine last_ (i:=11) (N:=none) (bt_ 12 4095) rfl rfl (one_of HT_.out (by kernel_rfl)) (by decide) (fun K hK=> ?_)
   refine skip_ (w1:= ?_) (by rfl) rfl ?_ ?_
   rotate_left
   ·go_simp
    rfl
   refine hK.out _ _ ?_
   clear hK K
   refine done_ (done_of HT_.out (by kernel_rfl)) ?_
   have n0_:Aside0 (Kd.R Kd.string 9 (((w47.setCell ⟨go34,(t25:Int).toNat*12+8,none⟩ (.int .i64 t27)).setCell ⟨go34,(t25:Int).toNat*12+9,none⟩ (.int .i64 t28)).setCell ⟨go34,(t25:Int).toNat*12+10,none⟩ (.int .i64 t29)) w.heap.size (fun _=>True) (.slice (some ad24) t3.length co26) t3):=⟨by (with_reducible repeat (first|apply Kd.R_alloc|apply Kd.R_drewN|apply Kd.R_drew));exact Kd.R_mono (Kd.R_far (p:=⟨go34,(t25:Int).toNat*12+10,none⟩) (Kd.R_far (p:=⟨go34,(t25:Int).toNat*12+9,none⟩) (Kd.R_far (p:=⟨go34,(t25:Int).toNat*12+8,none⟩) (Kd.R_types HO_7.out GG34.out (by decide)) (fun _ hk=>hk.2) (.int .i64 t27)) (fun _ hk=>hk.2) (.int .i64 t28)) (fun _ hk=>hk.2) (.int .i64 t29)) (fun _ hk=>trivial)⟩
   have n1_:Aside0 (Kd.R k31 31 (((w47.setCell ⟨go34,(t25:Int).toNat*12+8,none⟩ (.int .i64 t27)).setCell ⟨go34,(t25:Int).toNat*12+9,none⟩ (.int .i64 t28)).setCell ⟨go34,(t25:Int).toNat*12+10,none⟩ (.int .i64 t29)) w.heap.size (fun _=>True) (.slice (some ⟨go34,0,none⟩) x8_1.length co45) y30):=⟨by (with_reducible repeat (first|apply Kd.R_alloc|apply Kd.R_drewN|apply Kd.R_drew));exact HQ48.out⟩
   have n2_:Aside0 ((((w47.setCell ⟨go34,(t25:Int).toNat*12+8,none⟩ (.int .i64 t27)).setCell ⟨go34,(t25:Int).toNat*12+9,none⟩ (.int .i64 t28)).setCell ⟨go34,(t25:Int).toNat*12+10,none⟩ (.int .i64 t29)).heap[gb1]?=some (.cells #[.int .i64 a2_0, .int .i64 a2_1, .int .i64 a2_2] 27 (0,0))):=⟨by refine zk_ ?_;refine blk_far ?_ (by have h_:=Kd.R_ne HO_8.out BK1.out (by decide);intro e_;exact h_ (by rw [e_];rfl)) _;refine zk_ ?_;refine blk_far ?_ (by have h_:=Kd.R_ne HO_8.out BK1.out (by decide);intro e_;exact h_ (by rw [e_];rfl)) _;refine zk_ ?_;refine blk_far ?_ (by have h_:=Kd.R_ne HO_8.out BK1.out (by decide);intro e_;exact h_ (by rw [e_];rfl)) _;refine zk_ ?_;exact BK1.out⟩
   have n3_:Aside0 ((((w47.setCell ⟨go34,(t25:Int).toNat*12+8,none⟩ (.int .i64 t27)).setCell ⟨go34,(t25:Int).toNat*12+9,none⟩ (.int .i64 t28)).setCell ⟨go34,(t25:Int).toNat*12+10,none⟩ (.int .i64 t29)).heap[gb2]?=some (.cells #[.slice none 0 0, .int .i64 x3001_1] 67 (0,0))):=⟨by refine zk_ ?_;refine blk_far ?_ (by have h_:=Kd.R_ne HO_8.out BK2.out (by decide);intro e_;exact h_ (by rw [e_];rfl)) _;refine zk_ ?_;refine blk_far ?_ (by have h_:=Kd.R_ne HO_8.out BK2.out (by decide);intro e_;exact h_ (by rw [e_];rfl)) _;refine zk_ ?_;refine blk_far ?_ (by have h_:=Kd.R_ne HO_8.out BK2.out (by decide);intro e_;exact h_ (by rw [e_];rfl)) _;refine zk_ ?_;exact BK2.out⟩
   have n4_:Aside0 (Below w.heap.size w (((w47.setCell ⟨go34,(t25:Int).toNat*12+8,none⟩ (.int .i64 t27)).setCell ⟨go34,(t25:Int).toNat*12+9,none⟩ (.int .i64 t28)).setCell ⟨go34,(t25:Int).toNat*12+10,none⟩ (.int .i64 t29))):=⟨by repeat (first|(with_reducible first|exact HB.out|apply below_alloc|apply pw_below_drewN|apply below_drew1|refine below_set ?_ GB34.out|refine below_set ?_ GB34.out|refine below_set ?_ GB34.out|refine below_set ?_ GE1.out|refine below_set ?_ GE2.out)|exact HB.out)⟩
   (try clear HO_7)
   (try clear HO_8)
   (try clear BK1)
   (try clear BK2)
   (try clear HB)
   generalize (((w47.setCell ⟨go34,(t25:Int).toNat*12+8,none⟩ (.int .i64 t27)).setCell ⟨go34,(t25:Int).toNat*12+9,none⟩ (.int .i64 t28)).setCell ⟨go34,(t25:Int).toNat*12+10,none⟩ (.int .i64 t29))=w49 at n0_ n1_ n2_ n3_ n4_ ⊢
   have HO_7:=n0_
   have HO_8:=n1_
   have BK1:=n2_
   have BK2:=n3_
   have HB:=n4_
   clear n0_ n1_ n2_ n3_ n4_
   try go_wp2
   replace HO_7:=am_ (Kd.R_drew HO_7.out)
   replace HO_8:=am_ (Kd.R_drew HO_8.out)
   replace BK1:=am_ (blk_drew BK1.out)
   replace BK2:=am_ (blk_drew BK2.out)
   replace HB:=am_ (below_drew1 HB.out)
   have p31:0≤(t25:Int):=of_decide_eq_true zq_
   have q31:t25<(y30.length:Int):=(by have h_:(t25:Int)<((x8_1.length:Int):Int):=of_decide_eq_true zq_;first|(have e_:=(Kd.R_reads' HO_8.out).1;omega)|simpa only [Ny30.out,List.length_set] using h_)
   obtain ⟨ad31,e31,hx31_0,hx31_1,hx31_2,hx31_3,hx31_4,hx31_5,hx31_6,hx31_7,hx31_8,hx31_9,hx31_10,hx31_11⟩:=at_T31 (Kd.R_reads' HO_8.out).2.2 t25 p31 q31
   obtain rfl:(⟨go34,0,none⟩:Addr)=ad31:=(by injection e31)
   replace hx31_0:=za_ hx31_0
   replace hx31_1:=za_ hx31_1
   replace hx31_2:=za_ hx31_2
   replace hx31_3:=za_ hx31_3
   replace hx31_4:=za_ hx31_4
   replace hx31_5:=za_ hx31_5
   replace hx31_6:=za_ hx31_6
   replace hx31_7:=za_ hx31_7
   replace hx31_8:=za_ hx31_8
   replace hx31_9:=za_ hx31_9
   replace hx31_10:=za_ hx31_10
   replace hx31_11:=za_ hx31_11
   replace p31:=eq_true p31
   replace q31:=eq_true q31
   have p32:0≤(t25:Int):=of_decide_eq_true zq_
   have q32:t25<(y30.length:Int):=(by have h_:(t25:Int)<((x8_1.length:Int):Int):=of_decide_eq_true zq_;first|(have e_:=(Kd.R_reads' HO_8.out).1;omega)|simpa only [Ny30.out,List.length_set] using h_)
   obtain ⟨ad32,e32,hx32_0,hx32_1,hx32_2,hx32_3,hx32_4,hx32_5,hx32_6,hx32_7,hx32_8,hx32_9,hx32_10,hx32_11⟩:=at_T31 (Kd.R_reads' HO_8.out).2.2 t25 p32 q32
   obtain rfl:(⟨go34,0,none⟩:Addr)=ad32:=(by injection e32)
   replace hx32_0:=za_ hx32_0
   replace hx32_1:=za_ hx32_1
   replace hx32_2:=za_ hx32_2
   replace hx32_3:=za_ hx32_3
   replace hx32_4:=za_ hx32_4
   replace hx32_5:=za_ hx32_5
   replace hx32_6:=za_ hx32_6
   replace hx32_7:=za_ hx32_7
   replace hx32_8:=za_ hx32_8
   replace hx32_9:=za_ hx32_9
   replace hx32_10:=za_ hx32_10
   replace hx32_11:=za_ hx32_11
   replace p32:=eq_true p32
   replace q32:=eq_true q32
   refine start_ (n:=12) (S:=fun w'=>w'.cell? ⟨go34,(t25).toNat*12,none⟩=some (.string ((rd_T31 y30 t25).f0))∧w'.cell? ⟨go34,(t25).toNat*12+1,none⟩=some (.string ((rd_T31 y30 t25).f1))∧w'.cell? ⟨go34,(t25).toNat*12+2,none⟩=some (.int .i64 ((rd_T31 y30 t25).f2.f0))∧w'.cell? ⟨go34,(t25).toNat*12+3,none⟩=some (.int .i64 ((rd_T31 y30 t25).f2.f1))∧w'.cell? ⟨go34,(t25).toNat*12+4,none⟩=some (.int .i64 ((rd_T31 y30 t25).f2.f2))∧w'.cell? ⟨go34,(t25).toNat*12+5,none⟩=some (.int .i64 ((rd_T31 y30 t25).f3.f0))∧w'.cell? ⟨go34,(t25).toNat*12+6,none⟩=some (.int .i64 ((rd_T31 y30 t25).f3.f1))∧w'.cell? ⟨go34,(t25).toNat*12+7,none⟩=some (.int .i64 ((rd_T31 y30 t25).f3.f2))∧w'.cell? ⟨go34,(t25).toNat*12+8,none⟩=some (.int .i64 ((rd_T31 y30 t25).f4.f0))∧w'.cell? ⟨go34,(t25).toNat*12+9,none⟩=some (.int .i64 ((rd_T31 y30 t25).f4.f1))∧w'.cell? ⟨go34,(t25).toNat*12+10,none⟩=some (.int .i64 ((rd_T31 y30 t25).f4.f2))∧w'.cell? ⟨go34,(t25).toNat*12+11,none⟩=some (.int .i64 ((rd_T31 y30 t25).f5))∧w'.cell? ⟨go34,(t25).toNat*12,none⟩=some (.string ((rd_T31 y30 t25).f0))∧w'.cell? ⟨go34,(t25).toNat*12+1,none⟩=some (.string ((rd_T31 y30 t25).f1))∧w'.cell? ⟨go34,(t25).toNat*12+2,none⟩=some (.int .i64 ((rd_T31 y30 t25).f2.f0))∧w'.cell? ⟨go34,(t25).toNat*12+3,none⟩=some (.int .i64 ((rd_T31 y30 t25).f2.f1))∧w'.cell? ⟨go34,(t25).toNat*12+4,none⟩=some (.int .i64 ((rd_T31 y30 t25).f2.f2))∧w'.cell? ⟨go34,(t25).toNat*12+5,none⟩=some (.int .i64 ((rd_T31 y30 t25).f3.f0))∧w'.cell? ⟨go34,(t25).toNat*12+6,none⟩=some (.int .i64 ((rd_T31 y30 t25).f3.f1))∧w'.cell? ⟨go34,(t25).toNat*12+7,none⟩=some (.int .i64 ((rd_T31 y30 t25).f3.f2))∧w'.cell? ⟨go34,(t25).toNat*12+8,none⟩=some (.int .i64 ((rd_T31 y30 t25).f4.f0))∧w'.cell? ⟨go34,(t25).toNat*12+9,none⟩=some (.int .i64 ((rd_T31 y30 t25).f4.f1))∧w'.cell? ⟨go34,(t25).toNat*12+10,none⟩=some (.int .i64 ((rd_T31 y30 t25).f4.f2))∧w'.cell? ⟨go34,(t25).toNat*12+11,none⟩=some (.int .i64 ((rd_T31 y30 t25).f5))) (ds:=[]) (bt_ 12 0) (by kernel_rfl) rfl rfl ⟨hx31_0,hx31_1,hx31_2,hx31_3,hx31_4,hx31_5,hx31_6,hx31_7,hx31_8,hx31_9,hx31_10,hx31_11,hx32_0,hx32_1,hx32_2,hx32_3,hx32_4,hx32_5,hx32_6,hx32_7,hx32_8,hx32_9,hx32_10,hx32_11⟩ (fun hHeld=> ?_);refine with_tabW r10_Admit.tab12 r10_Admit.bits12 (fun HT_ HW_=> ?_)
   generalize w49.drew=w50 at HO_7 HO_8 BK1 BK2 HB hx31_0 hx31_1 hx31_10 hx31_11 hx31_2 hx31_3 hx31_4 hx31_5 hx31_6 hx31_7 hx31_8 hx31_9 hx32_0 hx32_1 hx32_10 hx32_11 hx32_2 hx32_3 hx32_4 hx32_5 hx32_6 hx32_7 hx32_8 hx32_9 hHeld ⊢
   refine pu_ (i:=0) (N:=some 48) (bt_ 12 1) HT_ ?_
   refine pu_ (i:=1) (N:=some 49) (bt_ 12 3) HT_ ?_
   refine pu_ (i:=2) (N:=some 50) (bt_ 12 7) HT_ ?_
   refine pu_ (i:=3) (N:=some 51) (bt_ 12 15) HT_ ?_
   refine pu_ (i:=5) (N:=some 53) (bt_ 12 47) HT_ ?_
   refine pu_ (i:=6) (N:=some 54) (bt_ 12 111) HT_ ?_
   refine pu_ (i:=7) (N:=some 55) (bt_ 12 239) HT_ ?_
   refine pu_ (i:=8) (N:=some 56) (bt_ 12 495) HT_ ?_
   refine tk_ (i:=4) (N:=some 52) (bt_ 12 511) HT_ HW_ hHeld ?_
   refine tk_ (i:=9) (N:=some 57) (bt_ 12 1023) HT_ HW_ hHeld ?_
   refine on_ (i:=10) (N:=some 58) (bt_ 12 2047) HT_ (fun K hK=> ?_)
   refine gs_ Try.func34 #[.agg #[.int .i64 ((rd_T31 y30 t25).f4.f0), .int .i64 ((rd_T31 y30 t25).f4.f1), .int .i64 ((rd_T31 y30 t25).f4.f2)], .agg #[.int .i64 ((rd_T31 y30 t25).f2.f0), .int .i64 ((rd_T31 y30 t25).f2.f1), .int .i64 ((rd_T31 y30 t25).f2.f2)]] ?_
   with_reducible refine (r10_Le.calls ((rd_T31 y30 t25).f4.f0) ((rd_T31 y30 t25).f4.f1) ((rd_T31 y30 t25).f4.f2) ((rd_T31 y30 t25).f2.f0) ((rd_T31 y30 t25).f2.f1) ((rd_T31 y30 t25).f2.f2) false _ A35.out).mono ?_
   rintro e w51 ⟨rfl,hb⟩
   have HS0_:=zh_ hb (hHeld.1)
   have HS1_:=zh_ hb (hHeld.2.1)
   have HS2_:=zh_ hb (hHeld.2.2.1)
   have HS3_:=zh_ hb (hHeld.2.2.2.1)
   have HS4_:=zh_ hb (hHeld.2.2.2.2.1)
   have HS5_:=zh_ hb (hHeld.2.2.2.2.2.1)
   have HS6_:=zh_ hb (hHeld.2.2.2.2.2.2.1)
   have HS7_:=zh_ hb (hHeld.2.2.2.2.2.2.2.1)
   have HS8_:=zh_ hb (hHeld.2.2.2.2.2.2.2.2.1)
   have HS9_:=zh_ hb (hHeld.2.2.2.2.2.2.2.2.2.1)
   have HS10_:=zh_ hb (hHeld.2.2.2.2.2.2.2.2.2.2.1)
   have HS11_:=zh_ hb (hHeld.2.2.2.2.2.2.2.2.2.2.2.1)
   have HS12_:=zh_ hb (hHeld.2.2.2.2.2.2.2.2.2.2.2.2.1)
   have HS13_:=zh_ hb (hHeld.2.2.2.2.2.2.2.2.2.2.2.2.2.1)
   have HS14_:=zh_ hb (hHeld.2.2.2.2.2.2.2.2.2.2.2.2.2.2.1)
   have HS15_:=zh_ hb (hHeld.2.2.2.2.2.2.2.2.2.2.2.2.2.2.2.1)
   have HS16_:=zh_ hb (hHeld.2.2.2.2.2.2.2.2.2.2.2.2.2.2.2.2.1)
   have HS17_:=zh_ hb (hHeld.2.2.2.2.2.2.2.2.2.2.2.2.2.2.2.2.2.1)
   have HS18_:=zh_ hb (hHeld.2.2.2.2.2.2.2.2.2.2.2.2.2.2.2.2.2.2.1)
   have HS19_:=zh_ hb (hHeld.2.2.2.2.2.2.2.2.2.2.2.2.2.2.2.2.2.2.2.1)
   have HS20_:=zh_ hb (hHeld.2.2.2.2.2.2.2.2.2.2.2.2.2.2.2.2.2.2.2.2.1)
   have HS21_:=zh_ hb (hHeld.2.2.2.2.2.2.2.2.2.2.2.2.2.2.2.2.2.2.2.2.2.1)
   have HS22_:=zh_ hb (hHeld.2.2.2.2.2.2.2.2.2.2.2.2.2.2.2.2.2.2.2.2.2.2.1)
   have HS23_:=zh_ hb (hHeld.2.2.2.2.2.2.2.2.2.2.2.2.2.2.2.2.2.2.2.2.2.2.2)
   refine ⟨_,rfl, ?_⟩
   replace HO_7:=am_ (Kd.R_below (zr_ HO_7) hb)
   replace HO_8:=am_ (Kd.R_below (zr_ HO_8) hb)
   replace BK1:=am_ (blk_below (zb_ BK1) hb)
   replace BK2:=am_ (blk_below (zb_ BK2) hb)
   replace HB:=am_ (below_step (zl2_ HB GE1 GE2) hb)
   (try clear hb)
   (try clear hb2)
   (try clear hk)
   (try clear hi)
   refine hK.out _ _ ⟨HS0_,HS1_,HS2_,HS3_,HS4_,HS5_,HS6_,HS7_,HS8_,HS9_,HS10_,HS11_,HS12_,HS13_,HS14_,HS15_,HS16_,HS17_,HS18_,HS19_,HS20_,HS21_,HS22_,HS23_⟩ (fun hHeld=> ?_)
   clear hK K
   refine no_ (N:=some 58) ?_
   refine pu_ (i:=11) (N:=some 59) (bt_ 12 4095) HT_ ?_
   refine done_ (done_of HT_.out (by kernel_rfl)) ?_
   try go_wp2_with (first|((with_reducible refine gate_callee (f:=113) rfl ?_);refine gl_ (some 60) Try.func113 #[.int .i64 12] ?_;(with_reducible refine (r10_no.calls 12 t34 t37 _ A44.out).mono ?_);rintro e w52 ⟨v35,rfl,ho0,hb⟩;refine ⟨_,rfl, ?_⟩;replace HO_7:=am_ (Kd.R_below (zr_ HO_7) hb);have HO36:=am_ (Kd.R_lower (Kd.R_new' ho0 (Kd.R_lt (zr_ HO_8))) (below_size (zl2_ HB GE1 GE2)));replace HO_8:=am_ (Kd.R_elder' (zr_ HO_8) (Kd.R_base ho0) hb);replace BK1:=am_ (blk_below (zb_ BK1) hb);replace BK2:=am_ (blk_below (zb_ BK2) hb);replace HB:=am_ (below_step (zl2_ HB GE1 GE2) hb);(try clear hb);(try clear hb2);(try clear hk);(try clear hi);(try clear ho0);obtain ⟨Ao53,co53,eo53⟩:=Kd.R_slice HO36.out;subst eo53;obtain ⟨hcz55_0,hcz55_1⟩:=x2_ BK2;have hfz55_0:=blk_frozen BK2.out 0;have hfz55_1:=blk_frozen BK2.out 1))
   refine bodyPost_ret (results_cell_row rfl _ _ gb2 67 #[.slice Ao53 t34.length co53, .int .i64 t37] (0,0) _ rfl (zw_ BK2) Try.underlying67 rfl (by kernel_rfl)) rfl ?_
   exact ⟨_,by first|rfl|(simp [errW_none,errW_some]<;>rfl)|(simp [*,errW_none,errW_some]<;>rfl),zy_ HO36 BK2,zl2_ HB GE1 GE2⟩
end Go.Proofs.Ytcgefpklljclgaa.Print
