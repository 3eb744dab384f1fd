/- EffectDone: a part -/
import Derived.Test.YtcgefpklljclgaaBEffectDone0
import Derived.Test.YtcgefpklljclgaaBEffectDone1
namespace Go.Proofs.Ytcgefpklljclgaa.Print
open Go.RowKit Go.Proofs.YtcgefpklljclgaaW.PrintWords Go.Proofs.YtcgefpklljclgaaW.PrintLast Go.Proofs.YtcgefpklljclgaaW.PrintMore
attribute [local go_sem] max2_int min2_int max_two min_two max_three min_three max_four min_four
set_option linter.unusedVariables false
set_option linter.unusedSimpArgs false

def r10_Add.f (a0_0:Int) (a0_1:Int) (a0_2:Int) (a1_0:Int) (a1_1:Int) (a1_2:Int):Option (Int×Int×Int):=some (wrap64 (a0_0+a1_0),wrap64 (a0_1+a1_1),wrap64 (a0_2+a1_2))
set_option maxHeartbeats 8000000 in
set_option maxRecDepth 100000 in
theorem r10_Add.calls (a0_0:Int) (a0_1:Int) (a0_2:Int) (a1_0:Int) (a1_1:Int) (a1_2:Int) (r1:Int) (r2:Int) (r3:Int) (w:World) (h:r10_Add.f a0_0 a0_1 a0_2 a1_0 a1_1 a1_2=some (r1,r2,r3)):
  Calls Try.prog 63 #[.agg #[.int .i64 a0_0, .int .i64 a0_1, .int .i64 a0_2], .agg #[.int .i64 a1_0, .int .i64 a1_1, .int .i64 a1_2]] w fun e w'=>e= .returned (.agg #[.int .i64 r1, .int .i64 r2, .int .i64 r3])∧Below w.heap.size w w':=by
 have hu27:=Try.underlying27
 have HB:=am_ (Below.refl w.heap.size w)
 have H:(some (wrap64 (a0_0+a1_0),wrap64 (a0_1+a1_1),wrap64 (a0_2+a1_2)))=some (r1,r2,r3):=h
 clear h
 simp only [Option.some.injEq,Prod.mk.injEq] at H
 obtain ⟨rfl,rfl,rfl⟩:=H
 go_enter Try.func63,Try.ntmps63
 go_wp2_with (first|((with_reducible refine gate_dst (N:=2) rfl ?_);refine bx_ (N:=2) (cs:=#[.int .i64 a0_0, .int .i64 a0_1, .int .i64 a0_2]) (t:=27) ?_;intro gb1 hg w3 hbox hb;have BK1:=am_ (hbox);have GW1:=am_ ((zg0_ HB hg:w.heap.size≤gb1));have GE1:=am_ ((zg0_ HB hg:w.heap.size≤gb1));replace HB:=am_ (below_step (zl0_ HB) hb);clear hb hbox hg)|((with_reducible refine gate_dst (N:=3) rfl ?_);refine bx_ (N:=3) (cs:=#[.int .i64 a1_0, .int .i64 a1_1, .int .i64 a1_2]) (t:=27) ?_;intro gb2 hg w4 hbox hb;have BK2:=am_ (hbox);have GW2:=am_ ((zg1_ HB GE1 hg:w.heap.size≤gb2));have GE2:=am_ ((zg1_ HB GE1 hg:w.heap.size≤gb2));replace HB:=am_ (below_step (zl1_ HB GE1) hb);have NB1_2:=am_ ((zn_ BK1 hg:gb1≠gb2));have NB2_1:=am_ ((zm_ BK1 hg:gb2≠gb1));replace BK1:=am_ (blk_below (zb_ BK1) hb);clear hb hbox hg)|((with_reducible refine gate_dst (N:=4) rfl ?_);refine bx_ (N:=4) (cs:=#[.int .i64 0, .int .i64 0, .int .i64 0]) (t:=27) ?_;intro gb3 hg w5 hbox hb;have BK3:=am_ (hbox);have GW3:=am_ ((zg2_ HB GE1 GE2 hg:w.heap.size≤gb3));have GE3:=am_ ((zg2_ HB GE1 GE2 hg:w.heap.size≤gb3));replace HB:=am_ (below_step (zl2_ HB GE1 GE2) hb);have NB1_3:=am_ ((zn_ BK1 hg:gb1≠gb3));have NB3_1:=am_ ((zm_ BK1 hg:gb3≠gb1));replace BK1:=am_ (blk_below (zb_ BK1) hb);have NB2_3:=am_ ((zn_ BK2 hg:gb2≠gb3));have NB3_2:=am_ ((zm_ BK2 hg:gb3≠gb2));replace BK2:=am_ (blk_below (zb_ BK2) hb);clear hb hbox hg;have hnb6:=NB1_2.out;have hnc6:=NB2_1.out;have hnb7:=NB1_3.out;have hnc7:=NB3_1.out;obtain ⟨hcz8_0,hcz8_1,hcz8_2,hfz8_0,hfz8_1,hfz8_2⟩:=y3_ BK1;have hnb9:=NB2_3.out;have hnc9:=NB3_2.out;obtain ⟨hcz10_0,hcz10_1,hcz10_2,hfz10_0,hfz10_1,hfz10_2⟩:=y3_ BK2;obtain ⟨hcz11_0,hcz11_1,hcz11_2⟩:=x3_ BK3;have hfz11_0:=blk_frozen BK3.out 0;have hfz11_1:=blk_frozen BK3.out 1;have hfz11_2:=blk_frozen BK3.out 2))
 refine bodyPost_ret (results_cell_row rfl _ _ gb3 27 #[.int .i64 (wrap64 (a0_0+a1_0)), .int .i64 (wrap64 (a0_1+a1_1)), .int .i64 (wrap64 (a0_2+a1_2))] (0,0) _ rfl (zw_ BK3) Try.underlying27 rfl (by kernel_rfl)) rfl ?_
 exact ⟨by first|rfl|(simp [errW_none,errW_some]<;>rfl)|(simp [*,errW_none,errW_some]<;>rfl),zl3_ HB GE1 GE2 GE3⟩

def r10_Up.l0:Nat→List (S31)→List ByteArray→Int→Option (List ByteArray)
 |0,_,_,_=>none
 |k+1,x0,x5,x6=>if x6≥0 then (if (x5.length:Int)≤(x0.length:Int) then (if 0≤x6 then (if x6<(x0.length:Int) then (if x5.length<8796093022208 then ((r10_Find.f k x0 ((rd_T31 x0 x6).f1)).bind fun t7=>(r10_Up.l0 k x0 (x5++ [(rd_T31 x0 x6).f0]) t7)) else (none)) else (none)) else (none)) else (some x5)) else (some x5)
def r10_Up.f (k:Nat) (l0:List (S31)) (a1:ByteArray):Option (List ByteArray):=(r10_Find.f k l0 a1).bind fun t1=>(r10_Up.l0 k l0 ([]:List ByteArray) t1)
theorem r10_Up.mono_l: ∀k,(∀y0 y1 y2,LeO (r10_Up.l0 k y0 y1 y2) (r10_Up.l0 (k+1) y0 y1 y2))
 |0=>fun _ _ _ r h=>by simp [r10_Up.l0] at h
 |k+1=>by
  have ih0:=r10_Up.mono_l k
  intro y0 y1 y2
  unfold r10_Up.l0
  repeat' first
  |(with_reducible exact ih0 _ _ _)
  |(with_reducible exact r10_Find.mono _ _ _)
  |(with_reducible exact LeO.refl _)
  |(with_reducible exact LeO.none _)
  |(with_reducible refine LeO.ite ?_ ?_)
  |(with_reducible refine LeO.bind ?_ (fun _=> ?_))
  |exact ih0 _ _ _
  |exact r10_Find.mono _ _ _
  |exact LeO.none _
  |refine LeO.ite ?_ ?_
  |refine LeO.bind ?_ (fun _=> ?_)
theorem r10_Up.mono: ∀a0 a1 k,LeO (r10_Up.f k a0 a1) (r10_Up.f (k+1) a0 a1):=by
 intro a0 a1 k
 have ih0:=r10_Up.mono_l k
 unfold r10_Up.f
 repeat' first
  |(with_reducible exact ih0 _ _ _)
  |(with_reducible exact r10_Find.mono _ _ _)
  |(with_reducible exact LeO.refl _)
  |(with_reducible exact LeO.none _)
  |(with_reducible refine LeO.ite ?_ ?_)
  |(with_reducible refine LeO.bind ?_ (fun _=> ?_))
  |exact ih0 _ _ _
  |exact r10_Find.mono _ _ _
  |exact LeO.none _
  |refine LeO.ite ?_ ?_
  |refine LeO.bind ?_ (fun _=> ?_)
set_option maxHeartbeats 8000000 in
set_option maxRecDepth 100000 in
theorem r10_Up.calls (k:Nat) (A0:Option Addr) (c0:Nat) (l0:List (S31)) (a1:ByteArray) (r:List ByteArray) (w:World) (hr0:Kd.C k31 w A0 l0.length l0) (hc0:l0.length≤c0) (h:r10_Up.f k l0 a1=some r):
  Calls Try.prog 106 #[.slice A0 l0.length c0, .string a1] w fun e w'=> ∃v0_:Value,e= .returned (v0_)∧Kd.R Kd.string 9 w' w.heap.size (fun _=>True) v0_ r∧Below w.heap.size w w':=by
 have HR0:=Aside0.mk hr0
 have HC0:=Aside0.mk hc0
 clear hr0 hc0
 have HB:=am_ (Below.refl w.heap.size w)
 have H:((r10_Find.f k l0 a1).bind fun t1=>(r10_Up.l0 k l0 ([]:List ByteArray) t1))=some r:=h
 clear h
 replace H:=Option.bind_eq_some_iff.mp H
 obtain ⟨t1,A30,H⟩:=H
 try dsimp only at H
 have A3:=Aside0.mk A30
 clear A30
 have H':=Aside0.mk H
 clear H
 go_enter Try.func106,Try.ntmps106
 go_wp2_with (first|((with_reducible refine gate_callee (f:=50) rfl ?_);refine gl_ (some 9) Try.func50 #[.slice A0 l0.length c0, .string a1] ?_;(with_reducible refine (r10_Find.calls k _ _ l0 a1 t1 _ ?side1 ?side2 A3.out).mono ?_);(case side1=>repeat (first|exact HR0.out|(with_reducible refine Kd.C_alloc ?_ _)|(with_reducible refine Kd.C_drewN ?_ _)|(with_reducible refine Kd.C_drew ?_)));(case side2=>exact HC0.out);rintro e w' ⟨rfl,⟨nd,rfl⟩⟩;refine ⟨_,rfl, ?_⟩))
 go_loopg [5,6] k (fun kq v5 v6 w'=> ∃(x5_1:List ByteArray) (x6_1:Int),v6= .int .i64 x6_1∧Aside0 (r10_Up.l0 kq l0 x5_1 x6_1=some r)∧Aside0 (kq≤k)∧Aside0 (Kd.R Kd.string 9 w' w.heap.size (fun _=>True) v5 x5_1)∧Aside0 (Below w.heap.size w w'))
 case atStart=>exact ⟨(([]:List ByteArray)),(t1),(by first|rfl|(simp;done)|(simp [*];done)),H',⟨Nat.le_refl _⟩,⟨by first|exact Kd.R_nil _ _ _ _ _|exact Kd.N_nil _ _ _ _ _|exact Kd.V_nil _ _ _ _ _|exact Kd.Q_nil _ _ _ _ _|exact Kd.S_nil _ _ _ _ _⟩,⟨zl0_ HB⟩⟩
 case round=>
  clear H'
  try clear c1
  try clear p2
  obtain ⟨x5_1,x6_1,rfl,HA,HK1,HO_5,HB⟩:=hrel
  cases gk with
  |zero=>exact absurd HA.out (by simp [r10_Up.l0])
  |succ k1=>
   have H:=HA.out
   clear HA
   simp only [r10_Up.l0] at H
   by_cases c4:x6_1≥0
   rotate_left
   ·rw [if_neg c4] at H
    have c4b0:decide (0≤x6_1)=false:=decide_eq_false c4
    clear c4
    obtain rfl:=Option.some.inj H
    go_wp2
    go_ret
    exact ⟨_,by first|rfl|(simp [errW_none,errW_some]<;>rfl)|(simp [*,errW_none,errW_some]<;>rfl),by (with_reducible repeat (first|apply Kd.R_alloc|apply Kd.R_drewN|apply Kd.R_drew));exact HO_5.out,zl0_ HB⟩

   rw [if_pos c4] at H
   have c4b0:decide (0≤x6_1)=true:=decide_eq_true c4
   clear c4
   by_cases c5:(x5_1.length:Int)≤(l0.length:Int)
   rotate_left
   ·rw [if_neg c5] at H
    have c5b0:decide ((x5_1.length:Int)≤(l0.length:Int))=false:=decide_eq_false c5
    have c5b1:decide (x5_1.length≤l0.length)=false:=decide_eq_false (fun h=>c5 (Int.ofNat_le.mpr h))
    clear c5
    obtain rfl:=Option.some.inj H
    obtain ⟨Ao12,co12,eo12⟩:=Kd.R_slice HO_5.out
    subst eo12
    go_wp2
    go_ret
    exact ⟨_,by first|rfl|(simp [errW_none,errW_some]<;>rfl)|(simp [*,errW_none,errW_some]<;>rfl),by (with_reducible repeat (first|apply Kd.R_alloc|apply Kd.R_drewN|apply Kd.R_drew));exact HO_5.out,zl0_ HB⟩
   rw [if_pos c5] at H
   have c5b0:decide ((x5_1.length:Int)≤(l0.length:Int))=true:=decide_eq_true c5
   have c5b1:decide (x5_1.length≤l0.length)=true:=decide_eq_true (Int.ofNat_le.mp c5)
   clear c5
   by_cases c6:0≤x6_1
   rotate_left
   ·rw [if_neg c6] at H
    exact absurd H (by simp)
   rw [if_pos c6] at H
   have c6b0:decide (0≤x6_1)=true:=decide_eq_true c6
   clear c6
   by_cases c7:x6_1<(l0.length:Int)
   rotate_left
   ·rw [if_neg c7] at H
    exact absurd H (by simp)
   rw [if_pos c7] at H
   have c7b0:decide (x6_1<(l0.length:Int))=true:=decide_eq_true c7
   clear c7
   by_cases c8:x5_1.length<8796093022208
   rotate_left
   ·rw [if_neg c8] at H
    exact absurd H (by simp)
   rw [if_pos c8] at H
   have LMc8:=Aside0.mk c8
   clear c8
   obtain ⟨y3,hy3⟩: ∃y_:List ByteArray,y_=(x5_1++ [(rd_T31 l0 x6_1).f0]):=⟨_,rfl⟩
   replace H:((r10_Find.f k1 l0 ((rd_T31 l0 x6_1).f1)).bind fun t7=>(r10_Up.l0 k1 l0 y3 t7))=some r:=by first|(rw [hy3];with_reducible exact H)|(have H2_:=(Option.bind_some _ _).symm.trans H;rw [hy3];with_reducible exact H2_)|(have H2_:=(Option.bind_some _ _).symm.trans H;with_reducible exact H2_)|with_reducible exact H|(rw [hy3];exact H)|exact H
   have Ny3:=Aside0.mk hy3
   clear hy3
   replace H:=Option.bind_eq_some_iff.mp H
   obtain ⟨t7,A90,H⟩:=H
   try dsimp only at H
   have A9:=Aside0.mk A90
   clear A90
   have H':=Aside0.mk H
   clear H
   obtain ⟨Ao10,co10,eo10⟩:=Kd.R_slice HO_5.out
   subst eo10
   have p2:0≤(x6_1:Int):=of_decide_eq_true zq_
   have q2:x6_1<(l0.length:Int):=of_decide_eq_true zq_
   obtain ⟨ad2,e2,hx2_0,hx2_1,hx2_2,hx2_3,hx2_4,hx2_5,hx2_6,hx2_7,hx2_8,hx2_9,hx2_10,hx2_11⟩:=at_T31 HR0.out x6_1 p2 q2
   cases e2
   replace hx2_0:=zx_ HB hx2_0
   replace hx2_1:=zx_ HB hx2_1
   replace hx2_2:=zx_ HB hx2_2
   replace hx2_3:=zx_ HB hx2_3
   replace hx2_4:=zx_ HB hx2_4
   replace hx2_5:=zx_ HB hx2_5
   replace hx2_6:=zx_ HB hx2_6
   replace hx2_7:=zx_ HB hx2_7
   replace hx2_8:=zx_ HB hx2_8
   replace hx2_9:=zx_ HB hx2_9
   replace hx2_10:=zx_ HB hx2_10
   replace hx2_11:=zx_ HB hx2_11
   replace p2:=eq_true p2
   replace q2:=eq_true q2
   go_wp2_with (first|((with_reducible refine gate_builtin (b:= .append) (xs:=#[.tmp 26, .tmp 32]) rfl ?_);(try (refine gate_guard (by rfl) ?_;dsimp only));at_builtin;refine Kd.R_append Kd.string (w0:=w) w.heap.size rfl (.tmp 26) (.tmp 32) 74 9 (.string ⟨#[]⟩) 16 rfl Try.underlying74 info9 rfl (by decide) (by omega) (.slice Ao10 x5_1.length co10) x5_1 ((rd_T31 l0 x6_1).f0) [.string ((rd_T31 l0 x6_1).f0)] (fun _=>True) (fun _=>False) rfl rfl ?aP (fun _ hk=>hk.elim) ?aF ?aO ?aB ?aS ?aL ?_;(case aP=>exact rfl);(case aB=>exact (zl0_ HB));(case aF=>exact (fun _ _=>trivial));(case aO=>exact (zr_ HO_5));(case aS=>exact (below_size (zl0_ HB)));(case aL=>have:=LMc8.out;omega);intro v4 w11 ho hb hg hat;rw [←Ny3.out] at ho;have n0_:=am_ (hb);have n1_:=am_ (ho);clear HB;clear HO_5;have HB:=n0_;have HO5:=n1_;clear n0_ n1_;clear ho hb hg hat;have p6:0≤(x6_1:Int):=of_decide_eq_true zq_;have q6:x6_1<(l0.length:Int):=of_decide_eq_true zq_;obtain ⟨ad6,e6,hx6_0,hx6_1,hx6_2,hx6_3,hx6_4,hx6_5,hx6_6,hx6_7,hx6_8,hx6_9,hx6_10,hx6_11⟩:=at_T31 HR0.out x6_1 p6 q6;obtain rfl:ad2=ad6:=(by injection e6);replace hx6_0:=zx_ HB hx6_0;replace hx6_1:=zx_ HB hx6_1;replace hx6_2:=zx_ HB hx6_2;replace hx6_3:=zx_ HB hx6_3;replace hx6_4:=zx_ HB hx6_4;replace hx6_5:=zx_ HB hx6_5;replace hx6_6:=zx_ HB hx6_6;replace hx6_7:=zx_ HB hx6_7;replace hx6_8:=zx_ HB hx6_8;replace hx6_9:=zx_ HB hx6_9;replace hx6_10:=zx_ HB hx6_10;replace hx6_11:=zx_ HB hx6_11;replace p6:=eq_true p6;replace q6:=eq_true q6)|((with_reducible refine gate_callee (f:=50) rfl ?_);refine gl_ (some 25) Try.func50 #[.slice (some ad2) l0.length c0, .string ((rd_T31 l0 x6_1).f1)] ?_;(with_reducible refine (r10_Find.calls k1 _ _ l0 ((rd_T31 l0 x6_1).f1) t7 _ ?side1 ?side2 A9.out).mono ?_);(case side1=>exact zc_ (Kd.C_below HR0.out HB.out));(case side2=>exact HC0.out);rintro e w' ⟨rfl,⟨nd,rfl⟩⟩;refine ⟨_,rfl, ?_⟩))
   go_roundg k1
   case measure=>have:=HK1.out;omega
   case rel=>exact ⟨(y3),(t7),(by first|rfl|(simp;done)|(simp [*];done)),H',⟨by have:=HK1.out;omega⟩,⟨by (with_reducible repeat (first|apply Kd.R_alloc|apply Kd.R_drewN|apply Kd.R_drew));exact HO5.out⟩,⟨zl0_ HB⟩⟩
def r10_in.l0:Nat→List ByteArray→ByteArray→Int→Option (Bool)
 |0,_,_,_=>none
 |k+1,x0,x1,x5=>if x5<(x0.length:Int) then (if 0≤x5 then (if (rdOf ByteArray.empty x0 x5).toList=x1.toList then (some true) else (r10_in.l0 k x0 x1 (wrap64 (x5+1)))) else (none)) else (some false)
def r10_in.f (k:Nat) (l0:List ByteArray) (a1:ByteArray):Option (Bool):=r10_in.l0 k l0 a1 0
theorem r10_in.mono_l: ∀k,(∀y0 y1 y2,LeO (r10_in.l0 k y0 y1 y2) (r10_in.l0 (k+1) y0 y1 y2))
 |0=>fun _ _ _ r h=>by simp [r10_in.l0] at h
 |k+1=>by
  have ih0:=r10_in.mono_l k
  intro y0 y1 y2
  unfold r10_in.l0
  repeat' first
  |(with_reducible exact ih0 _ _ _)
  |(with_reducible exact LeO.refl _)
  |(with_reducible exact LeO.none _)
  |(with_reducible refine LeO.ite ?_ ?_)
  |(with_reducible refine LeO.bind ?_ (fun _=> ?_))
  |exact ih0 _ _ _
  |exact LeO.none _
  |refine LeO.ite ?_ ?_
  |refine LeO.bind ?_ (fun _=> ?_)
theorem r10_in.mono: ∀a0 a1 k,LeO (r10_in.f k a0 a1) (r10_in.f (k+1) a0 a1):=by
 intro a0 a1 k
 have ih0:=r10_in.mono_l k
 unfold r10_in.f
 repeat' first
  |(with_reducible exact ih0 _ _ _)
  |(with_reducible exact LeO.refl _)
  |(with_reducible exact LeO.none _)
  |(with_reducible refine LeO.ite ?_ ?_)
  |(with_reducible refine LeO.bind ?_ (fun _=> ?_))
  |exact ih0 _ _ _
  |exact LeO.none _
  |refine LeO.ite ?_ ?_
  |refine LeO.bind ?_ (fun _=> ?_)
set_option maxHeartbeats 8000000 in
set_option maxRecDepth 100000 in
theorem r10_in.calls (k:Nat) (A0:Option Addr) (c0:Nat) (l0:List ByteArray) (a1:ByteArray) (r:Bool) (w:World) (hr0:Kd.C Kd.string w A0 l0.length l0) (hc0:l0.length≤c0) (h:r10_in.f k l0 a1=some r):
  Calls Try.prog 136 #[.slice A0 l0.length c0, .string a1] w fun e w'=>e= .returned (.bool r)∧Drawn0 w w':=by
 have HR0:=Aside0.mk hr0
 have HC0:=Aside0.mk hc0
 clear hr0 hc0
 have H:(r10_in.l0 k l0 a1 0)=some r:=h
 clear h
 have H':=Aside0.mk H
 clear H
 go_enter Try.func136,Try.ntmps136
 go_wp2
 go_loopg [5] k (fun kq v5 w'=> ∃(x5_1:Int),v5= .int .i64 x5_1∧Aside0 (r10_in.l0 kq l0 a1 x5_1=some r)∧Aside0 (kq≤k)∧Drawn0 w w')
 case atStart=>exact ⟨(0),(by first|rfl|(simp;done)|(simp [*];done)),H',⟨Nat.le_refl _⟩,by repeat (first|exact Drawn0.refl _|apply Drawn0.step)⟩
 case round=>
  clear H'
  try clear c1
  try clear p2
  obtain ⟨x5_1,rfl,HA,HK1,⟨m1,rfl⟩⟩:=hrel
  cases gk with
  |zero=>exact absurd HA.out (by simp [r10_in.l0])
  |succ k1=>
   have H:=HA.out
   clear HA
   simp only [r10_in.l0] at H
   by_cases c3:x5_1<(l0.length:Int)
   rotate_left
   ·rw [if_neg c3] at H
    have c3b0:decide (x5_1<(l0.length:Int))=false:=decide_eq_false c3
    clear c3
    obtain rfl:=Option.some.inj H
    go_wp2
    go_ret
    exact ⟨by first|rfl|(simp;done)|(simp [*];done),by repeat (first|exact Drawn0.refl _|apply Drawn0.step)⟩

   rw [if_pos c3] at H
   have c3b0:decide (x5_1<(l0.length:Int))=true:=decide_eq_true c3
   clear c3
   by_cases c4:0≤x5_1
   rotate_left
   ·rw [if_neg c4] at H
    exact absurd H (by simp)
   rw [if_pos c4] at H
   have c4b0:decide (0≤x5_1)=true:=decide_eq_true c4
   clear c4
   by_cases c5:(rdOf ByteArray.empty l0 x5_1).toList=a1.toList
   ·rw [if_pos c5] at H
    have c5b0:((rdOf ByteArray.empty l0 x5_1).toList==a1.toList)=true:=beq_iff_eq.mpr c5
    have c5b1:((rdOf ByteArray.empty l0 x5_1).toList !=a1.toList)=false:=bne_eq_false_iff_eq.mpr c5
    clear c5
    obtain rfl:=Option.some.inj H
    have p1:0≤(x5_1:Int):=of_decide_eq_true zq_
    have q1:x5_1<(l0.length:Int):=of_decide_eq_true zq_
    obtain ⟨ad1,e1,hx1_0⟩:=Kd.at_string HR0.out x5_1 p1 q1
    cases e1
    replace p1:=eq_true p1
    replace q1:=eq_true q1
    go_wp2
    go_ret
    exact ⟨by first|rfl|(simp;done)|(simp [*];done),by repeat (first|exact Drawn0.refl _|apply Drawn0.step)⟩
   rw [if_neg c5] at H
   have c5b0:((rdOf ByteArray.empty l0 x5_1).toList==a1.toList)=false:=beq_eq_false_iff_ne.mpr c5
   have c5b1:((rdOf ByteArray.empty l0 x5_1).toList !=a1.toList)=true:=bne_iff_ne.mpr c5
   have H':=Aside0.mk H
   clear H
   have p1:0≤(x5_1:Int):=of_decide_eq_true zq_
   have q1:x5_1<(l0.length:Int):=of_decide_eq_true zq_
   obtain ⟨ad1,e1,hx1_0⟩:=Kd.at_string HR0.out x5_1 p1 q1
   cases e1
   replace p1:=eq_true p1
   replace q1:=eq_true q1
   go_wp2
   go_roundg k1
   case measure=>have:=HK1.out;omega
   case rel=>exact ⟨(wrap64 (x5_1+1)),(by first|rfl|(simp;done)|(simp [*];done)),H',⟨by have:=HK1.out;omega⟩,by repeat (first|exact Drawn0.refl _|apply Drawn0.step)⟩
mutual
def r10_Move.j0:Nat→List (S31)→ByteArray→ByteArray→Int→List ByteArray→Bool→Option ((List (S31))×Int)
 |0,_,_,_,_,_,_=>none
 |k+1,x0,x1,x2,x10,x11,x32=>if x32=true then ((r10_no.f 2).bind fun bt11=>(some (bt11.1,bt11.2))) else ((r10_in.f k x11 x1).bind fun t15=>(if t15=true then ((r10_no.f 10).bind fun bt16=>(some (bt16.1,bt16.2))) else (if 0≤x10 then (if x10<(x0.length:Int) then (if ((rd_T31 x0 x10).f5)≥9007199254740992 then ((r10_no.f 4).bind fun bt21=>(some (bt21.1,bt21.2))) else ((r10_copied.f x0).bind fun t25=>((r10_Up.f k x0 ((rd_T31 x0 x10).f1)).bind fun t29=>(r10_Move.l0 k x0 x2 x10 x11 t25 t29 0)))) else (none)) else (none))))
def r10_Move.l0:Nat→List (S31)→ByteArray→Int→List ByteArray→List (S31)→List ByteArray→Int→Option ((List (S31))×Int)
 |0,_,_,_,_,_,_,_=>none
 |k+1,x0,x2,x10,x11,x12,x13,x14=>if x14<(x13.length:Int) then (if 0≤x14 then ((r10_Find.f k x12 (rdOf ByteArray.empty x13 x14)).bind fun t33=>(if 0≤t33 then (if t33<(x12.length:Int) then (if 0≤x10 then (if x10<(x0.length:Int) then ((r10_Sub.f ((rd_T31 x12 t33).f4.f0) ((rd_T31 x12 t33).f4.f1) ((rd_T31 x12 t33).f4.f2) ((rd_T31 x0 x10).f4.f0) ((rd_T31 x0 x10).f4.f1) ((rd_T31 x0 x10).f4.f2)).bind fun bt36=>(r10_Move.l0 k x0 x2 x10 x11 (x12.set (t33:Int).toNat (⟨(rd_T31 x12 t33).f0,(rd_T31 x12 t33).f1,(⟨(rd_T31 x12 t33).f2.f0,(rd_T31 x12 t33).f2.f1,(rd_T31 x12 t33).f2.f2⟩:S27),(⟨(rd_T31 x12 t33).f3.f0,(rd_T31 x12 t33).f3.f1,(rd_T31 x12 t33).f3.f2⟩:S27),(⟨bt36.1,bt36.2.1,bt36.2.2⟩:S27),(rd_T31 x12 t33).f5⟩:S31)) x13 (wrap64 (x14+1)))) else (none)) else (none)) else (none)) else (none))) else (none)) else (r10_Move.l1 k x0 x2 x10 x11 x12 0)
def r10_Move.l1:Nat→List (S31)→ByteArray→Int→List ByteArray→List (S31)→Int→Option ((List (S31))×Int)
 |0,_,_,_,_,_,_=>none
 |k+1,x0,x2,x10,x11,x12,x16=>if x16<(x11.length:Int) then (if 0≤x16 then ((r10_Find.f k x12 (rdOf ByteArray.empty x11 x16)).bind fun t44=>(if 0≤t44 then (if t44<(x12.length:Int) then (if 0≤x10 then (if x10<(x0.length:Int) then ((r10_Add.f ((rd_T31 x12 t44).f4.f0) ((rd_T31 x12 t44).f4.f1) ((rd_T31 x12 t44).f4.f2) ((rd_T31 x0 x10).f4.f0) ((rd_T31 x0 x10).f4.f1) ((rd_T31 x0 x10).f4.f2)).bind fun bt47=>((some (x12.set (t44:Int).toNat (⟨(rd_T31 x12 t44).f0,(rd_T31 x12 t44).f1,(⟨(rd_T31 x12 t44).f2.f0,(rd_T31 x12 t44).f2.f1,(rd_T31 x12 t44).f2.f2⟩:S27),(⟨(rd_T31 x12 t44).f3.f0,(rd_T31 x12 t44).f3.f1,(rd_T31 x12 t44).f3.f2⟩:S27),(⟨bt47.1,bt47.2.1,bt47.2.2⟩:S27),(rd_T31 x12 t44).f5⟩:S31):List (S31))).bind fun y50=>((r10_Le.f ((rd_T31 y50 t44).f4.f0) ((rd_T31 y50 t44).f4.f1) ((rd_T31 y50 t44).f4.f2) ((rd_T31 y50 t44).f2.f0) ((rd_T31 y50 t44).f2.f1) ((rd_T31 y50 t44).f2.f2)).bind fun t53=>(if t53=true then (r10_Move.l1 k x0 x2 x10 x11 y50 (wrap64 (x16+1))) else ((r10_no.f 12).bind fun bt54=>(some (bt54.1,bt54.2))))))) else (none)) else (none)) else (none)) else (none))) else (none)) else (if 0≤x10 then (if x10<(x12.length:Int) then ((some (x12.set (x10:Int).toNat (⟨(rd_T31 x12 x10).f0,x2,(⟨(rd_T31 x12 x10).f2.f0,(rd_T31 x12 x10).f2.f1,(rd_T31 x12 x10).f2.f2⟩:S27),(⟨(rd_T31 x12 x10).f3.f0,(rd_T31 x12 x10).f3.f1,(rd_T31 x12 x10).f3.f2⟩:S27),(⟨(rd_T31 x12 x10).f4.f0,(rd_T31 x12 x10).f4.f1,(rd_T31 x12 x10).f4.f2⟩:S27),(rd_T31 x12 x10).f5⟩:S31):List (S31))).bind fun y40=>(some ((y40.set (x10:Int).toNat (⟨(rd_T31 y40 x10).f0,(rd_T31 y40 x10).f1,(⟨(rd_T31 y40 x10).f2.f0,(rd_T31 y40 x10).f2.f1,(rd_T31 y40 x10).f2.f2⟩:S27),(⟨(rd_T31 y40 x10).f3.f0,(rd_T31 y40 x10).f3.f1,(rd_T31 y40 x10).f3.f2⟩:S27),(⟨(rd_T31 y40 x10).f4.f0,(rd_T31 y40 x10).f4.f1,(rd_T31 y40 x10).f4.f2⟩:S27),wrap64 (((rd_T31 y40 x10).f5)+1)⟩:S31)),0))) else (none)) else (none))
end
def r10_Move.f (k:Nat) (l0:List (S31)) (a1:ByteArray) (a2:ByteArray) (a3:Int):Option ((List (S31))×Int):=(r10_old.f k l0 a1 a3).bind fun t2=>(if t2=0 then ((r10_Find.f k l0 a1).bind fun t7=>((r10_Up.f k l0 a2).bind fun t8=>(if a2.toList=([]:List UInt8) then (r10_Move.j0 k l0 a1 a2 t7 t8 false) else (r10_Move.j0 k l0 a1 a2 t7 t8 ((t8.length:Int)==0))))) else ((r10_no.f t2).bind fun bt3=>(some (bt3.1,bt3.2))))
theorem r10_Move.mono_l: ∀k,(∀y0 y1 y2 y3 y4 y5,LeO (r10_Move.j0 k y0 y1 y2 y3 y4 y5) (r10_Move.j0 (k+1) y0 y1 y2 y3 y4 y5))∧(∀y0 y1 y2 y3 y4 y5 y6,LeO (r10_Move.l0 k y0 y1 y2 y3 y4 y5 y6) (r10_Move.l0 (k+1) y0 y1 y2 y3 y4 y5 y6))∧(∀y0 y1 y2 y3 y4 y5,LeO (r10_Move.l1 k y0 y1 y2 y3 y4 y5) (r10_Move.l1 (k+1) y0 y1 y2 y3 y4 y5))
 |0=>⟨fun _ _ _ _ _ _ r h=>by simp [r10_Move.j0] at h,fun _ _ _ _ _ _ _ r h=>by simp [r10_Move.l0] at h,fun _ _ _ _ _ _ r h=>by simp [r10_Move.l1] at h⟩
 |k+1=>by
  obtain ⟨ih0,ih1,ih2⟩:=r10_Move.mono_l k
  refine ⟨?_, ?_, ?_⟩
  ·intro y0 y1 y2 y3 y4 y5
   unfold r10_Move.j0
   repeat' first
   |(with_reducible exact ih0 _ _ _ _ _ _)
   |(with_reducible exact ih1 _ _ _ _ _ _ _)
   |(with_reducible exact ih2 _ _ _ _ _ _)
   |(with_reducible exact r10_Find.mono _ _ _)
   |(with_reducible exact r10_Up.mono _ _ _)
   |(with_reducible exact r10_in.mono _ _ _)
   |(with_reducible exact r10_old.mono _ _ _ _)
   |(with_reducible exact LeO.refl _)
   |(with_reducible exact LeO.none _)
   |(with_reducible refine LeO.ite ?_ ?_)
   |(with_reducible refine LeO.bind ?_ (fun _=> ?_))
   |exact ih0 _ _ _ _ _ _
   |exact ih1 _ _ _ _ _ _ _
   |exact ih2 _ _ _ _ _ _
   |exact r10_Find.mono _ _ _
   |exact r10_Up.mono _ _ _
   |exact r10_in.mono _ _ _
   |exact r10_old.mono _ _ _ _
   |exact LeO.none _
   |refine LeO.ite ?_ ?_
   |refine LeO.bind ?_ (fun _=> ?_)
  ·intro y0 y1 y2 y3 y4 y5 y6
   unfold r10_Move.l0
   repeat' first
   |(with_reducible exact ih0 _ _ _ _ _ _)
   |(with_reducible exact ih1 _ _ _ _ _ _ _)
   |(with_reducible exact ih2 _ _ _ _ _ _)
   |(with_reducible exact r10_Find.mono _ _ _)
   |(with_reducible exact r10_Up.mono _ _ _)
   |(with_reducible exact r10_in.mono _ _ _)
   |(with_reducible exact r10_old.mono _ _ _ _)
   |(with_reducible exact LeO.refl _)
   |(with_reducible exact LeO.none _)
   |(with_reducible refine LeO.ite ?_ ?_)
   |(with_reducible refine LeO.bind ?_ (fun _=> ?_))
   |exact ih0 _ _ _ _ _ _
   |exact ih1 _ _ _ _ _ _ _
   |exact ih2 _ _ _ _ _ _
   |exact r10_Find.mono _ _ _
   |exact r10_Up.mono _ _ _
   |exact r10_in.mono _ _ _
   |exact r10_old.mono _ _ _ _
   |exact LeO.none _
   |refine LeO.ite ?_ ?_
   |refine LeO.bind ?_ (fun _=> ?_)
  intro y0 y1 y2 y3 y4 y5
  unfold r10_Move.l1
  repeat' first
  |(with_reducible exact ih0 _ _ _ _ _ _)
  |(with_reducible exact ih1 _ _ _ _ _ _ _)
  |(with_reducible exact ih2 _ _ _ _ _ _)
  |(with_reducible exact r10_Find.mono _ _ _)
  |(with_reducible exact r10_Up.mono _ _ _)
  |(with_reducible exact r10_in.mono _ _ _)
  |(with_reducible exact r10_old.mono _ _ _ _)
  |(with_reducible exact LeO.refl _)
  |(with_reducible exact LeO.none _)
  |(with_reducible refine LeO.ite ?_ ?_)
  |(with_reducible refine LeO.bind ?_ (fun _=> ?_))
  |exact ih0 _ _ _ _ _ _
  |exact ih1 _ _ _ _ _ _ _
  |exact ih2 _ _ _ _ _ _
  |exact r10_Find.mono _ _ _
  |exact r10_Up.mono _ _ _
  |exact r10_in.mono _ _ _
  |exact r10_old.mono _ _ _ _
  |exact LeO.none _
  |refine LeO.ite ?_ ?_
  |refine LeO.bind ?_ (fun _=> ?_)
theorem r10_Move.mono: ∀a0 a1 a2 a3 k,LeO (r10_Move.f k a0 a1 a2 a3) (r10_Move.f (k+1) a0 a1 a2 a3):=by
 intro a0 a1 a2 a3 k
 obtain ⟨ih0,ih1,ih2⟩:=r10_Move.mono_l k
 unfold r10_Move.f
 repeat' first
  |(with_reducible exact ih0 _ _ _ _ _ _)
  |(with_reducible exact ih1 _ _ _ _ _ _ _)
  |(with_reducible exact ih2 _ _ _ _ _ _)
  |(with_reducible exact r10_Find.mono _ _ _)
  |(with_reducible exact r10_Up.mono _ _ _)
  |(with_reducible exact r10_in.mono _ _ _)
  |(with_reducible exact r10_old.mono _ _ _ _)
  |(with_reducible exact LeO.refl _)
  |(with_reducible exact LeO.none _)
  |(with_reducible refine LeO.ite ?_ ?_)
  |(with_reducible refine LeO.bind ?_ (fun _=> ?_))
  |exact ih0 _ _ _ _ _ _
  |exact ih1 _ _ _ _ _ _ _
  |exact ih2 _ _ _ _ _ _
  |exact r10_Find.mono _ _ _
  |exact r10_Up.mono _ _ _
  |exact r10_in.mono _ _ _
  |exact r10_old.mono _ _ _ _
  |exact LeO.none _
  |refine LeO.ite ?_ ?_
  |refine LeO.bind ?_ (fun _=> ?_)
def r10_Move.T18:Bool×List (List Nat×List Nat):=(true,[([],[]),([],[]),([],[]),([],[]),([2,3],[2,3]),([4],[4]),([5],[5]),([],[]),([],[]),([7,8],[7,8]),([9],[9]),([10],[10]),([6,11],[6,11]),([0,1,0,1,2,3,4,5,6,7,8,9,10,11,12],[0,1]),([13,0,1,2,3,4,5,6,7,8,9,10,11,12],[13]),([14,12,12,0,1,2,3,4,5,6,7,8,9,10,11,12],[12,14])])
def r10_Move.B18:List Nat:=[0,0,0,0,12,28,60,0,0,384,896,1920,4092,8191,16383,32767]
theorem r10_Move.tab18:rtab .any (opsOf Try.f92 18)=r10_Move.T18:=by kernel_rfl
theorem r10_Move.bits18:waitsOk r10_Move.T18.2 r10_Move.B18=true:=by kernel_rfl
def r10_Move.T23:Bool×List (List Nat×List Nat):=(true,[([],[]),([],[]),([],[]),([],[]),([2,3],[2,3]),([4],[4]),([5],[5]),([],[]),([],[]),([7,8],[7,8]),([9],[9]),([10],[10]),([6,11],[6,11]),([0,1,0,1,2,3,4,5,6,7,8,9,10,11,12],[0,1]),([13,0,1,2,3,4,5,6,7,8,9,10,11,12],[13]),([14,12,12,0,1,2,3,4,5,6,7,8,9,10,11,12],[12,14])])
def r10_Move.B23:List Nat:=[0,0,0,0,12,28,60,0,0,384,896,1920,4092,8191,16383,32767]
theorem r10_Move.tab23:rtab .any (opsOf Try.f92 23)=r10_Move.T23:=by kernel_rfl
theorem r10_Move.bits23:waitsOk r10_Move.T23.2 r10_Move.B23=true:=by kernel_rfl
def r10_Move.T24:Bool×List (List Nat×List Nat):=(true,[([],[]),([],[]),([0,1],[0,1]),([2],[2]),([3],[3]),([],[]),([],[]),([5,6],[5,6]),([7],[7]),([8],[8]),([4,9],[4,9]),([10],[10])])
def r10_Move.B24:List Nat:=[0,0,3,7,15,0,0,96,224,480,1023,2047]
theorem r10_Move.tab24:rtab .any (opsOf Try.f92 24)=r10_Move.T24:=by kernel_rfl
theorem r10_Move.bits24:waitsOk r10_Move.T24.2 r10_Move.B24=true:=by kernel_rfl
set_option maxHeartbeats 8000000 in
set_option maxRecDepth 100000 in
theorem r10_Move.calls (k:Nat) (A0:Option Addr) (c0:Nat) (l0:List (S31)) (a1:ByteArray) (a2:ByteArray) (a3:Int) (r1:List (S31)) (r2:Int) (w:World) (hr0:Kd.C k31 w A0 l0.length l0) (hc0:l0.length≤c0) (h:r10_Move.f k l0 a1 a2 a3=some (r1,r2)):
  Calls Try.prog 92 #[.slice A0 l0.length c0, .string a1, .string a2, .int .i64 a3] w fun e w'=> ∃v0_:Value,e= .returned (.agg #[v0_, .int .i64 r2])∧Kd.R k31 31 w' w.heap.size (fun _=>True) v0_ r1∧Below w.heap.size w w':=by
 have HR0:=Aside0.mk hr0
 have HC0:=Aside0.mk hc0
 clear hr0 hc0
 have HB:=am_ (Below.refl w.heap.size w)
 have H:((r10_old.f k l0 a1 a3).bind fun t2=>(if t2=0 then ((r10_Find.f k l0 a1).bind fun t7=>((r10_Up.f k l0 a2).bind fun t8=>(if a2.toList=([]:List UInt8) then (r10_Move.j0 k l0 a1 a2 t7 t8 false) else (r10_Move.j0 k l0 a1 a2 t7 t8 ((t8.length:Int)==0))))) else ((r10_no.f t2).bind fun bt3=>(some (bt3.1,bt3.2)))))=some (r1,r2):=h
 clear h
 replace H:=Option.bind_eq_some_iff.mp H
 obtain ⟨t2,A50,H⟩:=H
 try dsimp only at H
 have A5:=Aside0.mk A50
 clear A50
 by_cases c6:t2=0
 rotate_left
 ·rw [if_neg c6] at H
  have c6b1:(t2 !=0)=true:=bne_iff_ne.mpr c6
  replace H:=Option.bind_eq_some_iff.mp H
  obtain ⟨⟨t3,t6⟩,A920,H⟩:=H
  try dsimp only at H
  have A92:=Aside0.mk A920
  clear A920
  simp only [Option.some.injEq,Prod.mk.injEq] at H
  obtain ⟨rfl,rfl⟩:=H
  go_enter Try.func92,Try.ntmps92
  go_wp2_with (first|((with_reducible refine gate_dst (N:=8) rfl ?_);(try (refine gate_guard (by rfl) ?_;dsimp only));refine bx_ (N:=8) (cs:=#[.slice none 0 0, .int .i64 0]) (t:=67) ?_;intro gb1 hg w93 hbox hb;have n0_:=am_ (below_step (zl0_ HB) hb);have n1_:=am_ (hbox);have n2_:=am_ ((zg0_ HB hg:w.heap.size≤gb1));have n3_:=am_ ((zg0_ HB hg:w.heap.size≤gb1));clear HB;have HB:=n0_;have BK1:=n1_;have GE1:=n3_;clear n0_ n1_ n2_ n3_;clear hb hbox hg)|((with_reducible refine gate_callee (f:=147) rfl ?_);refine gl_ (some 21) Try.func147 #[.slice A0 l0.length c0, .string a1, .int .i64 a3] ?_;(with_reducible refine (r10_old.calls k _ _ l0 a1 a3 t2 _ ?side1 ?side2 A5.out).mono ?_);(case side1=>exact zc_ (Kd.C_below HR0.out HB.out));(case side2=>exact HC0.out);rintro e w' ⟨rfl,⟨nd,rfl⟩⟩;refine ⟨_,rfl, ?_⟩;(try (rw [drewN_self w93];generalize hq_:World.drewN w93 _=w93;have n0_:Aside0 (w93.heap[gb1]?=some (.cells #[.slice none 0 0, .int .i64 0] 67 (0,0))):=⟨by rw [←hq_];exact (zb_ BK1)⟩;have n1_:Aside0 (Below w.heap.size w w93):=⟨by rw [←hq_];exact (zl1_ HB GE1)⟩;clear BK1 HB hq_;have BK1:=n0_;have HB:=n1_;clear n0_ n1_)))|((with_reducible refine gate_callee (f:=113) rfl ?_);refine gl_ (some 25) Try.func113 #[.int .i64 t2] ?_;(with_reducible refine (r10_no.calls t2 t3 t6 _ A92.out).mono ?_);rintro e w94 ⟨v4,rfl,ho0,hb⟩;refine ⟨_,rfl, ?_⟩;have HO5:=am_ (Kd.R_lower ho0 (below_size (zl1_ HB GE1)));replace BK1:=am_ (blk_below (zb_ BK1) hb);replace HB:=am_ (below_step (zl1_ HB GE1) hb);(try clear hb);(try clear hb2);(try clear hk);(try clear hi);(try clear ho0);obtain ⟨Ao95,co95,eo95⟩:=Kd.R_slice HO5.out;subst eo95;obtain ⟨hcz96_0,hcz96_1⟩:=x2_ BK1;have hfz96_0:=blk_frozen BK1.out 0;have hfz96_1:=blk_frozen BK1.out 1))
  refine bodyPost_ret (results_cell_row rfl _ _ gb1 67 #[.slice Ao95 t3.length co95, .int .i64 t6] (0,0) _ rfl (zw_ BK1) Try.underlying67 rfl (by kernel_rfl)) rfl ?_
  exact ⟨_,by first|rfl|(simp [errW_none,errW_some]<;>rfl)|(simp [*,errW_none,errW_some]<;>rfl),zy_ HO5 BK1,zl1_ HB GE1⟩

 rw [if_pos c6] at H
 have c6b1:(t2 !=0)=false:=bne_eq_false_iff_eq.mpr c6
 clear c6
 replace H:=Option.bind_eq_some_iff.mp H
 obtain ⟨t7,A70,H⟩:=H
 try dsimp only at H
 have A7:=Aside0.mk A70
 clear A70
 replace H:=Option.bind_eq_some_iff.mp H
 obtain ⟨t8,A80,H⟩:=H
 try dsimp only at H
 have A8:=Aside0.mk A80
 clear A80
 have HC9:=Aside0.mk H
 clear H
 go_enter Try.func92,Try.ntmps92
 go_upto_region 6 with (first|((with_reducible refine gate_dst (N:=8) rfl ?_);(try (refine gate_guard (by rfl) ?_;dsimp only));refine bx_ (N:=8) (cs:=#[.slice none 0 0, .int .i64 0]) (t:=67) ?_;intro gb1 hg w10 hbox hb;have n0_:=am_ (below_step (zl0_ HB) hb);have n1_:=am_ (hbox);have n2_:=am_ ((zg0_ HB hg:w.heap.size≤gb1));have n3_:=am_ ((zg0_ HB hg:w.heap.size≤gb1));clear HB;have HB:=n0_;have BK1:=n1_;have GE1:=n3_;clear n0_ n1_ n2_ n3_;clear hb hbox hg)|((with_reducible refine gate_callee (f:=147) rfl ?_);refine gl_ (some 21) Try.func147 #[.slice A0 l0.length c0, .string a1, .int .i64 a3] ?_;(with_reducible refine (r10_old.calls k _ _ l0 a1 a3 t2 _ ?side1 ?side2 A5.out).mono ?_);(case side1=>exact zc_ (Kd.C_below HR0.out HB.out));(case side2=>exact HC0.out);rintro e w' ⟨rfl,⟨nd,rfl⟩⟩;refine ⟨_,rfl, ?_⟩)|((with_reducible refine gate_callee (f:=50) rfl ?_);refine gl_ (some 28) Try.func50 #[.slice A0 l0.length c0, .string a1] ?_;(with_reducible refine (r10_Find.calls k _ _ l0 a1 t7 _ ?side1 ?side2 A7.out).mono ?_);(case side1=>repeat (first|exact (Kd.C_below HR0.out (zl1_ HB GE1))|(with_reducible refine Kd.C_alloc ?_ _)|(with_reducible refine Kd.C_drewN ?_ _)|(with_reducible refine Kd.C_drew ?_)));(case side2=>exact HC0.out);rintro e w' ⟨rfl,⟨nd,rfl⟩⟩;refine ⟨_,rfl, ?_⟩)|((with_reducible refine gate_callee (f:=106) rfl ?_);refine gl_ (some 31) Try.func106 #[.slice A0 l0.length c0, .string a2] ?_;(with_reducible refine (r10_Up.calls k _ _ l0 a2 t8 _ ?side1 ?side2 A8.out).mono ?_);(case side1=>repeat (first|exact (Kd.C_below HR0.out (zl1_ HB GE1))|(with_reducible refine Kd.C_alloc ?_ _)|(with_reducible refine Kd.C_drewN ?_ _)|(with_reducible refine Kd.C_drew ?_)));(case side2=>exact HC0.out);rintro e w11 ⟨v9,rfl,ho0,hb⟩;refine ⟨_,rfl, ?_⟩;have HO10:=am_ (Kd.R_lower ho0 (below_size (zl1_ HB GE1)));replace BK1:=am_ (blk_below (zb_ BK1) hb);replace HB:=am_ (below_step (zl1_ HB GE1) hb);(try clear hb);(try clear hb2);(try clear hk);(try clear hi);(try clear ho0)))
 (try simp only [Act.put,List.setIfInBounds_toArray,List.set_cons_zero,List.set_cons_succ])
 go_cut [32] (fun v32 wc=> ∃(kq:Nat) (x32_8:Bool),v32= .bool x32_8∧Aside0 (r10_Move.j0 kq l0 a1 a2 t7 t8 x32_8=some (r1,r2))∧Aside0 (kq≤k)∧Aside0 (Kd.R Kd.string 9 wc w.heap.size (fun _=>True) v9 t8)∧Aside0 (wc.heap[gb1]?=some (.cells #[(.slice none 0 0), .int .i64 0] 67 (0,0)))∧Aside0 (Below w.heap.size w wc))
 case first=>
  have H:=HC9.out
  clear HC9
  by_cases c12:a2.toList=([]:List UInt8)
  ·rw [if_pos c12] at H
   have c12b0:(a2.toList==([]:List UInt8))=true:=beq_iff_eq.mpr c12
   clear c12
   (first|rw [c12b0]|(simp only [i64_w,i32_w];rw [c12b0])|skip)
   have H':=Aside0.mk H
   clear H
   go_wp2
   go_meet
   case rel=>exact ⟨_,(false),(by first|rfl|(simp;done)|(simp [*];done)),H',⟨by first|omega|exact Nat.le_refl _⟩,⟨by (with_reducible repeat (first|apply Kd.R_alloc|apply Kd.R_drewN|apply Kd.R_drew));exact HO10.out⟩,⟨by refine zk_ ?_;exact BK1.out⟩,⟨zl1_ HB GE1⟩⟩
  rw [if_neg c12] at H
  have c12b0:(a2.toList==([]:List UInt8))=false:=beq_eq_false_iff_ne.mpr c12
  (first|rw [c12b0]|(simp only [i64_w,i32_w];rw [c12b0])|skip)
  have H':=Aside0.mk H
  clear H
  obtain ⟨Ao13,co13,eo13⟩:=Kd.R_slice HO10.out
  subst eo13
  go_wp2
  go_meet
  case rel=>exact ⟨_,(((t8.length:Int)==0)),(by first|rfl|(simp;done)|(simp [*];done)),H',⟨by first|omega|exact Nat.le_refl _⟩,⟨by (with_reducible repeat (first|apply Kd.R_alloc|apply Kd.R_drewN|apply Kd.R_drew));exact HO10.out⟩,⟨by refine zk_ ?_;exact BK1.out⟩,⟨zl1_ HB GE1⟩⟩
 case rest=>
  clear HC9
  try clear c1
  try clear p2
  try clear c5
  try clear c6
  try clear c6b1
  try clear c9
  try clear c10
  try clear c12
  try clear c12b0
  obtain ⟨kq,x32_8,rfl,HA,HJ8,HO_11,BK1,HB⟩:=hcut
  cases kq with
  |zero=>exact absurd HA.out (by simp [r10_Move.j0])
  |succ kj8=>
   have H:=HA.out
   clear HA
   simp only [r10_Move.j0] at H
   by_cases c14:x32_8=true
   ·subst c14
    have H1:((r10_no.f 2).bind fun bt11=>(some (bt11.1,bt11.2)))=some (r1,r2):=by rw [if_pos rfl] at H;exact H
    clear H
    have H:=H1
    clear H1
    replace H:=Option.bind_eq_some_iff.mp H
    obtain ⟨⟨t11,t14⟩,A150,H⟩:=H
    try dsimp only at H
    have A15:=Aside0.mk A150
    clear A150
    simp only [Option.some.injEq,Prod.mk.injEq] at H
    obtain ⟨rfl,rfl⟩:=H
    go_wp2_with (first|((with_reducible refine gate_callee (f:=113) rfl ?_);refine gl_ (some 40) Try.func113 #[.int .i64 2] ?_;(with_reducible refine (r10_no.calls 2 t11 t14 _ A15.out).mono ?_);rintro e w16 ⟨v12,rfl,ho0,hb⟩;refine ⟨_,rfl, ?_⟩;replace HO_11:=am_ (Kd.R_below (zr_ HO_11) hb);have HO13:=am_ (Kd.R_lower ho0 (below_size (zl1_ HB GE1)));replace BK1:=am_ (blk_below (zb_ BK1) hb);replace HB:=am_ (below_step (zl1_ HB GE1) hb);(try clear hb);(try clear hb2);(try clear hk);(try clear hi);(try clear ho0);obtain ⟨Ao17,co17,eo17⟩:=Kd.R_slice HO13.out;subst eo17;obtain ⟨hcz18_0,hcz18_1⟩:=x2_ BK1;have hfz18_0:=blk_frozen BK1.out 0;have hfz18_1:=blk_frozen BK1.out 1))
    refine bodyPost_ret (results_cell_row rfl _ _ gb1 67 #[.slice Ao17 t11.length co17, .int .i64 t14] (0,0) _ rfl (zw_ BK1) Try.underlying67 rfl (by kernel_rfl)) rfl ?_
    exact ⟨_,by first|rfl|(simp [errW_none,errW_some]<;>rfl)|(simp [*,errW_none,errW_some]<;>rfl),zy_ HO13 BK1,zl1_ HB GE1⟩
   replace c14:=Bool.eq_false_iff.mpr c14
   subst c14
   have H1:((r10_in.f kj8 t8 a1).bind fun t15=>(if t15=true then ((r10_no.f 10).bind fun bt16=>(some (bt16.1,bt16.2))) else (if 0≤t7 then (if t7<(l0.length:Int) then (if ((rd_T31 l0 t7).f5)≥9007199254740992 then ((r10_no.f 4).bind fun bt21=>(some (bt21.1,bt21.2))) else ((r10_copied.f l0).bind fun t25=>((r10_Up.f kj8 l0 ((rd_T31 l0 t7).f1)).bind fun t29=>(r10_Move.l0 kj8 l0 a2 t7 t8 t25 t29 0)))) else (none)) else (none))))=some (r1,r2):=by rw [if_neg (show¬(false=true) by decide)] at H;exact H
   clear H
   have H:=H1
   clear H1
   replace H:=Option.bind_eq_some_iff.mp H
   obtain ⟨t15,A190,H⟩:=H
   try dsimp only at H
   have A19:=Aside0.mk A190
   clear A190
   by_cases c20:t15=true
   ·subst c20
    have H1:((r10_no.f 10).bind fun bt16=>(some (bt16.1,bt16.2)))=some (r1,r2):=by rw [if_pos rfl] at H;exact H
    clear H
    have H:=H1
    clear H1
    replace H:=Option.bind_eq_some_iff.mp H
    obtain ⟨⟨t16,t19⟩,A210,H⟩:=H
    try dsimp only at H
    have A21:=Aside0.mk A210
    clear A210
    simp only [Option.some.injEq,Prod.mk.injEq] at H
    obtain ⟨rfl,rfl⟩:=H
    obtain ⟨Ao22,co22,eo22⟩:=Kd.R_slice HO_11.out
    subst eo22
    go_wp2_with (first|((with_reducible refine gate_callee (f:=136) rfl ?_);refine gl_ (some 44) Try.func136 #[.slice Ao22 t8.length co22, .string a1] ?_;(with_reducible refine (r10_in.calls kj8 _ _ t8 a1 true _ ?side1 ?side2 A19.out).mono ?_);(case side1=>exact zc_ (Kd.R_reads' HO_11.out).2.2);(case side2=>exact (Kd.R_reads' HO_11.out).2.1);rintro e w' ⟨rfl,⟨nd,rfl⟩⟩;refine ⟨_,rfl, ?_⟩;(try (rw [drewN_self wc];generalize hq_:World.drewN wc _=wc;have n0_:Aside0 (Kd.R Kd.string 9 wc w.heap.size (fun _=>True) (.slice Ao22 t8.length co22) t8):=⟨by rw [←hq_];exact (zr_ HO_11)⟩;have n1_:Aside0 (wc.heap[gb1]?=some (.cells #[.slice none 0 0, .int .i64 0] 67 (0,0))):=⟨by rw [←hq_];exact (zb_ BK1)⟩;have n2_:Aside0 (Below w.heap.size w wc):=⟨by rw [←hq_];exact (zl1_ HB GE1)⟩;clear HO_11 BK1 HB hq_;have HO_11:=n0_;have BK1:=n1_;have HB:=n2_;clear n0_ n1_ n2_)))|((with_reducible refine gate_callee (f:=113) rfl ?_);refine gl_ (some 45) Try.func113 #[.int .i64 10] ?_;(with_reducible refine (r10_no.calls 10 t16 t19 _ A21.out).mono ?_);rintro e w23 ⟨v17,rfl,ho0,hb⟩;refine ⟨_,rfl, ?_⟩;replace HO_11:=am_ (Kd.R_below (zr_ HO_11) hb);have HO18:=am_ (Kd.R_lower ho0 (below_size (zl1_ HB GE1)));replace BK1:=am_ (blk_below (zb_ BK1) hb);replace HB:=am_ (below_step (zl1_ HB GE1) hb);(try clear hb);(try clear hb2);(try clear hk);(try clear hi);(try clear ho0);obtain ⟨Ao24,co24,eo24⟩:=Kd.R_slice HO18.out;subst eo24;obtain ⟨hcz25_0,hcz25_1⟩:=x2_ BK1;have hfz25_0:=blk_frozen BK1.out 0;have hfz25_1:=blk_frozen BK1.out 1))
    refine bodyPost_ret (results_cell_row rfl _ _ gb1 67 #[.slice Ao24 t16.length co24, .int .i64 t19] (0,0) _ rfl (zw_ BK1) Try.underlying67 rfl (by kernel_rfl)) rfl ?_
    exact ⟨_,by first|rfl|(simp [errW_none,errW_some]<;>rfl)|(simp [*,errW_none,errW_some]<;>rfl),zy_ HO18 BK1,zl1_ HB GE1⟩
   replace c20:=Bool.eq_false_iff.mpr c20
   subst c20
   have H1:(if 0≤t7 then (if t7<(l0.length:Int) then (if ((rd_T31 l0 t7).f5)≥9007199254740992 then ((r10_no.f 4).bind fun bt21=>(some (bt21.1,bt21.2))) else ((r10_copied.f l0).bind fun t25=>((r10_Up.f kj8 l0 ((rd_T31 l0 t7).f1)).bind fun t29=>(r10_Move.l0 kj8 l0 a2 t7 t8 t25 t29 0)))) else (none)) else (none))=some (r1,r2):=by rw [if_neg (show¬(false=true) by decide)] at H;exact H
   clear H
   have H:=H1
   clear H1
   by_cases c26:0≤t7
   rotate_left
   ·rw [if_neg c26] at H
    exact absurd H (by simp)
   rw [if_pos c26] at H
   have c26b0:decide (0≤t7)=true:=decide_eq_true c26
   clear c26
   by_cases c27:t7<(l0.length:Int)
   rotate_left
   ·rw [if_neg c27] at H
    exact absurd H (by simp)
   rw [if_pos c27] at H
   have c27b0:decide (t7<(l0.length:Int))=true:=decide_eq_true c27
   clear c27
   by_cases c28:((rd_T31 l0 t7).f5)≥9007199254740992
   ·rw [if_pos c28] at H
    have c28b0:decide (9007199254740992≤((rd_T31 l0 t7).f5))=true:=decide_eq_true c28
    clear c28
    replace H:=Option.bind_eq_some_iff.mp H
    obtain ⟨⟨t21,t24⟩,A290,H⟩:=H
    try dsimp only at H
    have A29:=Aside0.mk A290
    clear A290
    simp only [Option.some.injEq,Prod.mk.injEq] at H
    obtain ⟨rfl,rfl⟩:=H
    obtain ⟨Ao30,co30,eo30⟩:=Kd.R_slice HO_11.out
    subst eo30
    go_wp2_with (first|((with_reducible refine gate_callee (f:=136) rfl ?_);refine gl_ (some 44) Try.func136 #[.slice Ao30 t8.length co30, .string a1] ?_;(with_reducible refine (r10_in.calls kj8 _ _ t8 a1 false _ ?side1 ?side2 A19.out).mono ?_);(case side1=>exact zc_ (Kd.R_reads' HO_11.out).2.2);(case side2=>exact (Kd.R_reads' HO_11.out).2.1);rintro e w' ⟨rfl,⟨nd,rfl⟩⟩;refine ⟨_,rfl, ?_⟩;(try (rw [drewN_self wc];generalize hq_:World.drewN wc _=wc;have n0_:Aside0 (Kd.R Kd.string 9 wc w.heap.size (fun _=>True) (.slice Ao30 t8.length co30) t8):=⟨by rw [←hq_];exact (zr_ HO_11)⟩;have n1_:Aside0 (wc.heap[gb1]?=some (.cells #[.slice none 0 0, .int .i64 0] 67 (0,0))):=⟨by rw [←hq_];exact (zb_ BK1)⟩;have n2_:Aside0 (Below w.heap.size w wc):=⟨by rw [←hq_];exact (zl1_ HB GE1)⟩;clear HO_11 BK1 HB hq_;have HO_11:=n0_;have BK1:=n1_;have HB:=n2_;clear n0_ n1_ n2_));have p20:0≤(t7:Int):=of_decide_eq_true zq_;have q20:t7<(l0.length:Int):=of_decide_eq_true zq_;obtain ⟨ad20,e20,hx20_0,hx20_1,hx20_2,hx20_3,hx20_4,hx20_5,hx20_6,hx20_7,hx20_8,hx20_9,hx20_10,hx20_11⟩:=at_T31 HR0.out t7 p20 q20;cases e20;replace hx20_0:=zx_ HB hx20_0;replace hx20_1:=zx_ HB hx20_1;replace hx20_2:=zx_ HB hx20_2;replace hx20_3:=zx_ HB hx20_3;replace hx20_4:=zx_ HB hx20_4;replace hx20_5:=zx_ HB hx20_5;replace hx20_6:=zx_ HB hx20_6;replace hx20_7:=zx_ HB hx20_7;replace hx20_8:=zx_ HB hx20_8;replace hx20_9:=zx_ HB hx20_9;replace hx20_10:=zx_ HB hx20_10;replace hx20_11:=zx_ HB hx20_11;replace p20:=eq_true p20;replace q20:=eq_true q20)|((with_reducible refine gate_callee (f:=113) rfl ?_);refine gl_ (some 53) Try.func113 #[.int .i64 4] ?_;(with_reducible refine (r10_no.calls 4 t21 t24 _ A29.out).mono ?_);rintro e w31 ⟨v22,rfl,ho0,hb⟩;refine ⟨_,rfl, ?_⟩;replace HO_11:=am_ (Kd.R_below (zr_ HO_11) hb);have HO23:=am_ (Kd.R_lower ho0 (below_size (zl1_ HB GE1)));replace BK1:=am_ (blk_below (zb_ BK1) hb);replace HB:=am_ (below_step (zl1_ HB GE1) hb);(try clear hb);(try clear hb2);(try clear hk);(try clear hi);(try clear ho0);obtain ⟨Ao32,co32,eo32⟩:=Kd.R_slice HO23.out;subst eo32;obtain ⟨hcz33_0,hcz33_1⟩:=x2_ BK1;have hfz33_0:=blk_frozen BK1.out 0;have hfz33_1:=blk_frozen BK1.out 1))
    refine bodyPost_ret (results_cell_row rfl _ _ gb1 67 #[.slice Ao32 t21.length co32, .int .i64 t24] (0,0) _ rfl (zw_ BK1) Try.underlying67 rfl (by kernel_rfl)) rfl ?_
    exact ⟨_,by first|rfl|(simp [errW_none,errW_some]<;>rfl)|(simp [*,errW_none,errW_some]<;>rfl),zy_ HO23 BK1,zl1_ HB GE1⟩
   rw [if_neg c28] at H
   have c28b0:decide (9007199254740992≤((rd_T31 l0 t7).f5))=false:=decide_eq_false c28
   clear c28
   replace H:=Option.bind_eq_some_iff.mp H
   obtain ⟨t25,A340,H⟩:=H
   try dsimp only at H
   have A34:=Aside0.mk A340
   clear A340
   replace H:=Option.bind_eq_some_iff.mp H
   obtain ⟨t29,A350,H⟩:=H
   try dsimp only at H
   have A35:=Aside0.mk A350
   clear A350
   have H':=Aside0.mk H
   clear H
   obtain ⟨Ao36,co36,eo36⟩:=Kd.R_slice HO_11.out
   subst eo36
   go_wp2_with (first|((with_reducible refine gate_callee (f:=136) rfl ?_);refine gl_ (some 44) Try.func136 #[.slice Ao36 t8.length co36, .string a1] ?_;(with_reducible refine (r10_in.calls kj8 _ _ t8 a1 false _ ?side1 ?side2 A19.out).mono ?_);(case side1=>exact zc_ (Kd.R_reads' HO_11.out).2.2);(case side2=>exact (Kd.R_reads' HO_11.out).2.1);rintro e w' ⟨rfl,⟨nd,rfl⟩⟩;refine ⟨_,rfl, ?_⟩;have p20:0≤(t7:Int):=of_decide_eq_true zq_;have q20:t7<(l0.length:Int):=of_decide_eq_true zq_;obtain ⟨ad20,e20,hx20_0,hx20_1,hx20_2,hx20_3,hx20_4,hx20_5,hx20_6,hx20_7,hx20_8,hx20_9,hx20_10,hx20_11⟩:=at_T31 HR0.out t7 p20 q20;cases e20;replace hx20_0:=zx_ HB hx20_0;replace hx20_1:=zx_ HB hx20_1;replace hx20_2:=zx_ HB hx20_2;replace hx20_3:=zx_ HB hx20_3;replace hx20_4:=zx_ HB hx20_4;replace hx20_5:=zx_ HB hx20_5;replace hx20_6:=zx_ HB hx20_6;replace hx20_7:=zx_ HB hx20_7;replace hx20_8:=zx_ HB hx20_8;replace hx20_9:=zx_ HB hx20_9;replace hx20_10:=zx_ HB hx20_10;replace hx20_11:=zx_ HB hx20_11;replace p20:=eq_true p20;replace q20:=eq_true q20)|((with_reducible refine gate_callee (f:=124) rfl ?_);refine gl_ (some 55) Try.func124 #[.slice (some ad20) l0.length c0] ?_;(with_reducible refine (r10_copied.calls _ _ l0 t25 _ ?side1 ?side2 A34.out).mono ?_);(case side1=>repeat (first|exact (Kd.C_below HR0.out (zl1_ HB GE1))|(with_reducible refine Kd.C_alloc ?_ _)|(with_reducible refine Kd.C_drewN ?_ _)|(with_reducible refine Kd.C_drew ?_)));(case side2=>exact HC0.out);rintro e w37 ⟨v26,rfl,ho0,hb⟩;refine ⟨_,rfl, ?_⟩;replace HO_11:=am_ (Kd.R_below (zr_ HO_11) hb);have HO27:=am_ (Kd.R_lower ho0 (below_size (zl1_ HB GE1)));replace BK1:=am_ (blk_below (zb_ BK1) hb);replace HB:=am_ (below_step (zl1_ HB GE1) hb);(try clear hb);(try clear hb2);(try clear hk);(try clear hi);(try clear ho0);have p28:0≤(t7:Int):=of_decide_eq_true zq_;have q28:t7<(l0.length:Int):=of_decide_eq_true zq_;obtain ⟨ad28,e28,hx28_0,hx28_1,hx28_2,hx28_3,hx28_4,hx28_5,hx28_6,hx28_7,hx28_8,hx28_9,hx28_10,hx28_11⟩:=at_T31 HR0.out t7 p28 q28;obtain rfl:ad20=ad28:=(by injection e28);replace hx28_0:=zx_ HB hx28_0;replace hx28_1:=zx_ HB hx28_1;replace hx28_2:=zx_ HB hx28_2;replace hx28_3:=zx_ HB hx28_3;replace hx28_4:=zx_ HB hx28_4;replace hx28_5:=zx_ HB hx28_5;replace hx28_6:=zx_ HB hx28_6;replace hx28_7:=zx_ HB hx28_7;replace hx28_8:=zx_ HB hx28_8;replace hx28_9:=zx_ HB hx28_9;replace hx28_10:=zx_ HB hx28_10;replace hx28_11:=zx_ HB hx28_11;replace p28:=eq_true p28;replace q28:=eq_true q28)|((with_reducible refine gate_callee (f:=106) rfl ?_);refine gl_ (some 62) Try.func106 #[.slice (some ad20) l0.length c0, .string ((rd_T31 l0 t7).f1)] ?_;(with_reducible refine (r10_Up.calls kj8 _ _ l0 ((rd_T31 l0 t7).f1) t29 _ ?side1 ?side2 A35.out).mono ?_);(case side1=>exact zc_ (Kd.C_below HR0.out HB.out));(case side2=>exact HC0.out);rintro e w38 ⟨v30,rfl,ho0,hb⟩;refine ⟨_,rfl, ?_⟩;replace HO27:=am_ (Kd.R_below (zr_ HO27) hb);have HO31:=am_ (Kd.R_lower (Kd.R_new' ho0 (Kd.R_lt (zr_ HO_11))) (below_size (zl1_ HB GE1)));replace HO_11:=am_ (Kd.R_elder' (zr_ HO_11) (Kd.R_base ho0) hb);replace BK1:=am_ (blk_below (zb_ BK1) hb);replace HB:=am_ (below_step (zl1_ HB GE1) hb);(try clear hb);(try clear hb2);(try clear hk);(try clear hi);(try clear ho0)))
   go_loopg [14] kj8 (fun kq v14 w'=> ∃(x12_2:List (S31)) (x14_2:Int),v14= .int .i64 x14_2∧Aside0 (r10_Move.l0 kq l0 a2 t7 t8 x12_2 t29 x14_2=some (r1,r2))∧Aside0 (kq≤kj8)∧Aside0 (Kd.R Kd.string 9 w' w.heap.size (fun k_=>some k_≠(v30:Value).ownBlock) (.slice Ao36 t8.length co36) t8)∧Aside0 (Kd.R k31 31 w' w.heap.size (fun _=>True) v26 x12_2)∧Aside0 (Kd.R Kd.string 9 w' w.heap.size (fun k_=>some k_≠((.slice Ao36 t8.length co36):Value).ownBlock) v30 t29)∧Aside0 (w'.heap[gb1]?=some (.cells #[(.slice none 0 0), .int .i64 0] 67 (0,0)))∧Aside0 (Below w.heap.size w w'))
   case atStart=>exact ⟨(t25),(0),(by first|rfl|(simp;done)|(simp [*];done)),H',⟨Nat.le_refl _⟩,⟨by (with_reducible repeat (first|apply Kd.R_alloc|apply Kd.R_drewN|apply Kd.R_drew));exact Kd.R_mono HO_11.out (fun _ hk=>hk.2)⟩,⟨by (with_reducible repeat (first|apply Kd.R_alloc|apply Kd.R_drewN|apply Kd.R_drew));exact HO27.out⟩,⟨by (with_reducible repeat (first|apply Kd.R_alloc|apply Kd.R_drewN|apply Kd.R_drew));exact Kd.R_mono HO31.out (fun _ hk=>hk.2)⟩,⟨by refine zk_ ?_;exact BK1.out⟩,⟨zl1_ HB GE1⟩⟩
   case round=>
    clear H'
    try clear c1
    try clear c2
    try clear p2
    try clear q2
    try clear hx2
    try clear c5
    try clear c6
    try clear c6b1
    try clear c9
    try clear c10
    try clear c11
    try clear c12
    try clear c12b0
    try clear c13
    try clear c14
    try clear c20
    try clear p20
    try clear q20
    try clear hx20
    try clear c26
    try clear c26b0
    try clear c27
    try clear c27b0
    try clear c28
    try clear c28b0
    try clear p28
    try clear q28
    try clear hx28
    try clear hcz18_0
    try clear hcz18_1
    try clear hcz25_0
    try clear hcz25_1
    try clear hcz33_0
    try clear hcz33_1
    try clear hfz18_0
    try clear hfz18_1
    try clear hfz25_0
    try clear hfz25_1
    try clear hfz33_0
    try clear hfz33_1
    try clear hx20_0
    try clear hx20_1
    try clear hx20_10
    try clear hx20_11
    try clear hx20_2
    try clear hx20_3
    try clear hx20_4
    try clear hx20_5
    try clear hx20_6
    try clear hx20_7
    try clear hx20_8
    try clear hx20_9
    try clear hx28_0
    try clear hx28_1
    try clear hx28_10
    try clear hx28_11
    try clear hx28_2
    try clear hx28_3
    try clear hx28_4
    try clear hx28_5
    try clear hx28_6
    try clear hx28_7
    try clear hx28_8
    try clear hx28_9
    try clear p2
    try clear p20
    try clear p28
    try clear q20
    try clear q28
    obtain ⟨x12_2,x14_2,rfl,HA,HK2,HO_11,HO_12,HO_13,BK1,HB⟩:=hrel
    cases gk with
    |zero=>exact absurd HA.out (by simp [r10_Move.l0])
    |succ k2=>
     have H:=HA.out
     clear HA
     simp only [r10_Move.l0] at H
     by_cases c39:x14_2<(t29.length:Int)
     ·rw [if_pos c39] at H
      have c39b0:decide (x14_2<(t29.length:Int))=true:=decide_eq_true c39
      clear c39
      by_cases c40:0≤x14_2
      rotate_left
      ·rw [if_neg c40] at H
       exact absurd H (by simp)
      rw [if_pos c40] at H
      have c40b0:decide (0≤x14_2)=true:=decide_eq_true c40
      clear c40
      replace H:=Option.bind_eq_some_iff.mp H
      obtain ⟨t33,A410,H⟩:=H
      try dsimp only at H
      have A41:=Aside0.mk A410
      clear A410
      by_cases c42:0≤t33
      rotate_left
      ·rw [if_neg c42] at H
       exact absurd H (by simp)
      rw [if_pos c42] at H
      have c42b0:decide (0≤t33)=true:=decide_eq_true c42
      clear c42
      by_cases c43:t33<(x12_2.length:Int)
      rotate_left
      ·rw [if_neg c43] at H
       exact absurd H (by simp)
      rw [if_pos c43] at H
      have c43b0:decide (t33<(x12_2.length:Int))=true:=decide_eq_true c43
      clear c43
      by_cases c44:0≤t7
      rotate_left
      ·rw [if_neg c44] at H
       exact absurd H (by simp)
      rw [if_pos c44] at H
      have c44b0:decide (0≤t7)=true:=decide_eq_true c44
      clear c44
      by_cases c45:t7<(l0.length:Int)
      rotate_left
      ·rw [if_neg c45] at H
       exact absurd H (by simp)
      rw [if_pos c45] at H
      have c45b0:decide (t7<(l0.length:Int))=true:=decide_eq_true c45
      clear c45
      replace H:=Option.bind_eq_some_iff.mp H
      obtain ⟨⟨t36,t37,t38⟩,A460,H⟩:=H
      try dsimp only at H
      have A46:=Aside0.mk A460
      clear A460
      obtain ⟨y39,hy39⟩: ∃y_:List (S31),y_=(x12_2.set (t33:Int).toNat (⟨(rd_T31 x12_2 t33).f0,(rd_T31 x12_2 t33).f1,(⟨(rd_T31 x12_2 t33).f2.f0,(rd_T31 x12_2 t33).f2.f1,(rd_T31 x12_2 t33).f2.f2⟩:S27),(⟨(rd_T31 x12_2 t33).f3.f0,(rd_T31 x12_2 t33).f3.f1,(rd_T31 x12_2 t33).f3.f2⟩:S27),(⟨t36,t37,t38⟩:S27),(rd_T31 x12_2 t33).f5⟩:S31)):=⟨_,rfl⟩
      replace H:(r10_Move.l0 k2 l0 a2 t7 t8 y39 t29 (wrap64 (x14_2+1)))=some (r1,r2):=by first|(rw [hy39];with_reducible exact H)|(have H2_:=(Option.bind_some _ _).symm.trans H;rw [hy39];with_reducible exact H2_)|(have H2_:=(Option.bind_some _ _).symm.trans H;with_reducible exact H2_)|with_reducible exact H|(rw [hy39];exact H)|exact H
      have Ny39:=Aside0.mk hy39
      clear hy39
      have H':=Aside0.mk H
      clear H
      obtain ⟨Ao48,co48,eo48⟩:=Kd.R_slice HO_13.out
      subst eo48
      have p32:0≤(x14_2:Int):=of_decide_eq_true zq_
      have q32:x14_2<(t29.length:Int):=of_decide_eq_true zq_
      obtain ⟨ad32,e32,hx32_0⟩:=Kd.at_string (Kd.R_reads' HO_13.out).2.2 x14_2 p32 q32
      cases e32
      replace p32:=eq_true p32
      replace q32:=eq_true q32
      obtain ⟨Ao49,co49,eo49⟩:=Kd.R_slice HO_12.out
      subst eo49
      try go_wp2_with (first|((with_reducible refine gate_callee (f:=50) rfl ?_);refine gl_ (some 74) Try.func50 #[.slice Ao49 x12_2.length co49, .string (rdOf ByteArray.empty t29 x14_2)] ?_;(with_reducible refine (r10_Find.calls k2 _ _ x12_2 (rdOf ByteArray.empty t29 x14_2) t33 _ ?side1 ?side2 A41.out).mono ?_);(case side1=>exact zc_ (Kd.R_reads' HO_12.out).2.2);(case side2=>exact (Kd.R_reads' HO_12.out).2.1);rintro e w' ⟨rfl,⟨nd,rfl⟩⟩;refine ⟨_,rfl, ?_⟩;(try (rw [drewN_self wr];generalize hq_:World.drewN wr _=wr;have n0_:Aside0 (Kd.R Kd.string 9 wr w.heap.size (fun k_=>some k_≠(.slice (some ad32) t29.length co48:Value).ownBlock) (.slice Ao36 t8.length co36) t8):=⟨by rw [←hq_];exact (zr_ HO_11)⟩;have n1_:Aside0 (Kd.R k31 31 wr w.heap.size (fun _=>True) (.slice Ao49 x12_2.length co49) x12_2):=⟨by rw [←hq_];exact (zr_ HO_12)⟩;have n2_:Aside0 (Kd.R Kd.string 9 wr w.heap.size (fun k_=>some k_≠(.slice Ao36 t8.length co36:Value).ownBlock) (.slice (some ad32) t29.length co48) t29):=⟨by rw [←hq_];exact (zr_ HO_13)⟩;have n3_:Aside0 (wr.heap[gb1]?=some (.cells #[.slice none 0 0, .int .i64 0] 67 (0,0))):=⟨by rw [←hq_];exact (zb_ BK1)⟩;have n4_:Aside0 (Below w.heap.size w wr):=⟨by rw [←hq_];exact (zl1_ HB GE1)⟩;clear HO_11 HO_12 HO_13 BK1 HB hq_;have HO_11:=n0_;have HO_12:=n1_;have HO_13:=n2_;have BK1:=n3_;have HB:=n4_;clear n0_ n1_ n2_ n3_ n4_))))
      replace HO_11:=am_ (Kd.R_drew HO_11.out)
      replace HO_12:=am_ (Kd.R_drew HO_12.out)
      replace HO_13:=am_ (Kd.R_drew HO_13.out)
      replace BK1:=am_ (blk_drew BK1.out)
      replace HB:=am_ (below_drew1 HB.out)
      have p34:0≤(t33:Int):=of_decide_eq_true zq_
      have q34:t33<(x12_2.length:Int):=of_decide_eq_true zq_
      obtain ⟨ad34,e34,hx34_0,hx34_1,hx34_2,hx34_3,hx34_4,hx34_5,hx34_6,hx34_7,hx34_8,hx34_9,hx34_10,hx34_11⟩:=at_T31 (Kd.R_reads' HO_12.out).2.2 t33 p34 q34
      cases e34
      replace p34:=eq_true p34
      replace q34:=eq_true q34
      have p35:0≤(t7:Int):=of_decide_eq_true zq_
      have q35:t7<(l0.length:Int):=of_decide_eq_true zq_
      obtain ⟨ad35,e35,hx35_0,hx35_1,hx35_2,hx35_3,hx35_4,hx35_5,hx35_6,hx35_7,hx35_8,hx35_9,hx35_10,hx35_11⟩:=at_T31 HR0.out t7 p35 q35
      have hw35_11:=hx35_11
      have hw35_10:=hx35_10
      have hw35_9:=hx35_9
      have hw35_8:=hx35_8
      have hw35_7:=hx35_7
      have hw35_6:=hx35_6
      have hw35_5:=hx35_5
      have hw35_4:=hx35_4
      have hw35_3:=hx35_3
      have hw35_2:=hx35_2
      have hw35_1:=hx35_1
      have hw35_0:=hx35_0
      obtain rfl:ad20=ad35:=(by injection e35)
      replace hx35_0:=zx_ HB hx35_0
      replace hx35_1:=zx_ HB hx35_1
      replace hx35_2:=zx_ HB hx35_2
      replace hx35_3:=zx_ HB hx35_3
      replace hx35_4:=zx_ HB hx35_4
      replace hx35_5:=zx_ HB hx35_5
      replace hx35_6:=zx_ HB hx35_6
      replace hx35_7:=zx_ HB hx35_7
      replace hx35_8:=zx_ HB hx35_8
      replace hx35_9:=zx_ HB hx35_9
      replace hx35_10:=zx_ HB hx35_10
      replace hx35_11:=zx_ HB hx35_11
      replace p35:=eq_true p35
      replace q35:=eq_true q35
      refine start_ (n:=16) (S:=fun w'=>w'.cell? (ad34.add ((t33).toNat*12))=some (.string ((rd_T31 x12_2 t33).f0))∧w'.cell? ⟨(ad34.add ((t33).toNat*12)).block,(ad34.add ((t33).toNat*12)).off+1,none⟩=some (.string ((rd_T31 x12_2 t33).f1))∧w'.cell? ⟨(ad34.add ((t33).toNat*12)).block,(ad34.add ((t33).toNat*12)).off+2,none⟩=some (.int .i64 ((rd_T31 x12_2 t33).f2.f0))∧w'.cell? ⟨(ad34.add ((t33).toNat*12)).block,(ad34.add ((t33).toNat*12)).off+3,none⟩=some (.int .i64 ((rd_T31 x12_2 t33).f2.f1))∧w'.cell? ⟨(ad34.add ((t33).toNat*12)).block,(ad34.add ((t33).toNat*12)).off+4,none⟩=some (.int .i64 ((rd_T31 x12_2 t33).f2.f2))∧w'.cell? ⟨(ad34.add ((t33).toNat*12)).block,(ad34.add ((t33).toNat*12)).off+5,none⟩=some (.int .i64 ((rd_T31 x12_2 t33).f3.f0))∧w'.cell? ⟨(ad34.add ((t33).toNat*12)).block,(ad34.add ((t33).toNat*12)).off+6,none⟩=some (.int .i64 ((rd_T31 x12_2 t33).f3.f1))∧w'.cell? ⟨(ad34.add ((t33).toNat*12)).block,(ad34.add ((t33).toNat*12)).off+7,none⟩=some (.int .i64 ((rd_T31 x12_2 t33).f3.f2))∧w'.cell? ⟨(ad34.add ((t33).toNat*12)).block,(ad34.add ((t33).toNat*12)).off+8,none⟩=some (.int .i64 ((rd_T31 x12_2 t33).f4.f0))∧w'.cell? ⟨(ad34.add ((t33).toNat*12)).block,(ad34.add ((t33).toNat*12)).off+9,none⟩=some (.int .i64 ((rd_T31 x12_2 t33).f4.f1))∧w'.cell? ⟨(ad34.add ((t33).toNat*12)).block,(ad34.add ((t33).toNat*12)).off+10,none⟩=some (.int .i64 ((rd_T31 x12_2 t33).f4.f2))∧w'.cell? ⟨(ad34.add ((t33).toNat*12)).block,(ad34.add ((t33).toNat*12)).off+11,none⟩=some (.int .i64 ((rd_T31 x12_2 t33).f5))∧w'.cell? (ad20.add ((t7).toNat*12))=some (.string ((rd_T31 l0 t7).f0))∧w'.cell? ⟨(ad20.add ((t7).toNat*12)).block,(ad20.add ((t7).toNat*12)).off+1,none⟩=some (.string ((rd_T31 l0 t7).f1))∧w'.cell? ⟨(ad20.add ((t7).toNat*12)).block,(ad20.add ((t7).toNat*12)).off+2,none⟩=some (.int .i64 ((rd_T31 l0 t7).f2.f0))∧w'.cell? ⟨(ad20.add ((t7).toNat*12)).block,(ad20.add ((t7).toNat*12)).off+3,none⟩=some (.int .i64 ((rd_T31 l0 t7).f2.f1))∧w'.cell? ⟨(ad20.add ((t7).toNat*12)).block,(ad20.add ((t7).toNat*12)).off+4,none⟩=some (.int .i64 ((rd_T31 l0 t7).f2.f2))∧w'.cell? ⟨(ad20.add ((t7).toNat*12)).block,(ad20.add ((t7).toNat*12)).off+5,none⟩=some (.int .i64 ((rd_T31 l0 t7).f3.f0))∧w'.cell? ⟨(ad20.add ((t7).toNat*12)).block,(ad20.add ((t7).toNat*12)).off+6,none⟩=some (.int .i64 ((rd_T31 l0 t7).f3.f1))∧w'.cell? ⟨(ad20.add ((t7).toNat*12)).block,(ad20.add ((t7).toNat*12)).off+7,none⟩=some (.int .i64 ((rd_T31 l0 t7).f3.f2))∧w'.cell? ⟨(ad20.add ((t7).toNat*12)).block,(ad20.add ((t7).toNat*12)).off+8,none⟩=some (.int .i64 ((rd_T31 l0 t7).f4.f0))∧w'.cell? ⟨(ad20.add ((t7).toNat*12)).block,(ad20.add ((t7).toNat*12)).off+9,none⟩=some (.int .i64 ((rd_T31 l0 t7).f4.f1))∧w'.cell? ⟨(ad20.add ((t7).toNat*12)).block,(ad20.add ((t7).toNat*12)).off+10,none⟩=some (.int .i64 ((rd_T31 l0 t7).f4.f2))∧w'.cell? ⟨(ad20.add ((t7).toNat*12)).block,(ad20.add ((t7).toNat*12)).off+11,none⟩=some (.int .i64 ((rd_T31 l0 t7).f5))) (ds:=[15]) (bt_ 16 0) (by kernel_rfl) rfl rfl ⟨hx34_0,hx34_1,hx34_2,hx34_3,hx34_4,hx34_5,hx34_6,hx34_7,hx34_8,hx34_9,hx34_10,hx34_11,(zx_ HB hw35_0),(zx_ HB hw35_1),(zx_ HB hw35_2),(zx_ HB hw35_3),(zx_ HB hw35_4),(zx_ HB hw35_5),(zx_ HB hw35_6),(zx_ HB hw35_7),(zx_ HB hw35_8),(zx_ HB hw35_9),(zx_ HB hw35_10),(zx_ HB hw35_11)⟩ (fun hHeld=> ?_);refine with_tabW r10_Move.tab18 r10_Move.bits18 (fun HT_ HW_=> ?_)
      generalize wr.drew=w50 at HO_11 HO_12 HO_13 BK1 HB hx34_0 hx34_1 hx34_10 hx34_11 hx34_2 hx34_3 hx34_4 hx34_5 hx34_6 hx34_7 hx34_8 hx34_9 hx35_0 hx35_1 hx35_10 hx35_11 hx35_2 hx35_3 hx35_4 hx35_5 hx35_6 hx35_7 hx35_8 hx35_9 hHeld ⊢
      refine pu_ (i:=0) (N:=some 75) (bt_ 16 1) HT_ ?_
      refine pu_ (i:=1) (N:=some 76) (bt_ 16 3) HT_ ?_
      refine pu_ (i:=2) (N:=some 77) (bt_ 16 7) HT_ ?_
      refine pu_ (i:=3) (N:=some 78) (bt_ 16 15) HT_ ?_
      refine pu_ (i:=4) (N:=some 79) (bt_ 16 31) HT_ ?_
      refine pu_ (i:=5) (N:=some 80) (bt_ 16 63) HT_ ?_
      refine pu_ (i:=7) (N:=some 82) (bt_ 16 191) HT_ ?_
      refine pu_ (i:=8) (N:=some 83) (bt_ 16 447) HT_ ?_
      refine pu_ (i:=9) (N:=some 84) (bt_ 16 959) HT_ ?_
      refine pu_ (i:=10) (N:=some 85) (bt_ 16 1983) HT_ ?_
      refine tk_ (i:=6) (N:=some 81) (bt_ 16 2047) HT_ HW_ hHeld ?_
      refine tk_ (i:=11) (N:=some 86) (bt_ 16 4095) HT_ HW_ hHeld ?_
      refine on_ (i:=12) (N:=some 87) (bt_ 16 8191) HT_ (fun K hK=> ?_)
      refine gs_ Try.func35 #[.agg #[.int .i64 ((rd_T31 x12_2 t33).f4.f0), .int .i64 ((rd_T31 x12_2 t33).f4.f1), .int .i64 ((rd_T31 x12_2 t33).f4.f2)], .agg #[.int .i64 ((rd_T31 l0 t7).f4.f0), .int .i64 ((rd_T31 l0 t7).f4.f1), .int .i64 ((rd_T31 l0 t7).f4.f2)]] ?_
      with_reducible refine (r10_Sub.calls ((rd_T31 x12_2 t33).f4.f0) ((rd_T31 x12_2 t33).f4.f1) ((rd_T31 x12_2 t33).f4.f2) ((rd_T31 l0 t7).f4.f0) ((rd_T31 l0 t7).f4.f1) ((rd_T31 l0 t7).f4.f2) t36 t37 t38 _ A46.out).mono ?_
      rintro e w51 ⟨rfl,hb⟩
      have HS0_:=zh_ hb (hHeld.1)
      have HS1_:=zh_ hb (hHeld.2.1)
      have HS2_:=zh_ hb (hHeld.2.2.1)
      have HS3_:=zh_ hb (hHeld.2.2.2.1)
      have HS4_:=zh_ hb (hHeld.2.2.2.2.1)
      have HS5_:=zh_ hb (hHeld.2.2.2.2.2.1)
      have HS6_:=zh_ hb (hHeld.2.2.2.2.2.2.1)
      have HS7_:=zh_ hb (hHeld.2.2.2.2.2.2.2.1)
      have HS8_:=zh_ hb (hHeld.2.2.2.2.2.2.2.2.1)
      have HS9_:=zh_ hb (hHeld.2.2.2.2.2.2.2.2.2.1)
      have HS10_:=zh_ hb (hHeld.2.2.2.2.2.2.2.2.2.2.1)
      have HS11_:=zh_ hb (hHeld.2.2.2.2.2.2.2.2.2.2.2.1)
      refine ⟨_,rfl, ?_⟩
      replace HO_11:=am_ (Kd.R_below (zr_ HO_11) hb)
      replace HO_12:=am_ (Kd.R_below (zr_ HO_12) hb)
      replace HO_13:=am_ (Kd.R_below (zr_ HO_13) hb)
      replace BK1:=am_ (blk_below (zb_ BK1) hb)
      replace HB:=am_ (below_step (zl1_ HB GE1) hb)
      (try clear hb)
      (try clear hb2)
      (try clear hk)
      (try clear hi)
      have p47:0≤(t33:Int):=of_decide_eq_true zq_
      have q47:(t33:Int)<((x12_2.length:Int):Int):=of_decide_eq_true zq_
      obtain ⟨go47,co47,eo47,gb47,gl47,cl47,HG47⟩:=Kd.R_form HO_12.out (by omega)
      (first|cases eo47|(injection eo47 with ea_ en_ ec_;(first|subst ea_|(injection ea_ with ea_;subst ea_));subst ec_;clear en_))
      have GB47:=Aside0.mk gb47
      have GG47:=Aside0.mk HG47
      clear gb47 gl47 HG47
      replace hx34_0:=zv_ hx34_0
      replace hx34_1:=zv_ hx34_1
      replace hx34_2:=zv_ hx34_2
      replace hx34_3:=zv_ hx34_3
      replace hx34_4:=zv_ hx34_4
      replace hx34_5:=zv_ hx34_5
      replace hx34_6:=zv_ hx34_6
      replace hx34_7:=zv_ hx34_7
      replace hx34_8:=zv_ hx34_8
      replace hx34_9:=zv_ hx34_9
      replace hx34_10:=zv_ hx34_10
      replace hx34_11:=zv_ hx34_11
      obtain ⟨ce47,hcl47,hM47,hcc47,hfr47⟩:=Kd.R_elem HO_12.out z31 (t33:Int) p47 q47
      obtain rfl:=k31_openM hM47
      have hx47_8:World.cell? _ ⟨go47,(t33:Int).toNat*12+8,none⟩=some (.int .i64 ((rd_T31 x12_2 t33).f4.f0)):=hcc47 8 _ rfl
      have hx47_9:World.cell? _ ⟨go47,(t33:Int).toNat*12+9,none⟩=some (.int .i64 ((rd_T31 x12_2 t33).f4.f1)):=hcc47 9 _ rfl
      have hx47_10:World.cell? _ ⟨go47,(t33:Int).toNat*12+10,none⟩=some (.int .i64 ((rd_T31 x12_2 t33).f4.f2)):=hcc47 10 _ rfl
      have hf47_8:World.frozen? _ ⟨go47,(t33:Int).toNat*12+8,none⟩=false:=hfr47 8
      have hf47_9:World.frozen? _ ⟨go47,(t33:Int).toNat*12+9,none⟩=false:=hfr47 9
      have hf47_10:World.frozen? _ ⟨go47,(t33:Int).toNat*12+10,none⟩=false:=hfr47 10
      clear hcl47 hcc47 hfr47 hM47
      replace p47:=eq_true p47
      replace q47:=eq_true q47
      obtain ⟨ce52,hcl52,hM52,hcc52,hfr52⟩:=Kd.R_elem HO_12.out z31 (t33:Int) (of_decide_eq_true zq_) (by have h_:(t33:Int)<((x12_2.length:Int):Int):=of_decide_eq_true zq_;first|exact h_|(have e_:=(Kd.R_reads' HO_12.out).1;omega)|simpa using h_)
      obtain rfl:=k31_openM hM52
      have HP52:=(Kd.R_seg HO_12.out (t33:Int) (of_decide_eq_true zq_) (by have h_:(t33:Int)<((x12_2.length:Int):Int):=of_decide_eq_true zq_;first|exact h_|(have e_:=(Kd.R_reads' HO_12.out).1;omega)|simpa using h_) (seg:=[.int .i64 t36, .int .i64 t37, .int .i64 t38]) (j:=8) hcl52 hcc52 (show 11≤12 from by decide) (x':=(⟨(rd_T31 x12_2 t33).f0,(rd_T31 x12_2 t33).f1,(⟨(rd_T31 x12_2 t33).f2.f0,(rd_T31 x12_2 t33).f2.f1,(rd_T31 x12_2 t33).f2.f2⟩:S27),(⟨(rd_T31 x12_2 t33).f3.f0,(rd_T31 x12_2 t33).f3.f1,(rd_T31 x12_2 t33).f3.f2⟩:S27),(⟨t36,t37,t38⟩:S27),(rd_T31 x12_2 t33).f5⟩:S31)) (k31_mkM _ _ _ (⟨(rd_T31 x12_2 t33).f0,(rd_T31 x12_2 t33).f1,(⟨(rd_T31 x12_2 t33).f2.f0,(rd_T31 x12_2 t33).f2.f1,(rd_T31 x12_2 t33).f2.f2⟩:S27),(⟨(rd_T31 x12_2 t33).f3.f0,(rd_T31 x12_2 t33).f3.f1,(rd_T31 x12_2 t33).f3.f2⟩:S27),(⟨t36,t37,t38⟩:S27),(rd_T31 x12_2 t33).f5⟩:S31)) (fun _ hk=>hk)).1
      rw [←Ny39.out] at HP52
      have HQ52:=Aside0.mk HP52
      clear hcl52 hcc52 hfr52 hM52 HP52
      refine hK.out _ _ ⟨HS0_,HS1_,HS2_,HS3_,HS4_,HS5_,HS6_,HS7_,HS8_,HS9_,HS10_,HS11_,(zx_ HB hw35_0),(zx_ HB hw35_1),(zx_ HB hw35_2),(zx_ HB hw35_3),(zx_ HB hw35_4),(zx_ HB hw35_5),(zx_ HB hw35_6),(zx_ HB hw35_7),(zx_ HB hw35_8),(zx_ HB hw35_9),(zx_ HB hw35_10),(zx_ HB hw35_11)⟩ (fun hHeld=> ?_)
      clear hK K
      refine no_ (N:=some 87) ?_
      refine pu_ (i:=13) (N:=some 88) (bt_ 16 16383) HT_ ?_
      refine pu_ (i:=14) (N:=some 89) (bt_ 16 32767) HT_ ?_
      refine last_ (i:=15) (N:=none) (bt_ 16 65535) rfl rfl (one_of HT_.out (by kernel_rfl)) (by decide) (fun K hK=> ?_)
      refine skip_ (w1:= ?_) (by rfl) rfl ?_ ?_
      rotate_left
      ·go_simp
       rfl
      refine hK.out _ _ ?_
      clear hK K
      refine done_ (done_of HT_.out (by kernel_rfl)) ?_
      try go_wp2
      go_roundg k2
      case measure=>have:=HJ8.out;have:=HK2.out;omega
      case rel=>exact ⟨(y39),(wrap64 (x14_2+1)),(by first|rfl|(simp;done)|(simp [*];done)),H',⟨by have:=HJ8.out;have:=HK2.out;omega⟩,⟨by (with_reducible repeat (first|apply Kd.R_alloc|apply Kd.R_drewN|apply Kd.R_drew));exact Kd.R_mono (Kd.R_far (p:=⟨go47,(t33:Int).toNat*12+10,none⟩) (Kd.R_far (p:=⟨go47,(t33:Int).toNat*12+9,none⟩) (Kd.R_far (p:=⟨go47,(t33:Int).toNat*12+8,none⟩) (Kd.R_types HO_11.out GG47.out (by decide)) (fun _ hk=>hk.2) (.int .i64 t36)) (fun _ hk=>hk.2) (.int .i64 t37)) (fun _ hk=>hk.2) (.int .i64 t38)) (fun _ hk=>hk.1)⟩,⟨by (with_reducible repeat (first|apply Kd.R_alloc|apply Kd.R_drewN|apply Kd.R_drew));exact HQ52.out⟩,⟨by (with_reducible repeat (first|apply Kd.R_alloc|apply Kd.R_drewN|apply Kd.R_drew));exact Kd.R_mono (Kd.R_far (p:=⟨go47,(t33:Int).toNat*12+10,none⟩) (Kd.R_far (p:=⟨go47,(t33:Int).toNat*12+9,none⟩) (Kd.R_far (p:=⟨go47,(t33:Int).toNat*12+8,none⟩) (Kd.R_types HO_13.out GG47.out (by decide)) (fun _ hk=>hk.2) (.int .i64 t36)) (fun _ hk=>hk.2) (.int .i64 t37)) (fun _ hk=>hk.2) (.int .i64 t38)) (fun _ hk=>hk.1)⟩,⟨by refine zk_ ?_;refine blk_far ?_ (by have h_:=Kd.R_ne HO_12.out BK1.out (by decide);intro e_;exact h_ (by rw [e_];rfl)) _;refine zk_ ?_;refine blk_far ?_ (by have h_:=Kd.R_ne HO_12.out BK1.out (by decide);intro e_;exact h_ (by rw [e_];rfl)) _;refine zk_ ?_;refine blk_far ?_ (by have h_:=Kd.R_ne HO_12.out BK1.out (by decide);intro e_;exact h_ (by rw [e_];rfl)) _;refine zk_ ?_;exact BK1.out⟩,⟨zl4_ HB GB47 GB47 GB47 GE1⟩⟩
     rw [if_neg c39] at H
     have c39b0:decide (x14_2<(t29.length:Int))=false:=decide_eq_false c39
     clear c39
     have H':=Aside0.mk H
     clear H
     obtain ⟨Ao53,co53,eo53⟩:=Kd.R_slice HO_13.out
     subst eo53
     go_wp2
     go_loopg [16] k2 (fun kq v16 w'=> ∃(x12_3:List (S31)) (x16_3:Int) (x2001_3:Int),v16= .int .i64 x16_3∧Aside0 (r10_Move.l1 kq l0 a2 t7 t8 x12_3 x16_3=some (r1,r2))∧Aside0 (kq≤k2)∧Aside0 (Kd.R Kd.string 9 w' w.heap.size (fun _=>True) (.slice Ao36 t8.length co36) t8)∧Aside0 (Kd.R k31 31 w' w.heap.size (fun _=>True) v26 x12_3)∧Aside0 (w'.heap[gb1]?=some (.cells #[(.slice none 0 0), .int .i64 x2001_3] 67 (0,0)))∧Aside0 (Below w.heap.size w w'))
     case atStart=>exact ⟨(x12_2),(0),(0),(by first|rfl|(simp;done)|(simp [*];done)),H',⟨Nat.le_refl _⟩,⟨by (with_reducible repeat (first|apply Kd.R_alloc|apply Kd.R_drewN|apply Kd.R_drew));exact Kd.R_mono HO_11.out (fun _ hk=>trivial)⟩,⟨by (with_reducible repeat (first|apply Kd.R_alloc|apply Kd.R_drewN|apply Kd.R_drew));exact HO_12.out⟩,⟨by refine zk_ ?_;exact BK1.out⟩,⟨zl1_ HB GE1⟩⟩
     case round=>
      clear H'
      try clear c1
      try clear c2
      try clear p2
      try clear q2
      try clear hx2
      try clear c3
      try clear p3
      try clear q3
      try clear hx3
      try clear c4
      try clear p4
      try clear q4
      try clear hx4
      try clear hf4
      try clear c5
      try clear c6
      try clear c6b1
      try clear p6
      try clear c9
      try clear c10
      try clear c11
      try clear c12
      try clear c12b0
      try clear c13
      try clear c14
      try clear c20
      try clear p20
      try clear q20
      try clear hx20
      try clear c26
      try clear c26b0
      try clear c27
      try clear c27b0
      try clear c28
      try clear c28b0
      try clear p28
      try clear q28
      try clear hx28
      try clear p32
      try clear q32
      try clear hx32
      try clear p34
      try clear q34
      try clear hx34
      try clear c35
      try clear p35
      try clear q35
      try clear hx35
      try clear c39
      try clear c39b0
      try clear c40
      try clear c40b0
      try clear c42
      try clear c42b0
      try clear c43
      try clear c43b0
      try clear c44
      try clear c44b0
      try clear c45
      try clear c45b0
      try clear c47
      try clear p47
      try clear q47
      try clear hx47
      try clear hf47
      try clear c50
      try clear c52
      try clear hcz18_0
      try clear hcz18_1
      try clear hcz25_0
      try clear hcz25_1
      try clear hcz33_0
      try clear hcz33_1
      try clear hfz18_0
      try clear hfz18_1
      try clear hfz25_0
      try clear hfz25_1
      try clear hfz33_0
      try clear hfz33_1
      try clear hx20_0
      try clear hx20_1
      try clear hx20_10
      try clear hx20_11
      try clear hx20_2
      try clear hx20_3
      try clear hx20_4
      try clear hx20_5
      try clear hx20_6
      try clear hx20_7
      try clear hx20_8
      try clear hx20_9
      try clear hx28_0
      try clear hx28_1
      try clear hx28_10
      try clear hx28_11
      try clear hx28_2
      try clear hx28_3
      try clear hx28_4
      try clear hx28_5
      try clear hx28_6
      try clear hx28_7
      try clear hx28_8
      try clear hx28_9
      try clear hx32_0
      try clear hx34_0
      try clear hx34_1
      try clear hx34_10
      try clear hx34_11
      try clear hx34_2
      try clear hx34_3
      try clear hx34_4
      try clear hx34_5
      try clear hx34_6
      try clear hx34_7
      try clear hx34_8
      try clear hx34_9
      try clear hx35_0
      try clear hx35_1
      try clear hx35_10
      try clear hx35_11
      try clear hx35_2
      try clear hx35_3
      try clear hx35_4
      try clear hx35_5
      try clear hx35_6
      try clear hx35_7
      try clear hx35_8
      try clear hx35_9
      try clear hx47_10
      try clear hx47_8
      try clear hx47_9
      try clear p2
      try clear p20
      try clear p28
      try clear p32
      try clear p34
      try clear p35
      try clear p47
      try clear q2
      try clear q20
      try clear q28
      try clear q32
      try clear q34
      try clear q35
      try clear q47
      obtain ⟨x12_3,x16_3,x2001_3,rfl,HA,HK3,HO_11,HO_12,BK1,HB⟩:=hrel
      cases gk with
      |zero=>exact absurd HA.out (by simp [r10_Move.l1])
      |succ k3=>
       have H:=HA.out
       clear HA
       simp only [r10_Move.l1] at H
       by_cases c54:x16_3<(t8.length:Int)
       rotate_left
       ·rw [if_neg c54] at H
        have c54b0:decide (x16_3<(t8.length:Int))=false:=decide_eq_false c54
        clear c54
        by_cases c83:0≤t7
        rotate_left
        ·rw [if_neg c83] at H
         exact absurd H (by simp)
        rw [if_pos c83] at H
        have c83b0:decide (0≤t7)=true:=decide_eq_true c83
        clear c83
        by_cases c84:t7<(x12_3.length:Int)
        rotate_left
        ·rw [if_neg c84] at H
         exact absurd H (by simp)
        rw [if_pos c84] at H
        have c84b0:decide (t7<(x12_3.length:Int))=true:=decide_eq_true c84
        clear c84
        obtain ⟨y40,hy40⟩: ∃y_:List (S31),y_=(x12_3.set (t7:Int).toNat (⟨(rd_T31 x12_3 t7).f0,a2,(⟨(rd_T31 x12_3 t7).f2.f0,(rd_T31 x12_3 t7).f2.f1,(rd_T31 x12_3 t7).f2.f2⟩:S27),(⟨(rd_T31 x12_3 t7).f3.f0,(rd_T31 x12_3 t7).f3.f1,(rd_T31 x12_3 t7).f3.f2⟩:S27),(⟨(rd_T31 x12_3 t7).f4.f0,(rd_T31 x12_3 t7).f4.f1,(rd_T31 x12_3 t7).f4.f2⟩:S27),(rd_T31 x12_3 t7).f5⟩:S31)):=⟨_,rfl⟩
        replace H:(some ((y40.set (t7:Int).toNat (⟨(rd_T31 y40 t7).f0,(rd_T31 y40 t7).f1,(⟨(rd_T31 y40 t7).f2.f0,(rd_T31 y40 t7).f2.f1,(rd_T31 y40 t7).f2.f2⟩:S27),(⟨(rd_T31 y40 t7).f3.f0,(rd_T31 y40 t7).f3.f1,(rd_T31 y40 t7).f3.f2⟩:S27),(⟨(rd_T31 y40 t7).f4.f0,(rd_T31 y40 t7).f4.f1,(rd_T31 y40 t7).f4.f2⟩:S27),wrap64 (((rd_T31 y40 t7).f5)+1)⟩:S31)),0))=some (r1,r2):=by first|(rw [hy40];with_reducible exact H)|(have H2_:=(Option.bind_some _ _).symm.trans H;rw [hy40];with_reducible exact H2_)|(have H2_:=(Option.bind_some _ _).symm.trans H;with_reducible exact H2_)|with_reducible exact H|(rw [hy40];exact H)|exact H
        have Ny40:=Aside0.mk hy40
        clear hy40
        obtain ⟨y42,hy42⟩: ∃y_:List (S31),y_=(y40.set (t7:Int).toNat (⟨(rd_T31 y40 t7).f0,(rd_T31 y40 t7).f1,(⟨(rd_T31 y40 t7).f2.f0,(rd_T31 y40 t7).f2.f1,(rd_T31 y40 t7).f2.f2⟩:S27),(⟨(rd_T31 y40 t7).f3.f0,(rd_T31 y40 t7).f3.f1,(rd_T31 y40 t7).f3.f2⟩:S27),(⟨(rd_T31 y40 t7).f4.f0,(rd_T31 y40 t7).f4.f1,(rd_T31 y40 t7).f4.f2⟩:S27),wrap64 (((rd_T31 y40 t7).f5)+1)⟩:S31)):=⟨_,rfl⟩
        replace H:(some (y42,0))=some (r1,r2):=by first|(rw [hy42];with_reducible exact H)|(have H2_:=(Option.bind_some _ _).symm.trans H;rw [hy42];with_reducible exact H2_)|(have H2_:=(Option.bind_some _ _).symm.trans H;with_reducible exact H2_)|with_reducible exact H|(rw [hy42];exact H)|exact H
        have Ny42:=Aside0.mk hy42
        clear hy42
        simp only [Option.some.injEq,Prod.mk.injEq] at H
        obtain ⟨rfl,rfl⟩:=H
        have p85:0≤(t7:Int):=of_decide_eq_true zq_
        have q85:(t7:Int)<((x12_3.length:Int):Int):=of_decide_eq_true zq_
        obtain ⟨go85,co85,eo85,gb85,gl85,cl85,HG85⟩:=Kd.R_form HO_12.out (by omega)
        (first|cases eo85|(injection eo85 with ea_ en_ ec_;(first|subst ea_|(injection ea_ with ea_;subst ea_));subst ec_;clear en_))
        have GB85:=Aside0.mk gb85
        clear gb85 gl85 HG85
        obtain ⟨ce85,hcl85,hM85,hcc85,hfr85⟩:=Kd.R_elem HO_12.out z31 (t7:Int) p85 q85
        obtain rfl:=k31_openM hM85
        have hx85_1:wr.cell? ⟨go85,(t7:Int).toNat*12+1,none⟩=some (.string ((rd_T31 x12_3 t7).f1)):=hcc85 1 _ rfl
        have hf85_1:wr.frozen? ⟨go85,(t7:Int).toNat*12+1,none⟩=false:=hfr85 1
        clear hcl85 hcc85 hfr85 hM85
        replace p85:=eq_true p85
        replace q85:=eq_true q85
        have HX87:=am_ (show Kd.R k31 31 wr w.heap.size (fun _=>True) (.slice (some ⟨go85,0,none⟩) x12_3.length co85) x12_3 from (zr_ HO_12))
        obtain ⟨ce87,hcl87,hM87,hcc87,hfr87⟩:=Kd.R_elem HX87.out z31 (t7:Int) (of_decide_eq_true zq_) (by have h_:(t7:Int)<((x12_3.length:Int):Int):=of_decide_eq_true zq_;first|exact h_|(have e_:=(Kd.R_reads' HO_12.out).1;omega)|simpa using h_)
        obtain rfl:=k31_openM hM87
        have HP87:=Kd.R_seg HX87.out (t7:Int) (of_decide_eq_true zq_) (by have h_:(t7:Int)<((x12_3.length:Int):Int):=of_decide_eq_true zq_;first|exact h_|(have e_:=(Kd.R_reads' HO_12.out).1;omega)|simpa using h_) (seg:=[.string a2]) (j:=1) hcl87 hcc87 (show 2≤12 from by decide) (x':=(⟨(rd_T31 x12_3 t7).f0,a2,(⟨(rd_T31 x12_3 t7).f2.f0,(rd_T31 x12_3 t7).f2.f1,(rd_T31 x12_3 t7).f2.f2⟩:S27),(⟨(rd_T31 x12_3 t7).f3.f0,(rd_T31 x12_3 t7).f3.f1,(rd_T31 x12_3 t7).f3.f2⟩:S27),(⟨(rd_T31 x12_3 t7).f4.f0,(rd_T31 x12_3 t7).f4.f1,(rd_T31 x12_3 t7).f4.f2⟩:S27),(rd_T31 x12_3 t7).f5⟩:S31)) (k31_mkM _ _ _ (⟨(rd_T31 x12_3 t7).f0,a2,(⟨(rd_T31 x12_3 t7).f2.f0,(rd_T31 x12_3 t7).f2.f1,(rd_T31 x12_3 t7).f2.f2⟩:S27),(⟨(rd_T31 x12_3 t7).f3.f0,(rd_T31 x12_3 t7).f3.f1,(rd_T31 x12_3 t7).f3.f2⟩:S27),(⟨(rd_T31 x12_3 t7).f4.f0,(rd_T31 x12_3 t7).f4.f1,(rd_T31 x12_3 t7).f4.f2⟩:S27),(rd_T31 x12_3 t7).f5⟩:S31)) (fun _ hk=>hk)
        have hx87_1:=hcc87 1 _ rfl
        (try simp only [show (k31).sz=12 from rfl,Nat.mul_one,Nat.add_zero] at hx87_1)
        have hf87_1:=hfr87 1
        (try simp only [show (k31).sz=12 from rfl,Nat.mul_one,Nat.add_zero] at hf87_1)
        clear hcl87 hcc87 hfr87 hM87
        go_wp2_with (first|((with_reducible refine gate_store (t:=9) (p:=134) rfl ?_);refine store_event (t:=9) (p:=134) (v:= ?vo_w88) (w1:=(wr.setCell ⟨go85,(t7:Int).toNat*12+1,none⟩ (.string a2))) ?hg ?ho ?hn ?hr ?_;(case ho=>rfl);(case hg=>rfl);(case hn=>rfl);(case hr=>first|(go_simp;done)|(go_simp;rfl));intro w88 hw;have hg:wr.grownBy w88 (some go85):=(by rw [hw];exact HP87.2);have hp_:Kd.R k31 31 w88 w.heap.size (fun _=>True) (.slice (some ⟨go85,0,none⟩) x12_3.length co85) y40:=(by rw [hw,Ny40.out];exact HP87.1);clear HP87;replace HO_11:=am_ (Kd.R_over' (v:=(.slice (some ⟨go85,0,none⟩) x12_3.length co85)) (zr_ HO_11) (Kd.R_typed HO_12.out) (by decide) hg);replace BK1:=am_ (blk_grown (zb_ BK1) hg (Kd.R_ne HO_12.out BK1.out (by decide)));replace HO_12:=am_ (hp_);replace HB:=am_ ((by rw [hw];exact below_set (HB.out) GB85.out:Below w.heap.size w w88));clear hg hw hp_;have p41:0≤(t7:Int):=of_decide_eq_true zq_;have q41:t7<(y40.length:Int):=(by have h_:(t7:Int)<((x12_3.length:Int):Int):=of_decide_eq_true zq_;first|(have e_:=(Kd.R_reads' HO_12.out).1;omega)|simpa only [Ny40.out,List.length_set] using h_);obtain ⟨ad41,e41,hx41_0,hx41_1,hx41_2,hx41_3,hx41_4,hx41_5,hx41_6,hx41_7,hx41_8,hx41_9,hx41_10,hx41_11⟩:=at_T31 (Kd.R_reads' HO_12.out).2.2 t7 p41 q41;obtain rfl:(⟨go85,0,none⟩:Addr)=ad41:=(by injection e41);replace hx41_0:=za_ hx41_0;replace hx41_1:=za_ hx41_1;replace hx41_2:=za_ hx41_2;replace hx41_3:=za_ hx41_3;replace hx41_4:=za_ hx41_4;replace hx41_5:=za_ hx41_5;replace hx41_6:=za_ hx41_6;replace hx41_7:=za_ hx41_7;replace hx41_8:=za_ hx41_8;replace hx41_9:=za_ hx41_9;replace hx41_10:=za_ hx41_10;replace hx41_11:=za_ hx41_11;replace p41:=eq_true p41;replace q41:=eq_true q41;have p86:0≤(t7:Int):=of_decide_eq_true zq_;have q86:(t7:Int)<((x12_3.length:Int):Int):=of_decide_eq_true zq_;obtain ⟨ce86,hcl86,hM86,hcc86,hfr86⟩:=Kd.R_elem HO_12.out z31 (t7:Int) p86 q86;obtain rfl:=k31_openM hM86;have hf86_11:w88.frozen? ⟨go85,(t7:Int).toNat*12+11,none⟩=false:=hfr86 11;clear hcl86 hcc86 hfr86 hM86;replace p86:=eq_true p86;replace q86:=eq_true q86;have HX89:=am_ (show Kd.R k31 31 w88 w.heap.size (fun _=>True) (.slice (some ⟨go85,0,none⟩) x12_3.length co85) y40 from (zr_ HO_12));obtain ⟨ce89,hcl89,hM89,hcc89,hfr89⟩:=Kd.R_elem HX89.out z31 (t7:Int) (of_decide_eq_true zq_) (by have h_:(t7:Int)<((x12_3.length:Int):Int):=of_decide_eq_true zq_;first|exact h_|(have e_:=(Kd.R_reads' HO_12.out).1;omega)|simpa using h_);obtain rfl:=k31_openM hM89;have HP89:=Kd.R_seg HX89.out (t7:Int) (of_decide_eq_true zq_) (by have h_:(t7:Int)<((x12_3.length:Int):Int):=of_decide_eq_true zq_;first|exact h_|(have e_:=(Kd.R_reads' HO_12.out).1;omega)|simpa using h_) (seg:=[.int .i64 (wrap64 (((rd_T31 y40 t7).f5)+1))]) (j:=11) hcl89 hcc89 (show 12≤12 from by decide) (x':=(⟨(rd_T31 y40 t7).f0,(rd_T31 y40 t7).f1,(⟨(rd_T31 y40 t7).f2.f0,(rd_T31 y40 t7).f2.f1,(rd_T31 y40 t7).f2.f2⟩:S27),(⟨(rd_T31 y40 t7).f3.f0,(rd_T31 y40 t7).f3.f1,(rd_T31 y40 t7).f3.f2⟩:S27),(⟨(rd_T31 y40 t7).f4.f0,(rd_T31 y40 t7).f4.f1,(rd_T31 y40 t7).f4.f2⟩:S27),wrap64 (((rd_T31 y40 t7).f5)+1)⟩:S31)) (k31_mkM _ _ _ (⟨(rd_T31 y40 t7).f0,(rd_T31 y40 t7).f1,(⟨(rd_T31 y40 t7).f2.f0,(rd_T31 y40 t7).f2.f1,(rd_T31 y40 t7).f2.f2⟩:S27),(⟨(rd_T31 y40 t7).f3.f0,(rd_T31 y40 t7).f3.f1,(rd_T31 y40 t7).f3.f2⟩:S27),(⟨(rd_T31 y40 t7).f4.f0,(rd_T31 y40 t7).f4.f1,(rd_T31 y40 t7).f4.f2⟩:S27),wrap64 (((rd_T31 y40 t7).f5)+1)⟩:S31)) (fun _ hk=>hk);have hx89_11:=hcc89 11 _ rfl;(try simp only [show (k31).sz=12 from rfl,Nat.mul_one,Nat.add_zero] at hx89_11);have hf89_11:=hfr89 11;(try simp only [show (k31).sz=12 from rfl,Nat.mul_one,Nat.add_zero] at hf89_11);clear hcl89 hcc89 hfr89 hM89)|((with_reducible refine gate_store (t:=3) (p:=142) rfl ?_);refine store_event (t:=3) (p:=142) (v:= ?vo_w90) (w1:=(w88.setCell ⟨go85,(t7:Int).toNat*12+11,none⟩ (.int .i64 (wrap64 (((rd_T31 y40 t7).f5)+1))))) ?hg ?ho ?hn ?hr ?_;(case ho=>rfl);(case hg=>rfl);(case hn=>rfl);(case hr=>first|(go_simp;done)|(go_simp;rfl));intro w90 hw;have hg:w88.grownBy w90 (some go85):=(by rw [hw];exact HP89.2);have hp_:Kd.R k31 31 w90 w.heap.size (fun _=>True) (.slice (some ⟨go85,0,none⟩) x12_3.length co85) y42:=(by rw [hw,Ny42.out];exact HP89.1);clear HP89;replace HO_11:=am_ (Kd.R_over' (v:=(.slice (some ⟨go85,0,none⟩) x12_3.length co85)) (zr_ HO_11) (Kd.R_typed HO_12.out) (by decide) hg);replace BK1:=am_ (blk_grown (zb_ BK1) hg (Kd.R_ne HO_12.out BK1.out (by decide)));replace HO_12:=am_ (hp_);replace HB:=am_ ((by rw [hw];exact below_set (HB.out) GB85.out:Below w.heap.size w w90));clear hg hw hp_;obtain ⟨hcz91_0,hcz91_1⟩:=x2_ BK1;have hfz91_0:=blk_frozen BK1.out 0;have hfz91_1:=blk_frozen BK1.out 1))
        refine bodyPost_ret (results_cell_row rfl _ _ gb1 67 #[.slice (some ⟨go85,0,none⟩) x12_3.length co85, .int .i64 0] (0,0) _ rfl (zw_ BK1) Try.underlying67 rfl (by kernel_rfl)) rfl ?_
        exact ⟨_,by first|rfl|(simp [errW_none,errW_some]<;>rfl)|(simp [*,errW_none,errW_some]<;>rfl),zy_ HO_12 BK1,zl1_ HB GE1⟩
       rw [if_pos c54] at H
       have c54b0:decide (x16_3<(t8.length:Int))=true:=decide_eq_true c54
       clear c54
       by_cases c55:0≤x16_3
       rotate_left
       ·rw [if_neg c55] at H
        exact absurd H (by simp)
       rw [if_pos c55] at H
       have c55b0:decide (0≤x16_3)=true:=decide_eq_true c55
       clear c55
       replace H:=Option.bind_eq_some_iff.mp H
       obtain ⟨t44,A560,H⟩:=H
       try dsimp only at H
       have A56:=Aside0.mk A560
       clear A560
       by_cases c57:0≤t44
       rotate_left
       ·rw [if_neg c57] at H
        exact absurd H (by simp)
       rw [if_pos c57] at H
       have c57b0:decide (0≤t44)=true:=decide_eq_true c57
       clear c57
       by_cases c58:t44<(x12_3.length:Int)
       rotate_left
       ·rw [if_neg c58] at H
        exact absurd H (by simp)
       rw [if_pos c58] at H
       have c58b0:decide (t44<(x12_3.length:Int))=true:=decide_eq_true c58
       clear c58
       by_cases c59:0≤t7
       rotate_left
       ·rw [if_neg c59] at H
        exact absurd H (by simp)
       rw [if_pos c59] at H
       have c59b0:decide (0≤t7)=true:=decide_eq_true c59
       clear c59
       by_cases c60:t7<(l0.length:Int)
       rotate_left
       ·rw [if_neg c60] at H
        exact absurd H (by simp)
       rw [if_pos c60] at H
       have c60b0:decide (t7<(l0.length:Int))=true:=decide_eq_true c60
       clear c60
       replace H:=Option.bind_eq_some_iff.mp H
       obtain ⟨⟨t47,t48,t49⟩,A610,H⟩:=H
       try dsimp only at H
       have A61:=Aside0.mk A610
       clear A610
       obtain ⟨y50,hy50⟩: ∃y_:List (S31),y_=(x12_3.set (t44:Int).toNat (⟨(rd_T31 x12_3 t44).f0,(rd_T31 x12_3 t44).f1,(⟨(rd_T31 x12_3 t44).f2.f0,(rd_T31 x12_3 t44).f2.f1,(rd_T31 x12_3 t44).f2.f2⟩:S27),(⟨(rd_T31 x12_3 t44).f3.f0,(rd_T31 x12_3 t44).f3.f1,(rd_T31 x12_3 t44).f3.f2⟩:S27),(⟨t47,t48,t49⟩:S27),(rd_T31 x12_3 t44).f5⟩:S31)):=⟨_,rfl⟩
       replace H:((r10_Le.f ((rd_T31 y50 t44).f4.f0) ((rd_T31 y50 t44).f4.f1) ((rd_T31 y50 t44).f4.f2) ((rd_T31 y50 t44).f2.f0) ((rd_T31 y50 t44).f2.f1) ((rd_T31 y50 t44).f2.f2)).bind fun t53=>(if t53=true then (r10_Move.l1 k3 l0 a2 t7 t8 y50 (wrap64 (x16_3+1))) else ((r10_no.f 12).bind fun bt54=>(some (bt54.1,bt54.2)))))=some (r1,r2):=by first|(rw [hy50];with_reducible exact H)|(have H2_:=(Option.bind_some _ _).symm.trans H;rw [hy50];with_reducible exact H2_)|(have H2_:=(Option.bind_some _ _).symm.trans H;with_reducible exact H2_)|with_reducible exact H|(rw [hy50];exact H)|exact H
       have Ny50:=Aside0.mk hy50
       clear hy50
       replace H:=Option.bind_eq_some_iff.mp H
       obtain ⟨t53,A630,H⟩:=H
       try dsimp only at H
       have A63:=Aside0.mk A630
       clear A630
       by_cases c64:t53=true
       ·subst c64
        have H1:(r10_Move.l1 k3 l0 a2 t7 t8 y50 (wrap64 (x16_3+1)))=some (r1,r2):=by rw [if_pos rfl] at H;exact H
        clear H
        have H:=H1
        clear H1
        have H':=Aside0.mk H
        clear H
        have p43:0≤(x16_3:Int):=of_decide_eq_true zq_
        have q43:x16_3<(t8.length:Int):=of_decide_eq_true zq_
        obtain ⟨ad43,e43,hx43_0⟩:=Kd.at_string (Kd.R_reads' HO_11.out).2.2 x16_3 p43 q43
        cases e43
        replace p43:=eq_true p43
        replace q43:=eq_true q43
        obtain ⟨Ao65,co65,eo65⟩:=Kd.R_slice HO_12.out
        subst eo65
        try go_wp2_with (first|((with_reducible refine gate_callee (f:=50) rfl ?_);refine gl_ (some 101) Try.func50 #[.slice Ao65 x12_3.length co65, .string (rdOf ByteArray.empty t8 x16_3)] ?_;(with_reducible refine (r10_Find.calls k3 _ _ x12_3 (rdOf ByteArray.empty t8 x16_3) t44 _ ?side1 ?side2 A56.out).mono ?_);(case side1=>exact zc_ (Kd.R_reads' HO_12.out).2.2);(case side2=>exact (Kd.R_reads' HO_12.out).2.1);rintro e w' ⟨rfl,⟨nd,rfl⟩⟩;refine ⟨_,rfl, ?_⟩;(try (rw [drewN_self wr];generalize hq_:World.drewN wr _=wr;have n0_:Aside0 (Kd.R Kd.string 9 wr w.heap.size (fun _=>True) (.slice (some ad43) t8.length co36) t8):=⟨by rw [←hq_];exact (zr_ HO_11)⟩;have n1_:Aside0 (Kd.R k31 31 wr w.heap.size (fun _=>True) (.slice Ao65 x12_3.length co65) x12_3):=⟨by rw [←hq_];exact (zr_ HO_12)⟩;have n2_:Aside0 (wr.heap[gb1]?=some (.cells #[.slice none 0 0, .int .i64 x2001_3] 67 (0,0))):=⟨by rw [←hq_];exact (zb_ BK1)⟩;have n3_:Aside0 (Below w.heap.size w wr):=⟨by rw [←hq_];exact (zl1_ HB GE1)⟩;clear HO_11 HO_12 BK1 HB hq_;have HO_11:=n0_;have HO_12:=n1_;have BK1:=n2_;have HB:=n3_;clear n0_ n1_ n2_ n3_))))
        replace HO_11:=am_ (Kd.R_drew HO_11.out)
        replace HO_12:=am_ (Kd.R_drew HO_12.out)
        replace BK1:=am_ (blk_drew BK1.out)
        replace HB:=am_ (below_drew1 HB.out)
        have p45:0≤(t44:Int):=of_decide_eq_true zq_
        have q45:t44<(x12_3.length:Int):=of_decide_eq_true zq_
        obtain ⟨ad45,e45,hx45_0,hx45_1,hx45_2,hx45_3,hx45_4,hx45_5,hx45_6,hx45_7,hx45_8,hx45_9,hx45_10,hx45_11⟩:=at_T31 (Kd.R_reads' HO_12.out).2.2 t44 p45 q45
        cases e45
        replace p45:=eq_true p45
        replace q45:=eq_true q45
        have p46:0≤(t7:Int):=of_decide_eq_true zq_
        have q46:t7<(l0.length:Int):=of_decide_eq_true zq_
        obtain ⟨ad46,e46,hx46_0,hx46_1,hx46_2,hx46_3,hx46_4,hx46_5,hx46_6,hx46_7,hx46_8,hx46_9,hx46_10,hx46_11⟩:=at_T31 HR0.out t7 p46 q46
        have hw46_11:=hx46_11
        have hw46_10:=hx46_10
        have hw46_9:=hx46_9
        have hw46_8:=hx46_8
        have hw46_7:=hx46_7
        have hw46_6:=hx46_6
        have hw46_5:=hx46_5
        have hw46_4:=hx46_4
        have hw46_3:=hx46_3
        have hw46_2:=hx46_2
        have hw46_1:=hx46_1
        have hw46_0:=hx46_0
        obtain rfl:ad20=ad46:=(by injection e46)
        replace hx46_0:=zx_ HB hx46_0
        replace hx46_1:=zx_ HB hx46_1
        replace hx46_2:=zx_ HB hx46_2
        replace hx46_3:=zx_ HB hx46_3
        replace hx46_4:=zx_ HB hx46_4
        replace hx46_5:=zx_ HB hx46_5
        replace hx46_6:=zx_ HB hx46_6
        replace hx46_7:=zx_ HB hx46_7
        replace hx46_8:=zx_ HB hx46_8
        replace hx46_9:=zx_ HB hx46_9
        replace hx46_10:=zx_ HB hx46_10
        replace hx46_11:=zx_ HB hx46_11
        replace p46:=eq_true p46
        replace q46:=eq_true q46
        refine start_ (n:=16) (S:=fun w'=>w'.cell? (ad45.add ((t44).toNat*12))=some (.string ((rd_T31 x12_3 t44).f0))∧w'.cell? ⟨(ad45.add ((t44).toNat*12)).block,(ad45.add ((t44).toNat*12)).off+1,none⟩=some (.string ((rd_T31 x12_3 t44).f1))∧w'.cell? ⟨(ad45.add ((t44).toNat*12)).block,(ad45.add ((t44).toNat*12)).off+2,none⟩=some (.int .i64 ((rd_T31 x12_3 t44).f2.f0))∧w'.cell? ⟨(ad45.add ((t44).toNat*12)).block,(ad45.add ((t44).toNat*12)).off+3,none⟩=some (.int .i64 ((rd_T31 x12_3 t44).f2.f1))∧w'.cell? ⟨(ad45.add ((t44).toNat*12)).block,(ad45.add ((t44).toNat*12)).off+4,none⟩=some (.int .i64 ((rd_T31 x12_3 t44).f2.f2))∧w'.cell? ⟨(ad45.add ((t44).toNat*12)).block,(ad45.add ((t44).toNat*12)).off+5,none⟩=some (.int .i64 ((rd_T31 x12_3 t44).f3.f0))∧w'.cell? ⟨(ad45.add ((t44).toNat*12)).block,(ad45.add ((t44).toNat*12)).off+6,none⟩=some (.int .i64 ((rd_T31 x12_3 t44).f3.f1))∧w'.cell? ⟨(ad45.add ((t44).toNat*12)).block,(ad45.add ((t44).toNat*12)).off+7,none⟩=some (.int .i64 ((rd_T31 x12_3 t44).f3.f2))∧w'.cell? ⟨(ad45.add ((t44).toNat*12)).block,(ad45.add ((t44).toNat*12)).off+8,none⟩=some (.int .i64 ((rd_T31 x12_3 t44).f4.f0))∧w'.cell? ⟨(ad45.add ((t44).toNat*12)).block,(ad45.add ((t44).toNat*12)).off+9,none⟩=some (.int .i64 ((rd_T31 x12_3 t44).f4.f1))∧w'.cell? ⟨(ad45.add ((t44).toNat*12)).block,(ad45.add ((t44).toNat*12)).off+10,none⟩=some (.int .i64 ((rd_T31 x12_3 t44).f4.f2))∧w'.cell? ⟨(ad45.add ((t44).toNat*12)).block,(ad45.add ((t44).toNat*12)).off+11,none⟩=some (.int .i64 ((rd_T31 x12_3 t44).f5))∧w'.cell? (ad20.add ((t7).toNat*12))=some (.string ((rd_T31 l0 t7).f0))∧w'.cell? ⟨(ad20.add ((t7).toNat*12)).block,(ad20.add ((t7).toNat*12)).off+1,none⟩=some (.string ((rd_T31 l0 t7).f1))∧w'.cell? ⟨(ad20.add ((t7).toNat*12)).block,(ad20.add ((t7).toNat*12)).off+2,none⟩=some (.int .i64 ((rd_T31 l0 t7).f2.f0))∧w'.cell? ⟨(ad20.add ((t7).toNat*12)).block,(ad20.add ((t7).toNat*12)).off+3,none⟩=some (.int .i64 ((rd_T31 l0 t7).f2.f1))∧w'.cell? ⟨(ad20.add ((t7).toNat*12)).block,(ad20.add ((t7).toNat*12)).off+4,none⟩=some (.int .i64 ((rd_T31 l0 t7).f2.f2))∧w'.cell? ⟨(ad20.add ((t7).toNat*12)).block,(ad20.add ((t7).toNat*12)).off+5,none⟩=some (.int .i64 ((rd_T31 l0 t7).f3.f0))∧w'.cell? ⟨(ad20.add ((t7).toNat*12)).block,(ad20.add ((t7).toNat*12)).off+6,none⟩=some (.int .i64 ((rd_T31 l0 t7).f3.f1))∧w'.cell? ⟨(ad20.add ((t7).toNat*12)).block,(ad20.add ((t7).toNat*12)).off+7,none⟩=some (.int .i64 ((rd_T31 l0 t7).f3.f2))∧w'.cell? ⟨(ad20.add ((t7).toNat*12)).block,(ad20.add ((t7).toNat*12)).off+8,none⟩=some (.int .i64 ((rd_T31 l0 t7).f4.f0))∧w'.cell? ⟨(ad20.add ((t7).toNat*12)).block,(ad20.add ((t7).toNat*12)).off+9,none⟩=some (.int .i64 ((rd_T31 l0 t7).f4.f1))∧w'.cell? ⟨(ad20.add ((t7).toNat*12)).block,(ad20.add ((t7).toNat*12)).off+10,none⟩=some (.int .i64 ((rd_T31 l0 t7).f4.f2))∧w'.cell? ⟨(ad20.add ((t7).toNat*12)).block,(ad20.add ((t7).toNat*12)).off+11,none⟩=some (.int .i64 ((rd_T31 l0 t7).f5))) (ds:=[15]) (bt_ 16 0) (by kernel_rfl) rfl rfl ⟨hx45_0,hx45_1,hx45_2,hx45_3,hx45_4,hx45_5,hx45_6,hx45_7,hx45_8,hx45_9,hx45_10,hx45_11,(zx_ HB hw46_0),(zx_ HB hw46_1),(zx_ HB hw46_2),(zx_ HB hw46_3),(zx_ HB hw46_4),(zx_ HB hw46_5),(zx_ HB hw46_6),(zx_ HB hw46_7),(zx_ HB hw46_8),(zx_ HB hw46_9),(zx_ HB hw46_10),(zx_ HB hw46_11)⟩ (fun hHeld=> ?_);refine with_tabW r10_Move.tab23 r10_Move.bits23 (fun HT_ HW_=> ?_)
        generalize wr.drew=w66 at HO_11 HO_12 BK1 HB hx45_0 hx45_1 hx45_10 hx45_11 hx45_2 hx45_3 hx45_4 hx45_5 hx45_6 hx45_7 hx45_8 hx45_9 hx46_0 hx46_1 hx46_10 hx46_11 hx46_2 hx46_3 hx46_4 hx46_5 hx46_6 hx46_7 hx46_8 hx46_9 hHeld ⊢
        refine pu_ (i:=0) (N:=some 102) (bt_ 16 1) HT_ ?_
        refine pu_ (i:=1) (N:=some 103) (bt_ 16 3) HT_ ?_
        refine pu_ (i:=2) (N:=some 104) (bt_ 16 7) HT_ ?_
        refine pu_ (i:=3) (N:=some 105) (bt_ 16 15) HT_ ?_
        refine pu_ (i:=4) (N:=some 106) (bt_ 16 31) HT_ ?_
        refine pu_ (i:=5) (N:=some 107) (bt_ 16 63) HT_ ?_
        refine pu_ (i:=7) (N:=some 109) (bt_ 16 191) HT_ ?_
        refine pu_ (i:=8) (N:=some 110) (bt_ 16 447) HT_ ?_
        refine pu_ (i:=9) (N:=some 111) (bt_ 16 959) HT_ ?_
        refine pu_ (i:=10) (N:=some 112) (bt_ 16 1983) HT_ ?_
        refine tk_ (i:=6) (N:=some 108) (bt_ 16 2047) HT_ HW_ hHeld ?_
        refine tk_ (i:=11) (N:=some 113) (bt_ 16 4095) HT_ HW_ hHeld ?_
        refine on_ (i:=12) (N:=some 114) (bt_ 16 8191) HT_ (fun K hK=> ?_)
        refine gs_ Try.func63 #[.agg #[.int .i64 ((rd_T31 x12_3 t44).f4.f0), .int .i64 ((rd_T31 x12_3 t44).f4.f1), .int .i64 ((rd_T31 x12_3 t44).f4.f2)], .agg #[.int .i64 ((rd_T31 l0 t7).f4.f0), .int .i64 ((rd_T31 l0 t7).f4.f1), .int .i64 ((rd_T31 l0 t7).f4.f2)]] ?_
        with_reducible refine (r10_Add.calls ((rd_T31 x12_3 t44).f4.f0) ((rd_T31 x12_3 t44).f4.f1) ((rd_T31 x12_3 t44).f4.f2) ((rd_T31 l0 t7).f4.f0) ((rd_T31 l0 t7).f4.f1) ((rd_T31 l0 t7).f4.f2) t47 t48 t49 _ A61.out).mono ?_
        rintro e w67 ⟨rfl,hb⟩
        have HS0_:=zh_ hb (hHeld.1)
        have HS1_:=zh_ hb (hHeld.2.1)
        have HS2_:=zh_ hb (hHeld.2.2.1)
        have HS3_:=zh_ hb (hHeld.2.2.2.1)
        have HS4_:=zh_ hb (hHeld.2.2.2.2.1)
        have HS5_:=zh_ hb (hHeld.2.2.2.2.2.1)
        have HS6_:=zh_ hb (hHeld.2.2.2.2.2.2.1)
        have HS7_:=zh_ hb (hHeld.2.2.2.2.2.2.2.1)
        have HS8_:=zh_ hb (hHeld.2.2.2.2.2.2.2.2.1)
        have HS9_:=zh_ hb (hHeld.2.2.2.2.2.2.2.2.2.1)
        have HS10_:=zh_ hb (hHeld.2.2.2.2.2.2.2.2.2.2.1)
        have HS11_:=zh_ hb (hHeld.2.2.2.2.2.2.2.2.2.2.2.1)
        refine ⟨_,rfl, ?_⟩
        replace HO_11:=am_ (Kd.R_below (zr_ HO_11) hb)
        replace HO_12:=am_ (Kd.R_below (zr_ HO_12) hb)
        replace BK1:=am_ (blk_below (zb_ BK1) hb)
        replace HB:=am_ (below_step (zl1_ HB GE1) hb)
        (try clear hb)
        (try clear hb2)
        (try clear hk)
        (try clear hi)
        have p62:0≤(t44:Int):=of_decide_eq_true zq_
        have q62:(t44:Int)<((x12_3.length:Int):Int):=of_decide_eq_true zq_
        obtain ⟨go62,co62,eo62,gb62,gl62,cl62,HG62⟩:=Kd.R_form HO_12.out (by omega)
        (first|cases eo62|(injection eo62 with ea_ en_ ec_;(first|subst ea_|(injection ea_ with ea_;subst ea_));subst ec_;clear en_))
        have GB62:=Aside0.mk gb62
        have GG62:=Aside0.mk HG62
        clear gb62 gl62 HG62
        replace hx45_0:=zv_ hx45_0
        replace hx45_1:=zv_ hx45_1
        replace hx45_2:=zv_ hx45_2
        replace hx45_3:=zv_ hx45_3
        replace hx45_4:=zv_ hx45_4
        replace hx45_5:=zv_ hx45_5
        replace hx45_6:=zv_ hx45_6
        replace hx45_7:=zv_ hx45_7
        replace hx45_8:=zv_ hx45_8
        replace hx45_9:=zv_ hx45_9
        replace hx45_10:=zv_ hx45_10
        replace hx45_11:=zv_ hx45_11
        obtain ⟨ce62,hcl62,hM62,hcc62,hfr62⟩:=Kd.R_elem HO_12.out z31 (t44:Int) p62 q62
        obtain rfl:=k31_openM hM62
        have hx62_8:World.cell? _ ⟨go62,(t44:Int).toNat*12+8,none⟩=some (.int .i64 ((rd_T31 x12_3 t44).f4.f0)):=hcc62 8 _ rfl
        have hx62_9:World.cell? _ ⟨go62,(t44:Int).toNat*12+9,none⟩=some (.int .i64 ((rd_T31 x12_3 t44).f4.f1)):=hcc62 9 _ rfl
        have hx62_10:World.cell? _ ⟨go62,(t44:Int).toNat*12+10,none⟩=some (.int .i64 ((rd_T31 x12_3 t44).f4.f2)):=hcc62 10 _ rfl
        have hf62_8:World.frozen? _ ⟨go62,(t44:Int).toNat*12+8,none⟩=false:=hfr62 8
        have hf62_9:World.frozen? _ ⟨go62,(t44:Int).toNat*12+9,none⟩=false:=hfr62 9
        have hf62_10:World.frozen? _ ⟨go62,(t44:Int).toNat*12+10,none⟩=false:=hfr62 10
        clear hcl62 hcc62 hfr62 hM62
        replace p62:=eq_true p62
        replace q62:=eq_true q62
        obtain ⟨ce68,hcl68,hM68,hcc68,hfr68⟩:=Kd.R_elem HO_12.out z31 (t44:Int) (of_decide_eq_true zq_) (by have h_:(t44:Int)<((x12_3.length:Int):Int):=of_decide_eq_true zq_;first|exact h_|(have e_:=(Kd.R_reads' HO_12.out).1;omega)|simpa using h_)
        obtain rfl:=k31_openM hM68
        have HP68:=(Kd.R_seg HO_12.out (t44:Int) (of_decide_eq_true zq_) (by have h_:(t44:Int)<((x12_3.length:Int):Int):=of_decide_eq_true zq_;first|exact h_|(have e_:=(Kd.R_reads' HO_12.out).1;omega)|simpa using h_) (seg:=[.int .i64 t47, .int .i64 t48, .int .i64 t49]) (j:=8) hcl68 hcc68 (show 11≤12 from by decide) (x':=(⟨(rd_T31 x12_3 t44).f0,(rd_T31 x12_3 t44).f1,(⟨(rd_T31 x12_3 t44).f2.f0,(rd_T31 x12_3 t44).f2.f1,(rd_T31 x12_3 t44).f2.f2⟩:S27),(⟨(rd_T31 x12_3 t44).f3.f0,(rd_T31 x12_3 t44).f3.f1,(rd_T31 x12_3 t44).f3.f2⟩:S27),(⟨t47,t48,t49⟩:S27),(rd_T31 x12_3 t44).f5⟩:S31)) (k31_mkM _ _ _ (⟨(rd_T31 x12_3 t44).f0,(rd_T31 x12_3 t44).f1,(⟨(rd_T31 x12_3 t44).f2.f0,(rd_T31 x12_3 t44).f2.f1,(rd_T31 x12_3 t44).f2.f2⟩:S27),(⟨(rd_T31 x12_3 t44).f3.f0,(rd_T31 x12_3 t44).f3.f1,(rd_T31 x12_3 t44).f3.f2⟩:S27),(⟨t47,t48,t49⟩:S27),(rd_T31 x12_3 t44).f5⟩:S31)) (fun _ hk=>hk)).1
        rw [←Ny50.out] at HP68
        have HQ68:=Aside0.mk HP68
        clear hcl68 hcc68 hfr68 hM68 HP68
        refine hK.out _ _ ⟨HS0_,HS1_,HS2_,HS3_,HS4_,HS5_,HS6_,HS7_,HS8_,HS9_,HS10_,HS11_,(zx_ HB hw46_0),(zx_ HB hw46_1),(zx_ HB hw46_2),(zx_ HB hw46_3),(zx_ HB hw46_4),(zx_ HB hw46_5),(zx_ HB hw46_6),(zx_ HB hw46_7),(zx_ HB hw46_8),(zx_ HB hw46_9),(zx_ HB hw46_10),(zx_ HB hw46_11)⟩ (fun hHeld=> ?_)
        clear hK K
        refine no_ (N:=some 114) ?_
        refine pu_ (i:=13) (N:=some 115) (bt_ 16 16383) HT_ ?_
        refine pu_ (i:=14) (N:=some 116) (bt_ 16 32767) HT_ ?_
        refine last_ (i:=15) (N:=none) (bt_ 16 65535) rfl rfl (one_of HT_.out (by kernel_rfl)) (by decide) (fun K hK=> ?_)
        refine skip_ (w1:= ?_) (by rfl) rfl ?_ ?_
        rotate_left
        ·go_simp
         rfl
        refine hK.out _ _ ?_
        clear hK K
        refine done_ (done_of HT_.out (by kernel_rfl)) ?_
        try go_wp2
        have n0_:Aside0 (Kd.R Kd.string 9 (((w67.setCell ⟨go62,(t44:Int).toNat*12+8,none⟩ (.int .i64 t47)).setCell ⟨go62,(t44:Int).toNat*12+9,none⟩ (.int .i64 t48)).setCell ⟨go62,(t44:Int).toNat*12+10,none⟩ (.int .i64 t49)) w.heap.size (fun _=>True) (.slice (some ad43) t8.length co36) t8):=⟨by (with_reducible repeat (first|apply Kd.R_alloc|apply Kd.R_drewN|apply Kd.R_drew));exact Kd.R_mono (Kd.R_far (p:=⟨go62,(t44:Int).toNat*12+10,none⟩) (Kd.R_far (p:=⟨go62,(t44:Int).toNat*12+9,none⟩) (Kd.R_far (p:=⟨go62,(t44:Int).toNat*12+8,none⟩) (Kd.R_types HO_11.out GG62.out (by decide)) (fun _ hk=>hk.2) (.int .i64 t47)) (fun _ hk=>hk.2) (.int .i64 t48)) (fun _ hk=>hk.2) (.int .i64 t49)) (fun _ hk=>trivial)⟩
        have n1_:Aside0 (Kd.R k31 31 (((w67.setCell ⟨go62,(t44:Int).toNat*12+8,none⟩ (.int .i64 t47)).setCell ⟨go62,(t44:Int).toNat*12+9,none⟩ (.int .i64 t48)).setCell ⟨go62,(t44:Int).toNat*12+10,none⟩ (.int .i64 t49)) w.heap.size (fun _=>True) (.slice (some ⟨go62,0,none⟩) x12_3.length co65) y50):=⟨by (with_reducible repeat (first|apply Kd.R_alloc|apply Kd.R_drewN|apply Kd.R_drew));exact HQ68.out⟩
        have n2_:Aside0 ((((w67.setCell ⟨go62,(t44:Int).toNat*12+8,none⟩ (.int .i64 t47)).setCell ⟨go62,(t44:Int).toNat*12+9,none⟩ (.int .i64 t48)).setCell ⟨go62,(t44:Int).toNat*12+10,none⟩ (.int .i64 t49)).heap[gb1]?=some (.cells #[.slice none 0 0, .int .i64 x2001_3] 67 (0,0))):=⟨by refine zk_ ?_;refine blk_far ?_ (by have h_:=Kd.R_ne HO_12.out BK1.out (by decide);intro e_;exact h_ (by rw [e_];rfl)) _;refine zk_ ?_;refine blk_far ?_ (by have h_:=Kd.R_ne HO_12.out BK1.out (by decide);intro e_;exact h_ (by rw [e_];rfl)) _;refine zk_ ?_;refine blk_far ?_ (by have h_:=Kd.R_ne HO_12.out BK1.out (by decide);intro e_;exact h_ (by rw [e_];rfl)) _;refine zk_ ?_;exact BK1.out⟩
        have n3_:Aside0 (Below w.heap.size w (((w67.setCell ⟨go62,(t44:Int).toNat*12+8,none⟩ (.int .i64 t47)).setCell ⟨go62,(t44:Int).toNat*12+9,none⟩ (.int .i64 t48)).setCell ⟨go62,(t44:Int).toNat*12+10,none⟩ (.int .i64 t49))):=⟨zl4_ HB GB62 GB62 GB62 GE1⟩
        (try clear HO_11)
        (try clear HO_12)
        (try clear BK1)
        (try clear HB)
        generalize (((w67.setCell ⟨go62,(t44:Int).toNat*12+8,none⟩ (.int .i64 t47)).setCell ⟨go62,(t44:Int).toNat*12+9,none⟩ (.int .i64 t48)).setCell ⟨go62,(t44:Int).toNat*12+10,none⟩ (.int .i64 t49))=w69 at n0_ n1_ n2_ n3_ ⊢
        have HO_11:=n0_
        have HO_12:=n1_
        have BK1:=n2_
        have HB:=n3_
        clear n0_ n1_ n2_ n3_
        replace HO_11:=am_ (Kd.R_drew HO_11.out)
        replace HO_12:=am_ (Kd.R_drew HO_12.out)
        replace BK1:=am_ (blk_drew BK1.out)
        replace HB:=am_ (below_drew1 HB.out)
        have p51:0≤(t44:Int):=of_decide_eq_true zq_
        have q51:t44<(y50.length:Int):=(by have h_:(t44:Int)<((x12_3.length:Int):Int):=of_decide_eq_true zq_;first|(have e_:=(Kd.R_reads' HO_12.out).1;omega)|simpa only [Ny50.out,List.length_set] using h_)
        obtain ⟨ad51,e51,hx51_0,hx51_1,hx51_2,hx51_3,hx51_4,hx51_5,hx51_6,hx51_7,hx51_8,hx51_9,hx51_10,hx51_11⟩:=at_T31 (Kd.R_reads' HO_12.out).2.2 t44 p51 q51
        obtain rfl:(⟨go62,0,none⟩:Addr)=ad51:=(by injection e51)
        replace hx51_0:=za_ hx51_0
        replace hx51_1:=za_ hx51_1
        replace hx51_2:=za_ hx51_2
        replace hx51_3:=za_ hx51_3
        replace hx51_4:=za_ hx51_4
        replace hx51_5:=za_ hx51_5
        replace hx51_6:=za_ hx51_6
        replace hx51_7:=za_ hx51_7
        replace hx51_8:=za_ hx51_8
        replace hx51_9:=za_ hx51_9
        replace hx51_10:=za_ hx51_10
        replace hx51_11:=za_ hx51_11
        replace p51:=eq_true p51
        replace q51:=eq_true q51
        have p52:0≤(t44:Int):=of_decide_eq_true zq_
        have q52:t44<(y50.length:Int):=(by have h_:(t44:Int)<((x12_3.length:Int):Int):=of_decide_eq_true zq_;first|(have e_:=(Kd.R_reads' HO_12.out).1;omega)|simpa only [Ny50.out,List.length_set] using h_)
        obtain ⟨ad52,e52,hx52_0,hx52_1,hx52_2,hx52_3,hx52_4,hx52_5,hx52_6,hx52_7,hx52_8,hx52_9,hx52_10,hx52_11⟩:=at_T31 (Kd.R_reads' HO_12.out).2.2 t44 p52 q52
        obtain rfl:(⟨go62,0,none⟩:Addr)=ad52:=(by injection e52)
        replace hx52_0:=za_ hx52_0
        replace hx52_1:=za_ hx52_1
        replace hx52_2:=za_ hx52_2
        replace hx52_3:=za_ hx52_3
        replace hx52_4:=za_ hx52_4
        replace hx52_5:=za_ hx52_5
        replace hx52_6:=za_ hx52_6
        replace hx52_7:=za_ hx52_7
        replace hx52_8:=za_ hx52_8
        replace hx52_9:=za_ hx52_9
        replace hx52_10:=za_ hx52_10
        replace hx52_11:=za_ hx52_11
        replace p52:=eq_true p52
        replace q52:=eq_true q52
        refine start_ (n:=12) (S:=fun w'=>w'.cell? ⟨go62,(t44).toNat*12,none⟩=some (.string ((rd_T31 y50 t44).f0))∧w'.cell? ⟨go62,(t44).toNat*12+1,none⟩=some (.string ((rd_T31 y50 t44).f1))∧w'.cell? ⟨go62,(t44).toNat*12+2,none⟩=some (.int .i64 ((rd_T31 y50 t44).f2.f0))∧w'.cell? ⟨go62,(t44).toNat*12+3,none⟩=some (.int .i64 ((rd_T31 y50 t44).f2.f1))∧w'.cell? ⟨go62,(t44).toNat*12+4,none⟩=some (.int .i64 ((rd_T31 y50 t44).f2.f2))∧w'.cell? ⟨go62,(t44).toNat*12+5,none⟩=some (.int .i64 ((rd_T31 y50 t44).f3.f0))∧w'.cell? ⟨go62,(t44).toNat*12+6,none⟩=some (.int .i64 ((rd_T31 y50 t44).f3.f1))∧w'.cell? ⟨go62,(t44).toNat*12+7,none⟩=some (.int .i64 ((rd_T31 y50 t44).f3.f2))∧w'.cell? ⟨go62,(t44).toNat*12+8,none⟩=some (.int .i64 ((rd_T31 y50 t44).f4.f0))∧w'.cell? ⟨go62,(t44).toNat*12+9,none⟩=some (.int .i64 ((rd_T31 y50 t44).f4.f1))∧w'.cell? ⟨go62,(t44).toNat*12+10,none⟩=some (.int .i64 ((rd_T31 y50 t44).f4.f2))∧w'.cell? ⟨go62,(t44).toNat*12+11,none⟩=some (.int .i64 ((rd_T31 y50 t44).f5))∧w'.cell? ⟨go62,(t44).toNat*12,none⟩=some (.string ((rd_T31 y50 t44).f0))∧w'.cell? ⟨go62,(t44).toNat*12+1,none⟩=some (.string ((rd_T31 y50 t44).f1))∧w'.cell? ⟨go62,(t44).toNat*12+2,none⟩=some (.int .i64 ((rd_T31 y50 t44).f2.f0))∧w'.cell? ⟨go62,(t44).toNat*12+3,none⟩=some (.int .i64 ((rd_T31 y50 t44).f2.f1))∧w'.cell? ⟨go62,(t44).toNat*12+4,none⟩=some (.int .i64 ((rd_T31 y50 t44).f2.f2))∧w'.cell? ⟨go62,(t44).toNat*12+5,none⟩=some (.int .i64 ((rd_T31 y50 t44).f3.f0))∧w'.cell? ⟨go62,(t44).toNat*12+6,none⟩=some (.int .i64 ((rd_T31 y50 t44).f3.f1))∧w'.cell? ⟨go62,(t44).toNat*12+7,none⟩=some (.int .i64 ((rd_T31 y50 t44).f3.f2))∧w'.cell? ⟨go62,(t44).toNat*12+8,none⟩=some (.int .i64 ((rd_T31 y50 t44).f4.f0))∧w'.cell? ⟨go62,(t44).toNat*12+9,none⟩=some (.int .i64 ((rd_T31 y50 t44).f4.f1))∧w'.cell? ⟨go62,(t44).toNat*12+10,none⟩=some (.int .i64 ((rd_T31 y50 t44).f4.f2))∧w'.cell? ⟨go62,(t44).toNat*12+11,none⟩=some (.int .i64 ((rd_T31 y50 t44).f5))) (ds:=[]) (bt_ 12 0) (by kernel_rfl) rfl rfl ⟨hx51_0,hx51_1,hx51_2,hx51_3,hx51_4,hx51_5,hx51_6,hx51_7,hx51_8,hx51_9,hx51_10,hx51_11,hx52_0,hx52_1,hx52_2,hx52_3,hx52_4,hx52_5,hx52_6,hx52_7,hx52_8,hx52_9,hx52_10,hx52_11⟩ (fun hHeld=> ?_);refine with_tabW r10_Move.tab24 r10_Move.bits24 (fun HT_ HW_=> ?_)
        generalize w69.drew=w70 at HO_11 HO_12 BK1 HB HQ68 hx51_0 hx51_1 hx51_10 hx51_11 hx51_2 hx51_3 hx51_4 hx51_5 hx51_6 hx51_7 hx51_8 hx51_9 hx52_0 hx52_1 hx52_10 hx52_11 hx52_2 hx52_3 hx52_4 hx52_5 hx52_6 hx52_7 hx52_8 hx52_9 hHeld ⊢
        refine pu_ (i:=0) (N:=some 117) (bt_ 12 1) HT_ ?_
        refine pu_ (i:=1) (N:=some 118) (bt_ 12 3) HT_ ?_
        refine pu_ (i:=2) (N:=some 119) (bt_ 12 7) HT_ ?_
        refine pu_ (i:=3) (N:=some 120) (bt_ 12 15) HT_ ?_
        refine pu_ (i:=5) (N:=some 122) (bt_ 12 47) HT_ ?_
        refine pu_ (i:=6) (N:=some 123) (bt_ 12 111) HT_ ?_
        refine pu_ (i:=7) (N:=some 124) (bt_ 12 239) HT_ ?_
        refine pu_ (i:=8) (N:=some 125) (bt_ 12 495) HT_ ?_
        refine tk_ (i:=4) (N:=some 121) (bt_ 12 511) HT_ HW_ hHeld ?_
        refine tk_ (i:=9) (N:=some 126) (bt_ 12 1023) HT_ HW_ hHeld ?_
        refine on_ (i:=10) (N:=some 127) (bt_ 12 2047) HT_ (fun K hK=> ?_)
        refine gs_ Try.func34 #[.agg #[.int .i64 ((rd_T31 y50 t44).f4.f0), .int .i64 ((rd_T31 y50 t44).f4.f1), .int .i64 ((rd_T31 y50 t44).f4.f2)], .agg #[.int .i64 ((rd_T31 y50 t44).f2.f0), .int .i64 ((rd_T31 y50 t44).f2.f1), .int .i64 ((rd_T31 y50 t44).f2.f2)]] ?_
        with_reducible refine (r10_Le.calls ((rd_T31 y50 t44).f4.f0) ((rd_T31 y50 t44).f4.f1) ((rd_T31 y50 t44).f4.f2) ((rd_T31 y50 t44).f2.f0) ((rd_T31 y50 t44).f2.f1) ((rd_T31 y50 t44).f2.f2) true _ A63.out).mono ?_
        rintro e w71 ⟨rfl,hb⟩
        have HS0_:=zh_ hb (hHeld.1)
        have HS1_:=zh_ hb (hHeld.2.1)
        have HS2_:=zh_ hb (hHeld.2.2.1)
        have HS3_:=zh_ hb (hHeld.2.2.2.1)
        have HS4_:=zh_ hb (hHeld.2.2.2.2.1)
        have HS5_:=zh_ hb (hHeld.2.2.2.2.2.1)
        have HS6_:=zh_ hb (hHeld.2.2.2.2.2.2.1)
        have HS7_:=zh_ hb (hHeld.2.2.2.2.2.2.2.1)
        have HS8_:=zh_ hb (hHeld.2.2.2.2.2.2.2.2.1)
        have HS9_:=zh_ hb (hHeld.2.2.2.2.2.2.2.2.2.1)
        have HS10_:=zh_ hb (hHeld.2.2.2.2.2.2.2.2.2.2.1)
        have HS11_:=zh_ hb (hHeld.2.2.2.2.2.2.2.2.2.2.2.1)
        have HS12_:=zh_ hb (hHeld.2.2.2.2.2.2.2.2.2.2.2.2.1)
        have HS13_:=zh_ hb (hHeld.2.2.2.2.2.2.2.2.2.2.2.2.2.1)
        have HS14_:=zh_ hb (hHeld.2.2.2.2.2.2.2.2.2.2.2.2.2.2.1)
        have HS15_:=zh_ hb (hHeld.2.2.2.2.2.2.2.2.2.2.2.2.2.2.2.1)
        have HS16_:=zh_ hb (hHeld.2.2.2.2.2.2.2.2.2.2.2.2.2.2.2.2.1)
        have HS17_:=zh_ hb (hHeld.2.2.2.2.2.2.2.2.2.2.2.2.2.2.2.2.2.1)
        have HS18_:=zh_ hb (hHeld.2.2.2.2.2.2.2.2.2.2.2.2.2.2.2.2.2.2.1)
        have HS19_:=zh_ hb (hHeld.2.2.2.2.2.2.2.2.2.2.2.2.2.2.2.2.2.2.2.1)
        have HS20_:=zh_ hb (hHeld.2.2.2.2.2.2.2.2.2.2.2.2.2.2.2.2.2.2.2.2.1)
        have HS21_:=zh_ hb (hHeld.2.2.2.2.2.2.2.2.2.2.2.2.2.2.2.2.2.2.2.2.2.1)
        have HS22_:=zh_ hb (hHeld.2.2.2.2.2.2.2.2.2.2.2.2.2.2.2.2.2.2.2.2.2.2.1)
        have HS23_:=zh_ hb (hHeld.2.2.2.2.2.2.2.2.2.2.2.2.2.2.2.2.2.2.2.2.2.2.2)
        refine ⟨_,rfl, ?_⟩
        replace HO_11:=am_ (Kd.R_below (zr_ HO_11) hb)
        replace HO_12:=am_ (Kd.R_below (zr_ HO_12) hb)
        replace BK1:=am_ (blk_below (zb_ BK1) hb)
        replace HB:=am_ (below_step (zl1_ HB GE1) hb)
        (try clear hb)
        (try clear hb2)
        (try clear hk)
        (try clear hi)
        refine hK.out _ _ ⟨HS0_,HS1_,HS2_,HS3_,HS4_,HS5_,HS6_,HS7_,HS8_,HS9_,HS10_,HS11_,HS12_,HS13_,HS14_,HS15_,HS16_,HS17_,HS18_,HS19_,HS20_,HS21_,HS22_,HS23_⟩ (fun hHeld=> ?_)
        clear hK K
        refine no_ (N:=some 127) ?_
        refine pu_ (i:=11) (N:=some 128) (bt_ 12 4095) HT_ ?_
        refine done_ (done_of HT_.out (by kernel_rfl)) ?_
        try go_wp2
        go_roundg k3
        case measure=>have:=HJ8.out;have:=HK2.out;have:=HK3.out;omega
        case rel=>exact ⟨(y50),(wrap64 (x16_3+1)),(x2001_3),(by first|rfl|(simp;done)|(simp [*];done)),H',⟨by have:=HJ8.out;have:=HK2.out;have:=HK3.out;omega⟩,⟨by (with_reducible repeat (first|apply Kd.R_alloc|apply Kd.R_drewN|apply Kd.R_drew));exact HO_11.out⟩,⟨by (with_reducible repeat (first|apply Kd.R_alloc|apply Kd.R_drewN|apply Kd.R_drew));exact HO_12.out⟩,⟨by refine zk_ ?_;exact BK1.out⟩,⟨zl1_ HB GE1⟩⟩
       replace c64:=Bool.eq_false_iff.mpr c64
       subst c64
       have H1:((r10_no.f 12).bind fun bt54=>(some (bt54.1,bt54.2)))=some (r1,r2):=by rw [if_neg (show¬(false=true) by decide)] at H;exact H
       clear H
       have H:=H1
       clear H1
       replace H:=Option.bind_eq_some_iff.mp H
       obtain ⟨⟨t54,t57⟩,A720,H⟩:=H
       try dsimp only at H
       have A72:=Aside0.mk A720
       clear A720
       simp only [Option.some.injEq,Prod.mk.injEq] at H
       obtain ⟨rfl,rfl⟩:=H
       have p43:0≤(x16_3:Int):=of_decide_eq_true zq_
       have q43:x16_3<(t8.length:Int):=of_decide_eq_true zq_
       obtain ⟨ad43,e43,hx43_0⟩:=Kd.at_string (Kd.R_reads' HO_11.out).2.2 x16_3 p43 q43
       cases e43
       replace p43:=eq_true p43
       replace q43:=eq_true q43
       obtain ⟨Ao73,co73,eo73⟩:=Kd.R_slice HO_12.out
       subst eo73
       try go_wp2_with (first|((with_reducible refine gate_callee (f:=50) rfl ?_);refine gl_ (some 101) Try.func50 #[.slice Ao73 x12_3.length co73, .string (rdOf ByteArray.empty t8 x16_3)] ?_;(with_reducible refine (r10_Find.calls k3 _ _ x12_3 (rdOf ByteArray.empty t8 x16_3) t44 _ ?side1 ?side2 A56.out).mono ?_);(case side1=>exact zc_ (Kd.R_reads' HO_12.out).2.2);(case side2=>exact (Kd.R_reads' HO_12.out).2.1);rintro e w' ⟨rfl,⟨nd,rfl⟩⟩;refine ⟨_,rfl, ?_⟩;(try (rw [drewN_self wr];generalize hq_:World.drewN wr _=wr;have n0_:Aside0 (Kd.R Kd.string 9 wr w.heap.size (fun _=>True) (.slice (some ad43) t8.length co36) t8):=⟨by rw [←hq_];exact (zr_ HO_11)⟩;have n1_:Aside0 (Kd.R k31 31 wr w.heap.size (fun _=>True) (.slice Ao73 x12_3.length co73) x12_3):=⟨by rw [←hq_];exact (zr_ HO_12)⟩;have n2_:Aside0 (wr.heap[gb1]?=some (.cells #[.slice none 0 0, .int .i64 x2001_3] 67 (0,0))):=⟨by rw [←hq_];exact (zb_ BK1)⟩;have n3_:Aside0 (Below w.heap.size w wr):=⟨by rw [←hq_];exact (zl1_ HB GE1)⟩;clear HO_11 HO_12 BK1 HB hq_;have HO_11:=n0_;have HO_12:=n1_;have BK1:=n2_;have HB:=n3_;clear n0_ n1_ n2_ n3_))))
       replace HO_11:=am_ (Kd.R_drew HO_11.out)
       replace HO_12:=am_ (Kd.R_drew HO_12.out)
       replace BK1:=am_ (blk_drew BK1.out)
       replace HB:=am_ (below_drew1 HB.out)
       have p45:0≤(t44:Int):=of_decide_eq_true zq_
       have q45:t44<(x12_3.length:Int):=of_decide_eq_true zq_
       obtain ⟨ad45,e45,hx45_0,hx45_1,hx45_2,hx45_3,hx45_4,hx45_5,hx45_6,hx45_7,hx45_8,hx45_9,hx45_10,hx45_11⟩:=at_T31 (Kd.R_reads' HO_12.out).2.2 t44 p45 q45
       cases e45
       replace p45:=eq_true p45
       replace q45:=eq_true q45
       have p46:0≤(t7:Int):=of_decide_eq_true zq_
       have q46:t7<(l0.length:Int):=of_decide_eq_true zq_
       obtain ⟨ad46,e46,hx46_0,hx46_1,hx46_2,hx46_3,hx46_4,hx46_5,hx46_6,hx46_7,hx46_8,hx46_9,hx46_10,hx46_11⟩:=at_T31 HR0.out t7 p46 q46
       have hw46_11:=hx46_11
       have hw46_10:=hx46_10
       have hw46_9:=hx46_9
       have hw46_8:=hx46_8
       have hw46_7:=hx46_7
       have hw46_6:=hx46_6
       have hw46_5:=hx46_5
       have hw46_4:=hx46_4
       have hw46_3:=hx46_3
       have hw46_2:=hx46_2
       have hw46_1:=hx46_1
       have hw46_0:=hx46_0
       obtain rfl:ad20=ad46:=(by injection e46)
       replace hx46_0:=zx_ HB hx46_0
       replace hx46_1:=zx_ HB hx46_1
       replace hx46_2:=zx_ HB hx46_2
       replace hx46_3:=zx_ HB hx46_3
       replace hx46_4:=zx_ HB hx46_4
       replace hx46_5:=zx_ HB hx46_5
       replace hx46_6:=zx_ HB hx46_6
       replace hx46_7:=zx_ HB hx46_7
       replace hx46_8:=zx_ HB hx46_8
       replace hx46_9:=zx_ HB hx46_9
       replace hx46_10:=zx_ HB hx46_10
       replace hx46_11:=zx_ HB hx46_11
       replace p46:=eq_true p46
       replace q46:=eq_true q46
       refine start_ (n:=16) (S:=fun w'=>w'.cell? (ad45.add ((t44).toNat*12))=some (.string ((rd_T31 x12_3 t44).f0))∧w'.cell? ⟨(ad45.add ((t44).toNat*12)).block,(ad45.add ((t44).toNat*12)).off+1,none⟩=some (.string ((rd_T31 x12_3 t44).f1))∧w'.cell? ⟨(ad45.add ((t44).toNat*12)).block,(ad45.add ((t44).toNat*12)).off+2,none⟩=some (.int .i64 ((rd_T31 x12_3 t44).f2.f0))∧w'.cell? ⟨(ad45.add ((t44).toNat*12)).block,(ad45.add ((t44).toNat*12)).off+3,none⟩=some (.int .i64 ((rd_T31 x12_3 t44).f2.f1))∧w'.cell? ⟨(ad45.add ((t44).toNat*12)).block,(ad45.add ((t44).toNat*12)).off+4,none⟩=some (.int .i64 ((rd_T31 x12_3 t44).f2.f2))∧w'.cell? ⟨(ad45.add ((t44).toNat*12)).block,(ad45.add ((t44).toNat*12)).off+5,none⟩=some (.int .i64 ((rd_T31 x12_3 t44).f3.f0))∧w'.cell? ⟨(ad45.add ((t44).toNat*12)).block,(ad45.add ((t44).toNat*12)).off+6,none⟩=some (.int .i64 ((rd_T31 x12_3 t44).f3.f1))∧w'.cell? ⟨(ad45.add ((t44).toNat*12)).block,(ad45.add ((t44).toNat*12)).off+7,none⟩=some (.int .i64 ((rd_T31 x12_3 t44).f3.f2))∧w'.cell? ⟨(ad45.add ((t44).toNat*12)).block,(ad45.add ((t44).toNat*12)).off+8,none⟩=some (.int .i64 ((rd_T31 x12_3 t44).f4.f0))∧w'.cell? ⟨(ad45.add ((t44).toNat*12)).block,(ad45.add ((t44).toNat*12)).off+9,none⟩=some (.int .i64 ((rd_T31 x12_3 t44).f4.f1))∧w'.cell? ⟨(ad45.add ((t44).toNat*12)).block,(ad45.add ((t44).toNat*12)).off+10,none⟩=some (.int .i64 ((rd_T31 x12_3 t44).f4.f2))∧w'.cell? ⟨(ad45.add ((t44).toNat*12)).block,(ad45.add ((t44).toNat*12)).off+11,none⟩=some (.int .i64 ((rd_T31 x12_3 t44).f5))∧w'.cell? (ad20.add ((t7).toNat*12))=some (.string ((rd_T31 l0 t7).f0))∧w'.cell? ⟨(ad20.add ((t7).toNat*12)).block,(ad20.add ((t7).toNat*12)).off+1,none⟩=some (.string ((rd_T31 l0 t7).f1))∧w'.cell? ⟨(ad20.add ((t7).toNat*12)).block,(ad20.add ((t7).toNat*12)).off+2,none⟩=some (.int .i64 ((rd_T31 l0 t7).f2.f0))∧w'.cell? ⟨(ad20.add ((t7).toNat*12)).block,(ad20.add ((t7).toNat*12)).off+3,none⟩=some (.int .i64 ((rd_T31 l0 t7).f2.f1))∧w'.cell? ⟨(ad20.add ((t7).toNat*12)).block,(ad20.add ((t7).toNat*12)).off+4,none⟩=some (.int .i64 ((rd_T31 l0 t7).f2.f2))∧w'.cell? ⟨(ad20.add ((t7).toNat*12)).block,(ad20.add ((t7).toNat*12)).off+5,none⟩=some (.int .i64 ((rd_T31 l0 t7).f3.f0))∧w'.cell? ⟨(ad20.add ((t7).toNat*12)).block,(ad20.add ((t7).toNat*12)).off+6,none⟩=some (.int .i64 ((rd_T31 l0 t7).f3.f1))∧w'.cell? ⟨(ad20.add ((t7).toNat*12)).block,(ad20.add ((t7).toNat*12)).off+7,none⟩=some (.int .i64 ((rd_T31 l0 t7).f3.f2))∧w'.cell? ⟨(ad20.add ((t7).toNat*12)).block,(ad20.add ((t7).toNat*12)).off+8,none⟩=some (.int .i64 ((rd_T31 l0 t7).f4.f0))∧w'.cell? ⟨(ad20.add ((t7).toNat*12)).block,(ad20.add ((t7).toNat*12)).off+9,none⟩=some (.int .i64 ((rd_T31 l0 t7).f4.f1))∧w'.cell? ⟨(ad20.add ((t7).toNat*12)).block,(ad20.add ((t7).toNat*12)).off+10,none⟩=some (.int .i64 ((rd_T31 l0 t7).f4.f2))∧w'.cell? ⟨(ad20.add ((t7).toNat*12)).block,(ad20.add ((t7).toNat*12)).off+11,none⟩=some (.int .i64 ((rd_T31 l0 t7).f5))) (ds:=[15]) (bt_ 16 0) (by kernel_rfl) rfl rfl ⟨hx45_0,hx45_1,hx45_2,hx45_3,hx45_4,hx45_5,hx45_6,hx45_7,hx45_8,hx45_9,hx45_10,hx45_11,(zx_ HB hw46_0),(zx_ HB hw46_1),(zx_ HB hw46_2),(zx_ HB hw46_3),(zx_ HB hw46_4),(zx_ HB hw46_5),(zx_ HB hw46_6),(zx_ HB hw46_7),(zx_ HB hw46_8),(zx_ HB hw46_9),(zx_ HB hw46_10),(zx_ HB hw46_11)⟩ (fun hHeld=> ?_);refine with_tabW r10_Move.tab23 r10_Move.bits23 (fun HT_ HW_=> ?_)
       generalize wr.drew=w74 at HO_11 HO_12 BK1 HB hx45_0 hx45_1 hx45_10 hx45_11 hx45_2 hx45_3 hx45_4 hx45_5 hx45_6 hx45_7 hx45_8 hx45_9 hx46_0 hx46_1 hx46_10 hx46_11 hx46_2 hx46_3 hx46_4 hx46_5 hx46_6 hx46_7 hx46_8 hx46_9 hHeld ⊢
       refine pu_ (i:=0) (N:=some 102) (bt_ 16 1) HT_ ?_
       refine pu_ (i:=1) (N:=some 103) (bt_ 16 3) HT_ ?_
       refine pu_ (i:=2) (N:=some 104) (bt_ 16 7) HT_ ?_
       refine pu_ (i:=3) (N:=some 105) (bt_ 16 15) HT_ ?_
       refine pu_ (i:=4) (N:=some 106) (bt_ 16 31) HT_ ?_
       refine pu_ (i:=5) (N:=some 107) (bt_ 16 63) HT_ ?_
       refine pu_ (i:=7) (N:=some 109) (bt_ 16 191) HT_ ?_
       refine pu_ (i:=8) (N:=some 110) (bt_ 16 447) HT_ ?_
       refine pu_ (i:=9) (N:=some 111) (bt_ 16 959) HT_ ?_
       refine pu_ (i:=10) (N:=some 112) (bt_ 16 1983) HT_ ?_
       refine tk_ (i:=6) (N:=some 108) (bt_ 16 2047) HT_ HW_ hHeld ?_
       refine tk_ (i:=11) (N:=some 113) (bt_ 16 4095) HT_ HW_ hHeld ?_
       refine on_ (i:=12) (N:=some 114) (bt_ 16 8191) HT_ (fun K hK=> ?_)
       refine gs_ Try.func63 #[.agg #[.int .i64 ((rd_T31 x12_3 t44).f4.f0), .int .i64 ((rd_T31 x12_3 t44).f4.f1), .int .i64 ((rd_T31 x12_3 t44).f4.f2)], .agg #[.int .i64 ((rd_T31 l0 t7).f4.f0), .int .i64 ((rd_T31 l0 t7).f4.f1), .int .i64 ((rd_T31 l0 t7).f4.f2)]] ?_
       with_reducible refine (r10_Add.calls ((rd_T31 x12_3 t44).f4.f0) ((rd_T31 x12_3 t44).f4.f1) ((rd_T31 x12_3 t44).f4.f2) ((rd_T31 l0 t7).f4.f0) ((rd_T31 l0 t7).f4.f1) ((rd_T31 l0 t7).f4.f2) t47 t48 t49 _ A61.out).mono ?_
       rintro e w75 ⟨rfl,hb⟩
       have HS0_:=zh_ hb (hHeld.1)
       have HS1_:=zh_ hb (hHeld.2.1)
       have HS2_:=zh_ hb (hHeld.2.2.1)
       have HS3_:=zh_ hb (hHeld.2.2.2.1)
       have HS4_:=zh_ hb (hHeld.2.2.2.2.1)
       have HS5_:=zh_ hb (hHeld.2.2.2.2.2.1)
       have HS6_:=zh_ hb (hHeld.2.2.2.2.2.2.1)
       have HS7_:=zh_ hb (hHeld.2.2.2.2.2.2.2.1)
       have HS8_:=zh_ hb (hHeld.2.2.2.2.2.2.2.2.1)
       have HS9_:=zh_ hb (hHeld.2.2.2.2.2.2.2.2.2.1)
       have HS10_:=zh_ hb (hHeld.2.2.2.2.2.2.2.2.2.2.1)
       have HS11_:=zh_ hb (hHeld.2.2.2.2.2.2.2.2.2.2.2.1)
       refine ⟨_,rfl, ?_⟩
       replace HO_11:=am_ (Kd.R_below (zr_ HO_11) hb)
       replace HO_12:=am_ (Kd.R_below (zr_ HO_12) hb)
       replace BK1:=am_ (blk_below (zb_ BK1) hb)
       replace HB:=am_ (below_step (zl1_ HB GE1) hb)
       (try clear hb)
       (try clear hb2)
       (try clear hk)
       (try clear hi)
       have p62:0≤(t44:Int):=of_decide_eq_true zq_
       have q62:(t44:Int)<((x12_3.length:Int):Int):=of_decide_eq_true zq_
       obtain ⟨go62,co62,eo62,gb62,gl62,cl62,HG62⟩:=Kd.R_form HO_12.out (by omega)
       (first|cases eo62|(injection eo62 with ea_ en_ ec_;(first|subst ea_|(injection ea_ with ea_;subst ea_));subst ec_;clear en_))
       have GB62:=Aside0.mk gb62
       have GG62:=Aside0.mk HG62
       clear gb62 gl62 HG62
       replace hx45_0:=zv_ hx45_0
       replace hx45_1:=zv_ hx45_1
       replace hx45_2:=zv_ hx45_2
       replace hx45_3:=zv_ hx45_3
       replace hx45_4:=zv_ hx45_4
       replace hx45_5:=zv_ hx45_5
       replace hx45_6:=zv_ hx45_6
       replace hx45_7:=zv_ hx45_7
       replace hx45_8:=zv_ hx45_8
       replace hx45_9:=zv_ hx45_9
       replace hx45_10:=zv_ hx45_10
       replace hx45_11:=zv_ hx45_11
       obtain ⟨ce62,hcl62,hM62,hcc62,hfr62⟩:=Kd.R_elem HO_12.out z31 (t44:Int) p62 q62
       obtain rfl:=k31_openM hM62
       have hx62_8:World.cell? _ ⟨go62,(t44:Int).toNat*12+8,none⟩=some (.int .i64 ((rd_T31 x12_3 t44).f4.f0)):=hcc62 8 _ rfl
       have hx62_9:World.cell? _ ⟨go62,(t44:Int).toNat*12+9,none⟩=some (.int .i64 ((rd_T31 x12_3 t44).f4.f1)):=hcc62 9 _ rfl
       have hx62_10:World.cell? _ ⟨go62,(t44:Int).toNat*12+10,none⟩=some (.int .i64 ((rd_T31 x12_3 t44).f4.f2)):=hcc62 10 _ rfl
       have hf62_8:World.frozen? _ ⟨go62,(t44:Int).toNat*12+8,none⟩=false:=hfr62 8
       have hf62_9:World.frozen? _ ⟨go62,(t44:Int).toNat*12+9,none⟩=false:=hfr62 9
       have hf62_10:World.frozen? _ ⟨go62,(t44:Int).toNat*12+10,none⟩=false:=hfr62 10
       clear hcl62 hcc62 hfr62 hM62
       replace p62:=eq_true p62
       replace q62:=eq_true q62
       obtain ⟨ce76,hcl76,hM76,hcc76,hfr76⟩:=Kd.R_elem HO_12.out z31 (t44:Int) (of_decide_eq_true zq_) (by have h_:(t44:Int)<((x12_3.length:Int):Int):=of_decide_eq_true zq_;first|exact h_|(have e_:=(Kd.R_reads' HO_12.out).1;omega)|simpa using h_)
       obtain rfl:=k31_openM hM76
       have HP76:=(Kd.R_seg HO_12.out (t44:Int) (of_decide_eq_true zq_) (by have h_:(t44:Int)<((x12_3.length:Int):Int):=of_decide_eq_true zq_;first|exact h_|(have e_:=(Kd.R_reads' HO_12.out).1;omega)|simpa using h_) (seg:=[.int .i64 t47, .int .i64 t48, .int .i64 t49]) (j:=8) hcl76 hcc76 (show 11≤12 from by decide) (x':=(⟨(rd_T31 x12_3 t44).f0,(rd_T31 x12_3 t44).f1,(⟨(rd_T31 x12_3 t44).f2.f0,(rd_T31 x12_3 t44).f2.f1,(rd_T31 x12_3 t44).f2.f2⟩:S27),(⟨(rd_T31 x12_3 t44).f3.f0,(rd_T31 x12_3 t44).f3.f1,(rd_T31 x12_3 t44).f3.f2⟩:S27),(⟨t47,t48,t49⟩:S27),(rd_T31 x12_3 t44).f5⟩:S31)) (k31_mkM _ _ _ (⟨(rd_T31 x12_3 t44).f0,(rd_T31 x12_3 t44).f1,(⟨(rd_T31 x12_3 t44).f2.f0,(rd_T31 x12_3 t44).f2.f1,(rd_T31 x12_3 t44).f2.f2⟩:S27),(⟨(rd_T31 x12_3 t44).f3.f0,(rd_T31 x12_3 t44).f3.f1,(rd_T31 x12_3 t44).f3.f2⟩:S27),(⟨t47,t48,t49⟩:S27),(rd_T31 x12_3 t44).f5⟩:S31)) (fun _ hk=>hk)).1
       rw [←Ny50.out] at HP76
       have HQ76:=Aside0.mk HP76
       clear hcl76 hcc76 hfr76 hM76 HP76
       refine hK.out _ _ ⟨HS0_,HS1_,HS2_,HS3_,HS4_,HS5_,HS6_,HS7_,HS8_,HS9_,HS10_,HS11_,(zx_ HB hw46_0),(zx_ HB hw46_1),(zx_ HB hw46_2),(zx_ HB hw46_3),(zx_ HB hw46_4),(zx_ HB hw46_5),(zx_ HB hw46_6),(zx_ HB hw46_7),(zx_ HB hw46_8),(zx_ HB hw46_9),(zx_ HB hw46_10),(zx_ HB hw46_11)⟩ (fun hHeld=> ?_)
       clear hK K
       refine no_ (N:=some 114) ?_
       refine pu_ (i:=13) (N:=some 115) (bt_ 16 16383) HT_ ?_
       refine pu_ (i:=14) (N:=some 116) (bt_ 16 32767) HT_ ?_
       refine last_ (i:=15) (N:=none) (bt_ 16 65535) rfl rfl (one_of HT_.out (by kernel_rfl)) (by decide) (fun K hK=> ?_)
       refine skip_ (w1:= ?_) (by rfl) rfl ?_ ?_
       rotate_left
       ·go_simp
        rfl
       refine hK.out _ _ ?_
       clear hK K
       refine done_ (done_of HT_.out (by kernel_rfl)) ?_
       have n0_:Aside0 (Kd.R Kd.string 9 (((w75.setCell ⟨go62,(t44:Int).toNat*12+8,none⟩ (.int .i64 t47)).setCell ⟨go62,(t44:Int).toNat*12+9,none⟩ (.int .i64 t48)).setCell ⟨go62,(t44:Int).toNat*12+10,none⟩ (.int .i64 t49)) w.heap.size (fun _=>True) (.slice (some ad43) t8.length co36) t8):=⟨by (with_reducible repeat (first|apply Kd.R_alloc|apply Kd.R_drewN|apply Kd.R_drew));exact Kd.R_mono (Kd.R_far (p:=⟨go62,(t44:Int).toNat*12+10,none⟩) (Kd.R_far (p:=⟨go62,(t44:Int).toNat*12+9,none⟩) (Kd.R_far (p:=⟨go62,(t44:Int).toNat*12+8,none⟩) (Kd.R_types HO_11.out GG62.out (by decide)) (fun _ hk=>hk.2) (.int .i64 t47)) (fun _ hk=>hk.2) (.int .i64 t48)) (fun _ hk=>hk.2) (.int .i64 t49)) (fun _ hk=>trivial)⟩
       have n1_:Aside0 (Kd.R k31 31 (((w75.setCell ⟨go62,(t44:Int).toNat*12+8,none⟩ (.int .i64 t47)).setCell ⟨go62,(t44:Int).toNat*12+9,none⟩ (.int .i64 t48)).setCell ⟨go62,(t44:Int).toNat*12+10,none⟩ (.int .i64 t49)) w.heap.size (fun _=>True) (.slice (some ⟨go62,0,none⟩) x12_3.length co73) y50):=⟨by (with_reducible repeat (first|apply Kd.R_alloc|apply Kd.R_drewN|apply Kd.R_drew));exact HQ76.out⟩
       have n2_:Aside0 ((((w75.setCell ⟨go62,(t44:Int).toNat*12+8,none⟩ (.int .i64 t47)).setCell ⟨go62,(t44:Int).toNat*12+9,none⟩ (.int .i64 t48)).setCell ⟨go62,(t44:Int).toNat*12+10,none⟩ (.int .i64 t49)).heap[gb1]?=some (.cells #[.slice none 0 0, .int .i64 x2001_3] 67 (0,0))):=⟨by refine zk_ ?_;refine blk_far ?_ (by have h_:=Kd.R_ne HO_12.out BK1.out (by decide);intro e_;exact h_ (by rw [e_];rfl)) _;refine zk_ ?_;refine blk_far ?_ (by have h_:=Kd.R_ne HO_12.out BK1.out (by decide);intro e_;exact h_ (by rw [e_];rfl)) _;refine zk_ ?_;refine blk_far ?_ (by have h_:=Kd.R_ne HO_12.out BK1.out (by decide);intro e_;exact h_ (by rw [e_];rfl)) _;refine zk_ ?_;exact BK1.out⟩
       have n3_:Aside0 (Below w.heap.size w (((w75.setCell ⟨go62,(t44:Int).toNat*12+8,none⟩ (.int .i64 t47)).setCell ⟨go62,(t44:Int).toNat*12+9,none⟩ (.int .i64 t48)).setCell ⟨go62,(t44:Int).toNat*12+10,none⟩ (.int .i64 t49))):=⟨zl4_ HB GB62 GB62 GB62 GE1⟩
       (try clear HO_11)
       (try clear HO_12)
       (try clear BK1)
       (try clear HB)
       generalize (((w75.setCell ⟨go62,(t44:Int).toNat*12+8,none⟩ (.int .i64 t47)).setCell ⟨go62,(t44:Int).toNat*12+9,none⟩ (.int .i64 t48)).setCell ⟨go62,(t44:Int).toNat*12+10,none⟩ (.int .i64 t49))=w77 at n0_ n1_ n2_ n3_ ⊢
       have HO_11:=n0_
       have HO_12:=n1_
       have BK1:=n2_
       have HB:=n3_
       clear n0_ n1_ n2_ n3_
       try go_wp2
       replace HO_11:=am_ (Kd.R_drew HO_11.out)
       replace HO_12:=am_ (Kd.R_drew HO_12.out)
       replace BK1:=am_ (blk_drew BK1.out)
       replace HB:=am_ (below_drew1 HB.out)
       have p51:0≤(t44:Int):=of_decide_eq_true zq_
       have q51:t44<(y50.length:Int):=(by have h_:(t44:Int)<((x12_3.length:Int):Int):=of_decide_eq_true zq_;first|(have e_:=(Kd.R_reads' HO_12.out).1;omega)|simpa only [Ny50.out,List.length_set] using h_)
       obtain ⟨ad51,e51,hx51_0,hx51_1,hx51_2,hx51_3,hx51_4,hx51_5,hx51_6,hx51_7,hx51_8,hx51_9,hx51_10,hx51_11⟩:=at_T31 (Kd.R_reads' HO_12.out).2.2 t44 p51 q51
       obtain rfl:(⟨go62,0,none⟩:Addr)=ad51:=(by injection e51)
       replace hx51_0:=za_ hx51_0
       replace hx51_1:=za_ hx51_1
       replace hx51_2:=za_ hx51_2
       replace hx51_3:=za_ hx51_3
       replace hx51_4:=za_ hx51_4
       replace hx51_5:=za_ hx51_5
       replace hx51_6:=za_ hx51_6
       replace hx51_7:=za_ hx51_7
       replace hx51_8:=za_ hx51_8
       replace hx51_9:=za_ hx51_9
       replace hx51_10:=za_ hx51_10
       replace hx51_11:=za_ hx51_11
       replace p51:=eq_true p51
       replace q51:=eq_true q51
       have p52:0≤(t44:Int):=of_decide_eq_true zq_
       have q52:t44<(y50.length:Int):=(by have h_:(t44:Int)<((x12_3.length:Int):Int):=of_decide_eq_true zq_;first|(have e_:=(Kd.R_reads' HO_12.out).1;omega)|simpa only [Ny50.out,List.length_set] using h_)
       obtain ⟨ad52,e52,hx52_0,hx52_1,hx52_2,hx52_3,hx52_4,hx52_5,hx52_6,hx52_7,hx52_8,hx52_9,hx52_10,hx52_11⟩:=at_T31 (Kd.R_reads' HO_12.out).2.2 t44 p52 q52
       obtain rfl:(⟨go62,0,none⟩:Addr)=ad52:=(by injection e52)
       replace hx52_0:=za_ hx52_0
       replace hx52_1:=za_ hx52_1
       replace hx52_2:=za_ hx52_2
       replace hx52_3:=za_ hx52_3
       replace hx52_4:=za_ hx52_4
       replace hx52_5:=za_ hx52_5
       replace hx52_6:=za_ hx52_6
       replace hx52_7:=za_ hx52_7
       replace hx52_8:=za_ hx52_8
       replace hx52_9:=za_ hx52_9
       replace hx52_10:=za_ hx52_10
       replace hx52_11:=za_ hx52_11
       replace p52:=eq_true p52
       replace q52:=eq_true q52
       refine start_ (n:=12) (S:=fun w'=>w'.cell? ⟨go62,(t44).toNat*12,none⟩=some (.string ((rd_T31 y50 t44).f0))∧w'.cell? ⟨go62,(t44).toNat*12+1,none⟩=some (.string ((rd_T31 y50 t44).f1))∧w'.cell? ⟨go62,(t44).toNat*12+2,none⟩=some (.int .i64 ((rd_T31 y50 t44).f2.f0))∧w'.cell? ⟨go62,(t44).toNat*12+3,none⟩=some (.int .i64 ((rd_T31 y50 t44).f2.f1))∧w'.cell? ⟨go62,(t44).toNat*12+4,none⟩=some (.int .i64 ((rd_T31 y50 t44).f2.f2))∧w'.cell? ⟨go62,(t44).toNat*12+5,none⟩=some (.int .i64 ((rd_T31 y50 t44).f3.f0))∧w'.cell? ⟨go62,(t44).toNat*12+6,none⟩=some (.int .i64 ((rd_T31 y50 t44).f3.f1))∧w'.cell? ⟨go62,(t44).toNat*12+7,none⟩=some (.int .i64 ((rd_T31 y50 t44).f3.f2))∧w'.cell? ⟨go62,(t44).toNat*12+8,none⟩=some (.int .i64 ((rd_T31 y50 t44).f4.f0))∧w'.cell? ⟨go62,(t44).toNat*12+9,none⟩=some (.int .i64 ((rd_T31 y50 t44).f4.f1))∧w'.cell? ⟨go62,(t44).toNat*12+10,none⟩=some (.int .i64 ((rd_T31 y50 t44).f4.f2))∧w'.cell? ⟨go62,(t44).toNat*12+11,none⟩=some (.int .i64 ((rd_T31 y50 t44).f5))∧w'.cell? ⟨go62,(t44).toNat*12,none⟩=some (.string ((rd_T31 y50 t44).f0))∧w'.cell? ⟨go62,(t44).toNat*12+1,none⟩=some (.string ((rd_T31 y50 t44).f1))∧w'.cell? ⟨go62,(t44).toNat*12+2,none⟩=some (.int .i64 ((rd_T31 y50 t44).f2.f0))∧w'.cell? ⟨go62,(t44).toNat*12+3,none⟩=some (.int .i64 ((rd_T31 y50 t44).f2.f1))∧w'.cell? ⟨go62,(t44).toNat*12+4,none⟩=some (.int .i64 ((rd_T31 y50 t44).f2.f2))∧w'.cell? ⟨go62,(t44).toNat*12+5,none⟩=some (.int .i64 ((rd_T31 y50 t44).f3.f0))∧w'.cell? ⟨go62,(t44).toNat*12+6,none⟩=some (.int .i64 ((rd_T31 y50 t44).f3.f1))∧w'.cell? ⟨go62,(t44).toNat*12+7,none⟩=some (.int .i64 ((rd_T31 y50 t44).f3.f2))∧w'.cell? ⟨go62,(t44).toNat*12+8,none⟩=some (.int .i64 ((rd_T31 y50 t44).f4.f0))∧w'.cell? ⟨go62,(t44).toNat*12+9,none⟩=some (.int .i64 ((rd_T31 y50 t44).f4.f1))∧w'.cell? ⟨go62,(t44).toNat*12+10,none⟩=some (.int .i64 ((rd_T31 y50 t44).f4.f2))∧w'.cell? ⟨go62,(t44).toNat*12+11,none⟩=some (.int .i64 ((rd_T31 y50 t44).f5))) (ds:=[]) (bt_ 12 0) (by kernel_rfl) rfl rfl ⟨hx51_0,hx51_1,hx51_2,hx51_3,hx51_4,hx51_5,hx51_6,hx51_7,hx51_8,hx51_9,hx51_10,hx51_11,hx52_0,hx52_1,hx52_2,hx52_3,hx52_4,hx52_5,hx52_6,hx52_7,hx52_8,hx52_9,hx52_10,hx52_11⟩ (fun hHeld=> ?_);refine with_tabW r10_Move.tab24 r10_Move.bits24 (fun HT_ HW_=> ?_)
       generalize w77.drew=w78 at HO_11 HO_12 BK1 HB hx51_0 hx51_1 hx51_10 hx51_11 hx51_2 hx51_3 hx51_4 hx51_5 hx51_6 hx51_7 hx51_8 hx51_9 hx52_0 hx52_1 hx52_10 hx52_11 hx52_2 hx52_3 hx52_4 hx52_5 hx52_6 hx52_7 hx52_8 hx52_9 hHeld ⊢
       refine pu_ (i:=0) (N:=some 117) (bt_ 12 1) HT_ ?_
       refine pu_ (i:=1) (N:=some 118) (bt_ 12 3) HT_ ?_
       refine pu_ (i:=2) (N:=some 119) (bt_ 12 7) HT_ ?_
       refine pu_ (i:=3) (N:=some 120) (bt_ 12 15) HT_ ?_
       refine pu_ (i:=5) (N:=some 122) (bt_ 12 47) HT_ ?_
       refine pu_ (i:=6) (N:=some 123) (bt_ 12 111) HT_ ?_
       refine pu_ (i:=7) (N:=some 124) (bt_ 12 239) HT_ ?_
       refine pu_ (i:=8) (N:=some 125) (bt_ 12 495) HT_ ?_
       refine tk_ (i:=4) (N:=some 121) (bt_ 12 511) HT_ HW_ hHeld ?_
       refine tk_ (i:=9) (N:=some 126) (bt_ 12 1023) HT_ HW_ hHeld ?_
       refine on_ (i:=10) (N:=some 127) (bt_ 12 2047) HT_ (fun K hK=> ?_)
       refine gs_ Try.func34 #[.agg #[.int .i64 ((rd_T31 y50 t44).f4.f0), .int .i64 ((rd_T31 y50 t44).f4.f1), .int .i64 ((rd_T31 y50 t44).f4.f2)], .agg #[.int .i64 ((rd_T31 y50 t44).f2.f0), .int .i64 ((rd_T31 y50 t44).f2.f1), .int .i64 ((rd_T31 y50 t44).f2.f2)]] ?_
       with_reducible refine (r10_Le.calls ((rd_T31 y50 t44).f4.f0) ((rd_T31 y50 t44).f4.f1) ((rd_T31 y50 t44).f4.f2) ((rd_T31 y50 t44).f2.f0) ((rd_T31 y50 t44).f2.f1) ((rd_T31 y50 t44).f2.f2) false _ A63.out).mono ?_
       rintro e w79 ⟨rfl,hb⟩
       have HS0_:=zh_ hb (hHeld.1)
       have HS1_:=zh_ hb (hHeld.2.1)
       have HS2_:=zh_ hb (hHeld.2.2.1)
       have HS3_:=zh_ hb (hHeld.2.2.2.1)
       have HS4_:=zh_ hb (hHeld.2.2.2.2.1)
       have HS5_:=zh_ hb (hHeld.2.2.2.2.2.1)
       have HS6_:=zh_ hb (hHeld.2.2.2.2.2.2.1)
       have HS7_:=zh_ hb (hHeld.2.2.2.2.2.2.2.1)
       have HS8_:=zh_ hb (hHeld.2.2.2.2.2.2.2.2.1)
       have HS9_:=zh_ hb (hHeld.2.2.2.2.2.2.2.2.2.1)
       have HS10_:=zh_ hb (hHeld.2.2.2.2.2.2.2.2.2.2.1)
       have HS11_:=zh_ hb (hHeld.2.2.2.2.2.2.2.2.2.2.2.1)
       have HS12_:=zh_ hb (hHeld.2.2.2.2.2.2.2.2.2.2.2.2.1)
       have HS13_:=zh_ hb (hHeld.2.2.2.2.2.2.2.2.2.2.2.2.2.1)
       have HS14_:=zh_ hb (hHeld.2.2.2.2.2.2.2.2.2.2.2.2.2.2.1)
       have HS15_:=zh_ hb (hHeld.2.2.2.2.2.2.2.2.2.2.2.2.2.2.2.1)
       have HS16_:=zh_ hb (hHeld.2.2.2.2.2.2.2.2.2.2.2.2.2.2.2.2.1)
       have HS17_:=zh_ hb (hHeld.2.2.2.2.2.2.2.2.2.2.2.2.2.2.2.2.2.1)
       have HS18_:=zh_ hb (hHeld.2.2.2.2.2.2.2.2.2.2.2.2.2.2.2.2.2.2.1)
       have HS19_:=zh_ hb (hHeld.2.2.2.2.2.2.2.2.2.2.2.2.2.2.2.2.2.2.2.1)
       have HS20_:=zh_ hb (hHeld.2.2.2.2.2.2.2.2.2.2.2.2.2.2.2.2.2.2.2.2.1)
       have HS21_:=zh_ hb (hHeld.2.2.2.2.2.2.2.2.2.2.2.2.2.2.2.2.2.2.2.2.2.1)
       have HS22_:=zh_ hb (hHeld.2.2.2.2.2.2.2.2.2.2.2.2.2.2.2.2.2.2.2.2.2.2.1)
       have HS23_:=zh_ hb (hHeld.2.2.2.2.2.2.2.2.2.2.2.2.2.2.2.2.2.2.2.2.2.2.2)
       refine ⟨_,rfl, ?_⟩
       replace HO_11:=am_ (Kd.R_below (zr_ HO_11) hb)
       replace HO_12:=am_ (Kd.R_below (zr_ HO_12) hb)
       replace BK1:=am_ (blk_below (zb_ BK1) hb)
       replace HB:=am_ (below_step (zl1_ HB GE1) hb)
       (try clear hb)
       (try clear hb2)
       (try clear hk)
       (try clear hi)
       refine hK.out _ _ ⟨HS0_,HS1_,HS2_,HS3_,HS4_,HS5_,HS6_,HS7_,HS8_,HS9_,HS10_,HS11_,HS12_,HS13_,HS14_,HS15_,HS16_,HS17_,HS18_,HS19_,HS20_,HS21_,HS22_,HS23_⟩ (fun hHeld=> ?_)
       clear hK K
       refine no_ (N:=some 127) ?_
       refine pu_ (i:=11) (N:=some 128) (bt_ 12 4095) HT_ ?_
       refine done_ (done_of HT_.out (by kernel_rfl)) ?_
       try go_wp2_with (first|((with_reducible refine gate_callee (f:=113) rfl ?_);refine gl_ (some 129) Try.func113 #[.int .i64 12] ?_;(with_reducible refine (r10_no.calls 12 t54 t57 _ A72.out).mono ?_);rintro e w80 ⟨v55,rfl,ho0,hb⟩;refine ⟨_,rfl, ?_⟩;replace HO_11:=am_ (Kd.R_below (zr_ HO_11) hb);have HO56:=am_ (Kd.R_lower (Kd.R_new' ho0 (Kd.R_lt (zr_ HO_12))) (below_size (zl1_ HB GE1)));replace HO_12:=am_ (Kd.R_elder' (zr_ HO_12) (Kd.R_base ho0) hb);replace BK1:=am_ (blk_below (zb_ BK1) hb);replace HB:=am_ (below_step (zl1_ HB GE1) hb);(try clear hb);(try clear hb2);(try clear hk);(try clear hi);(try clear ho0);obtain ⟨Ao81,co81,eo81⟩:=Kd.R_slice HO56.out;subst eo81;obtain ⟨hcz82_0,hcz82_1⟩:=x2_ BK1;have hfz82_0:=blk_frozen BK1.out 0;have hfz82_1:=blk_frozen BK1.out 1))
       refine bodyPost_ret (results_cell_row rfl _ _ gb1 67 #[.slice Ao81 t54.length co81, .int .i64 t57] (0,0) _ rfl (zw_ BK1) Try.underlying67 rfl (by kernel_rfl)) rfl ?_
       exact ⟨_,by first|rfl|(simp [errW_none,errW_some]<;>rfl)|(simp [*,errW_none,errW_some]<;>rfl),zy_ HO56 BK1,zl1_ HB GE1⟩
def r10_Below.l0:Nat→List (S31)→ByteArray→List ByteArray→Int→Option (List ByteArray)
 |0,_,_,_,_=>none
 |k+1,x0,x1,x5,x6=>if x6<(x0.length:Int) then (if 0≤x6 then (if ((rd_T31 x0 x6).f1).toList=x1.toList then (if x5.length<8796093022208 then (r10_Below.l0 k x0 x1 (x5++ [(rd_T31 x0 x6).f0]) (wrap64 (x6+1))) else (none)) else (r10_Below.l0 k x0 x1 x5 (wrap64 (x6+1)))) else (none)) else (some x5)
def r10_Below.f (k:Nat) (l0:List (S31)) (a1:ByteArray):Option (List ByteArray):=r10_Below.l0 k l0 a1 ([]:List ByteArray) 0
theorem r10_Below.mono_l: ∀k,(∀y0 y1 y2 y3,LeO (r10_Below.l0 k y0 y1 y2 y3) (r10_Below.l0 (k+1) y0 y1 y2 y3))
 |0=>fun _ _ _ _ r h=>by simp [r10_Below.l0] at h
 |k+1=>by
  have ih0:=r10_Below.mono_l k
  intro y0 y1 y2 y3
  unfold r10_Below.l0
  repeat' first
  |(with_reducible exact ih0 _ _ _ _)
  |(with_reducible exact LeO.refl _)
  |(with_reducible exact LeO.none _)
  |(with_reducible refine LeO.ite ?_ ?_)
  |(with_reducible refine LeO.bind ?_ (fun _=> ?_))
  |exact ih0 _ _ _ _
  |exact LeO.none _
  |refine LeO.ite ?_ ?_
  |refine LeO.bind ?_ (fun _=> ?_)
theorem r10_Below.mono: ∀a0 a1 k,LeO (r10_Below.f k a0 a1) (r10_Below.f (k+1) a0 a1):=by
 intro a0 a1 k
 have ih0:=r10_Below.mono_l k
 unfold r10_Below.f
 repeat' first
  |(with_reducible exact ih0 _ _ _ _)
  |(with_reducible exact LeO.refl _)
  |(with_reducible exact LeO.none _)
  |(with_reducible refine LeO.ite ?_ ?_)
  |(with_reducible refine LeO.bind ?_ (fun _=> ?_))
  |exact ih0 _ _ _ _
  |exact LeO.none _
  |refine LeO.ite ?_ ?_
  |refine LeO.bind ?_ (fun _=> ?_)
set_option maxHeartbeats 8000000 in
set_option maxRecDepth 100000 in
theorem r10_Below.calls (k:Nat) (A0:Option Addr) (c0:Nat) (l0:List (S31)) (a1:ByteArray) (r:List ByteArray) (w:World) (hr0:Kd.C k31 w A0 l0.length l0) (hc0:l0.length≤c0) (h:r10_Below.f k l0 a1=some r):
  Calls Try.prog 75 #[.slice A0 l0.length c0, .string a1] w fun e w'=> ∃v0_:Value,e= .returned (v0_)∧Kd.R Kd.string 9 w' w.heap.size (fun _=>True) v0_ r∧Below w.heap.size w w':=by
 have HR0:=Aside0.mk hr0
 have HC0:=Aside0.mk hc0
 clear hr0 hc0
 have HB:=am_ (Below.refl w.heap.size w)
 have H:(r10_Below.l0 k l0 a1 ([]:List ByteArray) 0)=some r:=h
 clear h
 have H':=Aside0.mk H
 clear H
 go_enter Try.func75,Try.ntmps75
 go_wp2
 go_loopg [5,6] k (fun kq v5 v6 w'=> ∃(x5_1:List ByteArray) (x6_1:Int),v6= .int .i64 x6_1∧Aside0 (r10_Below.l0 kq l0 a1 x5_1 x6_1=some r)∧Aside0 (kq≤k)∧Aside0 (Kd.R Kd.string 9 w' w.heap.size (fun _=>True) v5 x5_1)∧Aside0 (Below w.heap.size w w'))
 case atStart=>exact ⟨(([]:List ByteArray)),(0),(by first|rfl|(simp;done)|(simp [*];done)),H',⟨Nat.le_refl _⟩,⟨by first|exact Kd.R_nil _ _ _ _ _|exact Kd.N_nil _ _ _ _ _|exact Kd.V_nil _ _ _ _ _|exact Kd.Q_nil _ _ _ _ _|exact Kd.S_nil _ _ _ _ _⟩,⟨zl0_ HB⟩⟩
 case round=>
  clear H'
  try clear p2
  obtain ⟨x5_1,x6_1,rfl,HA,HK1,HO_5,HB⟩:=hrel
  cases gk with
  |zero=>exact absurd HA.out (by simp [r10_Below.l0])
  |succ k1=>
   have H:=HA.out
   clear HA
   simp only [r10_Below.l0] at H
   by_cases c3:x6_1<(l0.length:Int)
   rotate_left
   ·rw [if_neg c3] at H
    have c3b0:decide (x6_1<(l0.length:Int))=false:=decide_eq_false c3
    clear c3
    obtain rfl:=Option.some.inj H
    go_wp2
    go_ret
    exact ⟨_,by first|rfl|(simp [errW_none,errW_some]<;>rfl)|(simp [*,errW_none,errW_some]<;>rfl),by (with_reducible repeat (first|apply Kd.R_alloc|apply Kd.R_drewN|apply Kd.R_drew));exact HO_5.out,zl0_ HB⟩

   rw [if_pos c3] at H
   have c3b0:decide (x6_1<(l0.length:Int))=true:=decide_eq_true c3
   clear c3
   by_cases c4:0≤x6_1
   rotate_left
   ·rw [if_neg c4] at H
    exact absurd H (by simp)
   rw [if_pos c4] at H
   have c4b0:decide (0≤x6_1)=true:=decide_eq_true c4
   clear c4
   by_cases c5:((rd_T31 l0 x6_1).f1).toList=a1.toList
   rotate_left
   ·rw [if_neg c5] at H
    have c5b0:(((rd_T31 l0 x6_1).f1).toList==a1.toList)=false:=beq_eq_false_iff_ne.mpr c5
    have c5b1:(((rd_T31 l0 x6_1).f1).toList !=a1.toList)=true:=bne_iff_ne.mpr c5
    have H':=Aside0.mk H
    clear H
    have p1:0≤(x6_1:Int):=of_decide_eq_true zq_
    have q1:x6_1<(l0.length:Int):=of_decide_eq_true zq_
    obtain ⟨ad1,e1,hx1_0,hx1_1,hx1_2,hx1_3,hx1_4,hx1_5,hx1_6,hx1_7,hx1_8,hx1_9,hx1_10,hx1_11⟩:=at_T31 HR0.out x6_1 p1 q1
    cases e1
    replace hx1_0:=zx_ HB hx1_0
    replace hx1_1:=zx_ HB hx1_1
    replace hx1_2:=zx_ HB hx1_2
    replace hx1_3:=zx_ HB hx1_3
    replace hx1_4:=zx_ HB hx1_4
    replace hx1_5:=zx_ HB hx1_5
    replace hx1_6:=zx_ HB hx1_6
    replace hx1_7:=zx_ HB hx1_7
    replace hx1_8:=zx_ HB hx1_8
    replace hx1_9:=zx_ HB hx1_9
    replace hx1_10:=zx_ HB hx1_10
    replace hx1_11:=zx_ HB hx1_11
    replace p1:=eq_true p1
    replace q1:=eq_true q1
    go_wp2
    go_roundg k1
    case measure=>have:=HK1.out;omega
    case rel=>exact ⟨(x5_1),(wrap64 (x6_1+1)),(by first|rfl|(simp;done)|(simp [*];done)),H',⟨by have:=HK1.out;omega⟩,⟨by (with_reducible repeat (first|apply Kd.R_alloc|apply Kd.R_drewN|apply Kd.R_drew));exact HO_5.out⟩,⟨zl0_ HB⟩⟩
   rw [if_pos c5] at H
   have c5b0:(((rd_T31 l0 x6_1).f1).toList==a1.toList)=true:=beq_iff_eq.mpr c5
   have c5b1:(((rd_T31 l0 x6_1).f1).toList !=a1.toList)=false:=bne_eq_false_iff_eq.mpr c5
   clear c5
   by_cases c6:x5_1.length<8796093022208
   rotate_left
   ·rw [if_neg c6] at H
    exact absurd H (by simp)
   rw [if_pos c6] at H
   have LMc6:=Aside0.mk c6
   clear c6
   obtain ⟨y3,hy3⟩: ∃y_:List ByteArray,y_=(x5_1++ [(rd_T31 l0 x6_1).f0]):=⟨_,rfl⟩
   replace H:(r10_Below.l0 k1 l0 a1 y3 (wrap64 (x6_1+1)))=some r:=by first|(rw [hy3];with_reducible exact H)|(have H2_:=(Option.bind_some _ _).symm.trans H;rw [hy3];with_reducible exact H2_)|(have H2_:=(Option.bind_some _ _).symm.trans H;with_reducible exact H2_)|with_reducible exact H|(rw [hy3];exact H)|exact H
   have Ny3:=Aside0.mk hy3
   clear hy3
   have H':=Aside0.mk H
   clear H
   have p1:0≤(x6_1:Int):=of_decide_eq_true zq_
   have q1:x6_1<(l0.length:Int):=of_decide_eq_true zq_
   obtain ⟨ad1,e1,hx1_0,hx1_1,hx1_2,hx1_3,hx1_4,hx1_5,hx1_6,hx1_7,hx1_8,hx1_9,hx1_10,hx1_11⟩:=at_T31 HR0.out x6_1 p1 q1
   cases e1
   replace hx1_0:=zx_ HB hx1_0
   replace hx1_1:=zx_ HB hx1_1
   replace hx1_2:=zx_ HB hx1_2
   replace hx1_3:=zx_ HB hx1_3
   replace hx1_4:=zx_ HB hx1_4
   replace hx1_5:=zx_ HB hx1_5
   replace hx1_6:=zx_ HB hx1_6
   replace hx1_7:=zx_ HB hx1_7
   replace hx1_8:=zx_ HB hx1_8
   replace hx1_9:=zx_ HB hx1_9
   replace hx1_10:=zx_ HB hx1_10
   replace hx1_11:=zx_ HB hx1_11
   replace p1:=eq_true p1
   replace q1:=eq_true q1
   have p2:0≤(x6_1:Int):=of_decide_eq_true zq_
   have q2:x6_1<(l0.length:Int):=of_decide_eq_true zq_
   obtain ⟨ad2,e2,hx2_0,hx2_1,hx2_2,hx2_3,hx2_4,hx2_5,hx2_6,hx2_7,hx2_8,hx2_9,hx2_10,hx2_11⟩:=at_T31 HR0.out x6_1 p2 q2
   obtain rfl:ad1=ad2:=(by injection e2)
   replace hx2_0:=zx_ HB hx2_0
   replace hx2_1:=zx_ HB hx2_1
   replace hx2_2:=zx_ HB hx2_2
   replace hx2_3:=zx_ HB hx2_3
   replace hx2_4:=zx_ HB hx2_4
   replace hx2_5:=zx_ HB hx2_5
   replace hx2_6:=zx_ HB hx2_6
   replace hx2_7:=zx_ HB hx2_7
   replace hx2_8:=zx_ HB hx2_8
   replace hx2_9:=zx_ HB hx2_9
   replace hx2_10:=zx_ HB hx2_10
   replace hx2_11:=zx_ HB hx2_11
   replace p2:=eq_true p2
   replace q2:=eq_true q2
   go_wp2_with (first|((with_reducible refine gate_builtin (b:= .append) (xs:=#[.tmp 20, .tmp 26]) rfl ?_);at_builtin;refine Kd.R_append Kd.string (w0:=w) w.heap.size rfl (.tmp 20) (.tmp 26) 74 9 (.string ⟨#[]⟩) 16 rfl Try.underlying74 info9 rfl (by decide) (by omega) u5 x5_1 ((rd_T31 l0 x6_1).f0) [.string ((rd_T31 l0 x6_1).f0)] (fun _=>True) (fun _=>False) rfl rfl ?aP (fun _ hk=>hk.elim) ?aF ?aO ?aB ?aS ?aL ?_;(case aP=>exact rfl);(case aB=>exact (zl0_ HB));(case aF=>exact (fun _ _=>trivial));(case aO=>exact (zr_ HO_5));(case aS=>exact (below_size (zl0_ HB)));(case aL=>have:=LMc6.out;omega);intro v4 w7 ho hb hg hat;rw [←Ny3.out] at ho;have n0_:=am_ (hb);have n1_:=am_ (ho);clear HB;clear HO_5;have HB:=n0_;have HO5:=n1_;clear n0_ n1_;clear ho hb hg hat))
   go_roundg k1
   case measure=>have:=HK1.out;omega
   case rel=>exact ⟨(y3),(wrap64 (x6_1+1)),(by first|rfl|(simp;done)|(simp [*];done)),H',⟨by have:=HK1.out;omega⟩,⟨by (with_reducible repeat (first|apply Kd.R_alloc|apply Kd.R_drewN|apply Kd.R_drew));exact HO5.out⟩,⟨zl0_ HB⟩⟩
attribute [local go_sem high] eqA27
def r10_Delete.j0:Nat→List (S31)→Int→Bool→Option ((List (S31))×Int)
 |0,_,_,_=>none
 |k+1,x0,x8,x34=>if x34=true then ((r10_no.f 13).bind fun bt12=>(some (bt12.1,bt12.2))) else (if 0≤x8 then (if x8≤(x0.length:Int) then ((r10_copied.f (x0.take (x8:Int).toNat)).bind fun t20=>(if 0≤(wrap64 (x8+1)) then (if (wrap64 (x8+1))≤(x0.length:Int) then ((some (x0.drop ((wrap64 (x8+1)):Int).toNat:List (S31))).bind fun y23=>(if t20.length+y23.length<1256584717458 then (some ((t20++y23),0)) else (none))) else (none)) else (none))) else (none)) else (none))
def r10_Delete.f (k:Nat) (l0:List (S31)) (a1:ByteArray) (a2:Int):Option ((List (S31))×Int):=(r10_old.f k l0 a1 a2).bind fun t2=>(if t2=0 then ((r10_Find.f k l0 a1).bind fun t7=>((r10_Below.f k l0 a1).bind fun t8=>(if (t8.length:Int)>0 then (r10_Delete.j0 k l0 t7 true) else (if 0≤t7 then (if t7<(l0.length:Int) then (r10_Delete.j0 k l0 t7 (!(((rd_T31 l0 t7).f3.f0)==0)||(!(((rd_T31 l0 t7).f3.f1)==0)||(!(((rd_T31 l0 t7).f3.f2)==0))))) else (none)) else (none))))) else ((r10_no.f t2).bind fun bt3=>(some (bt3.1,bt3.2))))
theorem r10_Delete.mono_l: ∀k,(∀y0 y1 y2,LeO (r10_Delete.j0 k y0 y1 y2) (r10_Delete.j0 (k+1) y0 y1 y2))
 |0=>fun _ _ _ r h=>by simp [r10_Delete.j0] at h
 |k+1=>by
  have ih0:=r10_Delete.mono_l k
  intro y0 y1 y2
  unfold r10_Delete.j0
  repeat' first
  |(with_reducible exact ih0 _ _ _)
  |(with_reducible exact r10_Below.mono _ _ _)
  |(with_reducible exact r10_Find.mono _ _ _)
  |(with_reducible exact r10_old.mono _ _ _ _)
  |(with_reducible exact LeO.refl _)
  |(with_reducible exact LeO.none _)
  |(with_reducible refine LeO.ite ?_ ?_)
  |(with_reducible refine LeO.bind ?_ (fun _=> ?_))
  |exact ih0 _ _ _
  |exact r10_Below.mono _ _ _
  |exact r10_Find.mono _ _ _
  |exact r10_old.mono _ _ _ _
  |exact LeO.none _
  |refine LeO.ite ?_ ?_
  |refine LeO.bind ?_ (fun _=> ?_)
theorem r10_Delete.mono: ∀a0 a1 a2 k,LeO (r10_Delete.f k a0 a1 a2) (r10_Delete.f (k+1) a0 a1 a2):=by
 intro a0 a1 a2 k
 have ih0:=r10_Delete.mono_l k
 unfold r10_Delete.f
 repeat' first
  |(with_reducible exact ih0 _ _ _)
  |(with_reducible exact r10_Below.mono _ _ _)
  |(with_reducible exact r10_Find.mono _ _ _)
  |(with_reducible exact r10_old.mono _ _ _ _)
  |(with_reducible exact LeO.refl _)
  |(with_reducible exact LeO.none _)
  |(with_reducible refine LeO.ite ?_ ?_)
  |(with_reducible refine LeO.bind ?_ (fun _=> ?_))
  |exact ih0 _ _ _
  |exact r10_Below.mono _ _ _
  |exact r10_Find.mono _ _ _
  |exact r10_old.mono _ _ _ _
  |exact LeO.none _
  |refine LeO.ite ?_ ?_
  |refine LeO.bind ?_ (fun _=> ?_)
set_option maxHeartbeats 8000000 in
set_option maxRecDepth 100000 in
theorem r10_Delete.calls (k:Nat) (A0:Option Addr) (c0:Nat) (l0:List (S31)) (a1:ByteArray) (a2:Int) (r1:List (S31)) (r2:Int) (w:World) (hr0:Kd.C k31 w A0 l0.length l0) (hc0:l0.length≤c0) (h:r10_Delete.f k l0 a1 a2=some (r1,r2)):
  Calls Try.prog 93 #[.slice A0 l0.length c0, .string a1, .int .i64 a2] w fun e w'=> ∃v0_:Value,e= .returned (.agg #[v0_, .int .i64 r2])∧Kd.R k31 31 w' w.heap.size (fun _=>True) v0_ r1∧Below w.heap.size w w':=by
 have HR0:=Aside0.mk hr0
 have HC0:=Aside0.mk hc0
 clear hr0 hc0
 have HB:=am_ (Below.refl w.heap.size w)
 have H:((r10_old.f k l0 a1 a2).bind fun t2=>(if t2=0 then ((r10_Find.f k l0 a1).bind fun t7=>((r10_Below.f k l0 a1).bind fun t8=>(if (t8.length:Int)>0 then (r10_Delete.j0 k l0 t7 true) else (if 0≤t7 then (if t7<(l0.length:Int) then (r10_Delete.j0 k l0 t7 (!(((rd_T31 l0 t7).f3.f0)==0)||(!(((rd_T31 l0 t7).f3.f1)==0)||(!(((rd_T31 l0 t7).f3.f2)==0))))) else (none)) else (none))))) else ((r10_no.f t2).bind fun bt3=>(some (bt3.1,bt3.2)))))=some (r1,r2):=h
 clear h
 replace H:=Option.bind_eq_some_iff.mp H
 obtain ⟨t2,A40,H⟩:=H
 try dsimp only at H
 have A4:=Aside0.mk A40
 clear A40
 by_cases c5:t2=0
 rotate_left
 ·rw [if_neg c5] at H
  have c5b1:(t2 !=0)=true:=bne_iff_ne.mpr c5
  replace H:=Option.bind_eq_some_iff.mp H
  obtain ⟨⟨t3,t6⟩,A350,H⟩:=H
  try dsimp only at H
  have A35:=Aside0.mk A350
  clear A350
  simp only [Option.some.injEq,Prod.mk.injEq] at H
  obtain ⟨rfl,rfl⟩:=H
  go_enter Try.func93,Try.ntmps93
  go_wp2_with (first|((with_reducible refine gate_dst (N:=6) rfl ?_);refine bx_ (N:=6) (cs:=#[.slice none 0 0, .int .i64 0]) (t:=67) ?_;intro gb1 hg w36 hbox hb;have n0_:=am_ (below_step (zl0_ HB) hb);have n1_:=am_ (hbox);have n2_:=am_ ((zg0_ HB hg:w.heap.size≤gb1));have n3_:=am_ ((zg0_ HB hg:w.heap.size≤gb1));clear HB;have HB:=n0_;have BK1:=n1_;have GE1:=n3_;clear n0_ n1_ n2_ n3_;clear hb hbox hg)|((with_reducible refine gate_callee (f:=147) rfl ?_);refine gl_ (some 13) Try.func147 #[.slice A0 l0.length c0, .string a1, .int .i64 a2] ?_;(with_reducible refine (r10_old.calls k _ _ l0 a1 a2 t2 _ ?side1 ?side2 A4.out).mono ?_);(case side1=>exact zc_ (Kd.C_below HR0.out HB.out));(case side2=>exact HC0.out);rintro e w' ⟨rfl,⟨nd,rfl⟩⟩;refine ⟨_,rfl, ?_⟩;(try (rw [drewN_self w36];generalize hq_:World.drewN w36 _=w36;have n0_:Aside0 (w36.heap[gb1]?=some (.cells #[.slice none 0 0, .int .i64 0] 67 (0,0))):=⟨by rw [←hq_];exact (zb_ BK1)⟩;have n1_:Aside0 (Below w.heap.size w w36):=⟨by rw [←hq_];exact (zl1_ HB GE1)⟩;clear BK1 HB hq_;have BK1:=n0_;have HB:=n1_;clear n0_ n1_)))|((with_reducible refine gate_callee (f:=113) rfl ?_);refine gl_ (some 17) Try.func113 #[.int .i64 t2] ?_;(with_reducible refine (r10_no.calls t2 t3 t6 _ A35.out).mono ?_);rintro e w37 ⟨v4,rfl,ho0,hb⟩;refine ⟨_,rfl, ?_⟩;have HO5:=am_ (Kd.R_lower ho0 (below_size (zl1_ HB GE1)));replace BK1:=am_ (blk_below (zb_ BK1) hb);replace HB:=am_ (below_step (zl1_ HB GE1) hb);(try clear hb);(try clear hb2);(try clear hk);(try clear hi);(try clear ho0);obtain ⟨Ao38,co38,eo38⟩:=Kd.R_slice HO5.out;subst eo38;obtain ⟨hcz39_0,hcz39_1⟩:=x2_ BK1;have hfz39_0:=blk_frozen BK1.out 0;have hfz39_1:=blk_frozen BK1.out 1))
  refine bodyPost_ret (results_cell_row rfl _ _ gb1 67 #[.slice Ao38 t3.length co38, .int .i64 t6] (0,0) _ rfl (zw_ BK1) Try.underlying67 rfl (by kernel_rfl)) rfl ?_
  exact ⟨_,by first|rfl|(simp [errW_none,errW_some]<;>rfl)|(simp [*,errW_none,errW_some]<;>rfl),zy_ HO5 BK1,zl1_ HB GE1⟩

 rw [if_pos c5] at H
 have c5b1:(t2 !=0)=false:=bne_eq_false_iff_eq.mpr c5
 clear c5
 replace H:=Option.bind_eq_some_iff.mp H
 obtain ⟨t7,A60,H⟩:=H
 try dsimp only at H
 have A6:=Aside0.mk A60
 clear A60
 have HC7:=Aside0.mk H
 clear H
 go_enter Try.func93,Try.ntmps93
 go_upto_region 5 with (first|((with_reducible refine gate_dst (N:=6) rfl ?_);refine bx_ (N:=6) (cs:=#[.slice none 0 0, .int .i64 0]) (t:=67) ?_;intro gb1 hg w8 hbox hb;have n0_:=am_ (below_step (zl0_ HB) hb);have n1_:=am_ (hbox);have n2_:=am_ ((zg0_ HB hg:w.heap.size≤gb1));have n3_:=am_ ((zg0_ HB hg:w.heap.size≤gb1));clear HB;have HB:=n0_;have BK1:=n1_;have GE1:=n3_;clear n0_ n1_ n2_ n3_;clear hb hbox hg)|((with_reducible refine gate_callee (f:=147) rfl ?_);refine gl_ (some 13) Try.func147 #[.slice A0 l0.length c0, .string a1, .int .i64 a2] ?_;(with_reducible refine (r10_old.calls k _ _ l0 a1 a2 t2 _ ?side1 ?side2 A4.out).mono ?_);(case side1=>exact zc_ (Kd.C_below HR0.out HB.out));(case side2=>exact HC0.out);rintro e w' ⟨rfl,⟨nd,rfl⟩⟩;refine ⟨_,rfl, ?_⟩)|((with_reducible refine gate_callee (f:=50) rfl ?_);refine gl_ (some 20) Try.func50 #[.slice A0 l0.length c0, .string a1] ?_;(with_reducible refine (r10_Find.calls k _ _ l0 a1 t7 _ ?side1 ?side2 A6.out).mono ?_);(case side1=>repeat (first|exact (Kd.C_below HR0.out (zl1_ HB GE1))|(with_reducible refine Kd.C_alloc ?_ _)|(with_reducible refine Kd.C_drewN ?_ _)|(with_reducible refine Kd.C_drew ?_)));(case side2=>exact HC0.out);rintro e w' ⟨rfl,⟨nd,rfl⟩⟩;refine ⟨_,rfl, ?_⟩))
 (try simp only [Act.put,List.setIfInBounds_toArray,List.set_cons_zero,List.set_cons_succ])
 go_cut [34] (fun v34 wc=> ∃(kq:Nat) (x34_6:Bool),v34= .bool x34_6∧Aside0 (r10_Delete.j0 kq l0 t7 x34_6=some (r1,r2))∧Aside0 (kq≤k)∧Aside0 (wc.heap[gb1]?=some (.cells #[(.slice none 0 0), .int .i64 0] 67 (0,0)))∧Aside0 (Below w.heap.size w wc))
 case first=>
  have H:=HC7.out
  clear HC7
  replace H:=Option.bind_eq_some_iff.mp H
  obtain ⟨t8,A90,H⟩:=H
  try dsimp only at H
  have A9:=Aside0.mk A90
  clear A90
  by_cases c10:(t8.length:Int)>0
  ·rw [if_pos c10] at H
   have c10b0:decide (0<(t8.length:Int))=true:=decide_eq_true c10
   have c10b1:decide (0<t8.length)=true:=decide_eq_true (by omega)
   clear c10
   (first|rw [c10b0]|(simp only [i64_w,i32_w];rw [c10b0])|skip)
   have H':=Aside0.mk H
   clear H
   go_wp2_with (first|((with_reducible refine gate_callee (f:=75) rfl ?_);refine gl_ (some 23) Try.func75 #[.slice A0 l0.length c0, .string a1] ?_;(with_reducible refine (r10_Below.calls k _ _ l0 a1 t8 _ ?side1 ?side2 A9.out).mono ?_);(case side1=>exact zc_ (Kd.C_below HR0.out HB.out));(case side2=>exact HC0.out);rintro e w11 ⟨v9,rfl,ho0,hb⟩;refine ⟨_,rfl, ?_⟩;have HO10:=am_ (Kd.R_lower ho0 (below_size (zl1_ HB GE1)));replace BK1:=am_ (blk_below (zb_ BK1) hb);replace HB:=am_ (below_step (zl1_ HB GE1) hb);(try clear hb);(try clear hb2);(try clear hk);(try clear hi);(try clear ho0);obtain ⟨Ao12,co12,eo12⟩:=Kd.R_slice HO10.out;subst eo12))
   go_meet
   case rel=>exact ⟨_,(true),(by first|rfl|(simp;done)|(simp [*];done)),H',⟨by first|omega|exact Nat.le_refl _⟩,⟨by refine zk_ ?_;exact BK1.out⟩,⟨zl1_ HB GE1⟩⟩
  rw [if_neg c10] at H
  have c10b0:decide (0<(t8.length:Int))=false:=decide_eq_false c10
  have c10b1:decide (0<t8.length)=false:=decide_eq_false (by omega)
  clear c10
  (first|rw [c10b0]|(simp only [i64_w,i32_w];rw [c10b0])|skip)
  by_cases c13:0≤t7
  rotate_left
  ·rw [if_neg c13] at H
   exact absurd H (by simp)
  rw [if_pos c13] at H
  have c13b0:decide (0≤t7)=true:=decide_eq_true c13
  clear c13
  by_cases c14:t7<(l0.length:Int)
  rotate_left
  ·rw [if_neg c14] at H
   exact absurd H (by simp)
  rw [if_pos c14] at H
  have c14b0:decide (t7<(l0.length:Int))=true:=decide_eq_true c14
  clear c14
  have H':=Aside0.mk H
  clear H
  go_wp2_with (first|((with_reducible refine gate_callee (f:=75) rfl ?_);refine gl_ (some 23) Try.func75 #[.slice A0 l0.length c0, .string a1] ?_;(with_reducible refine (r10_Below.calls k _ _ l0 a1 t8 _ ?side1 ?side2 A9.out).mono ?_);(case side1=>exact zc_ (Kd.C_below HR0.out HB.out));(case side2=>exact HC0.out);rintro e w15 ⟨v9,rfl,ho0,hb⟩;refine ⟨_,rfl, ?_⟩;have HO10:=am_ (Kd.R_lower ho0 (below_size (zl1_ HB GE1)));replace BK1:=am_ (blk_below (zb_ BK1) hb);replace HB:=am_ (below_step (zl1_ HB GE1) hb);(try clear hb);(try clear hb2);(try clear hk);(try clear hi);(try clear ho0);obtain ⟨Ao16,co16,eo16⟩:=Kd.R_slice HO10.out;subst eo16;have p11:0≤(t7:Int):=of_decide_eq_true zq_;have q11:t7<(l0.length:Int):=of_decide_eq_true zq_;obtain ⟨ad11,e11,hx11_0,hx11_1,hx11_2,hx11_3,hx11_4,hx11_5,hx11_6,hx11_7,hx11_8,hx11_9,hx11_10,hx11_11⟩:=at_T31 HR0.out t7 p11 q11;cases e11;replace hx11_0:=zx_ HB hx11_0;replace hx11_1:=zx_ HB hx11_1;replace hx11_2:=zx_ HB hx11_2;replace hx11_3:=zx_ HB hx11_3;replace hx11_4:=zx_ HB hx11_4;replace hx11_5:=zx_ HB hx11_5;replace hx11_6:=zx_ HB hx11_6;replace hx11_7:=zx_ HB hx11_7;replace hx11_8:=zx_ HB hx11_8;replace hx11_9:=zx_ HB hx11_9;replace hx11_10:=zx_ HB hx11_10;replace hx11_11:=zx_ HB hx11_11;replace p11:=eq_true p11;replace q11:=eq_true q11))
  go_meet
  case rel=>exact ⟨_,((!(((rd_T31 l0 t7).f3.f0)==0)||(!(((rd_T31 l0 t7).f3.f1)==0)||(!(((rd_T31 l0 t7).f3.f2)==0))))),(by first|rfl|(simp;done)|(simp [*];done)),H',⟨by first|omega|exact Nat.le_refl _⟩,⟨by refine zk_ ?_;exact BK1.out⟩,⟨zl1_ HB GE1⟩⟩
 case rest=>
  clear HC7
  try clear c1
  try clear p1
  try clear q1
  try clear hx1
  try clear p2
  try clear c5
  try clear c5b1
  try clear c7
  try clear c9
  try clear c10
  try clear c10b0
  try clear c10b1
  try clear p11
  try clear q11
  try clear hx11
  try clear c13
  try clear c13b0
  try clear c14
  try clear c14b0
  try clear hx11_0
  try clear hx11_1
  try clear hx11_10
  try clear hx11_11
  try clear hx11_2
  try clear hx11_3
  try clear hx11_4
  try clear hx11_5
  try clear hx11_6
  try clear hx11_7
  try clear hx11_8
  try clear hx11_9
  try clear p11
  try clear q11
  obtain ⟨kq,x34_6,rfl,HA,HJ6,BK1,HB⟩:=hcut
  cases kq with
  |zero=>exact absurd HA.out (by simp [r10_Delete.j0])
  |succ kj6=>
   have H:=HA.out
   clear HA
   simp only [r10_Delete.j0] at H
   by_cases c17:x34_6=true
   ·subst c17
    have H1:((r10_no.f 13).bind fun bt12=>(some (bt12.1,bt12.2)))=some (r1,r2):=by rw [if_pos rfl] at H;exact H
    clear H
    have H:=H1
    clear H1
    replace H:=Option.bind_eq_some_iff.mp H
    obtain ⟨⟨t12,t15⟩,A180,H⟩:=H
    try dsimp only at H
    have A18:=Aside0.mk A180
    clear A180
    simp only [Option.some.injEq,Prod.mk.injEq] at H
    obtain ⟨rfl,rfl⟩:=H
    go_wp2_with (first|((with_reducible refine gate_callee (f:=113) rfl ?_);refine gl_ (some 35) Try.func113 #[.int .i64 13] ?_;(with_reducible refine (r10_no.calls 13 t12 t15 _ A18.out).mono ?_);rintro e w19 ⟨v13,rfl,ho0,hb⟩;refine ⟨_,rfl, ?_⟩;have HO14:=am_ (Kd.R_lower ho0 (below_size (zl1_ HB GE1)));replace BK1:=am_ (blk_below (zb_ BK1) hb);replace HB:=am_ (below_step (zl1_ HB GE1) hb);(try clear hb);(try clear hb2);(try clear hk);(try clear hi);(try clear ho0);obtain ⟨Ao20,co20,eo20⟩:=Kd.R_slice HO14.out;subst eo20;obtain ⟨hcz21_0,hcz21_1⟩:=x2_ BK1;have hfz21_0:=blk_frozen BK1.out 0;have hfz21_1:=blk_frozen BK1.out 1))
    refine bodyPost_ret (results_cell_row rfl _ _ gb1 67 #[.slice Ao20 t12.length co20, .int .i64 t15] (0,0) _ rfl (zw_ BK1) Try.underlying67 rfl (by kernel_rfl)) rfl ?_
    exact ⟨_,by first|rfl|(simp [errW_none,errW_some]<;>rfl)|(simp [*,errW_none,errW_some]<;>rfl),zy_ HO14 BK1,zl1_ HB GE1⟩
   replace c17:=Bool.eq_false_iff.mpr c17
   subst c17
   have H1:(if 0≤t7 then (if t7≤(l0.length:Int) then ((r10_copied.f (l0.take (t7:Int).toNat)).bind fun t20=>(if 0≤(wrap64 (t7+1)) then (if (wrap64 (t7+1))≤(l0.length:Int) then ((some (l0.drop ((wrap64 (t7+1)):Int).toNat:List (S31))).bind fun y23=>(if t20.length+y23.length<1256584717458 then (some ((t20++y23),0)) else (none))) else (none)) else (none))) else (none)) else (none))=some (r1,r2):=by rw [if_neg (show¬(false=true) by decide)] at H;exact H
   clear H
   have H:=H1
   clear H1
   by_cases c22:0≤t7
   rotate_left
   ·rw [if_neg c22] at H
    exact absurd H (by simp)
   rw [if_pos c22] at H
   have c22b1:decide (0≤t7)=true:=decide_eq_true c22
   clear c22
   by_cases c23:t7≤(l0.length:Int)
   rotate_left
   ·rw [if_neg c23] at H
    exact absurd H (by simp)
   rw [if_pos c23] at H
   have c23b1:decide (t7≤(l0.length:Int))=true:=decide_eq_true c23
   clear c23
   obtain ⟨y16,hy16⟩: ∃y_:List (S31),y_=(l0.take (t7:Int).toNat):=⟨_,rfl⟩
   replace H:((r10_copied.f y16).bind fun t20=>(if 0≤(wrap64 (t7+1)) then (if (wrap64 (t7+1))≤(l0.length:Int) then ((some (l0.drop ((wrap64 (t7+1)):Int).toNat:List (S31))).bind fun y23=>(if t20.length+y23.length<1256584717458 then (some ((t20++y23),0)) else (none))) else (none)) else (none)))=some (r1,r2):=by first|(rw [hy16];with_reducible exact H)|(have H2_:=(Option.bind_some _ _).symm.trans H;rw [hy16];with_reducible exact H2_)|(have H2_:=(Option.bind_some _ _).symm.trans H;with_reducible exact H2_)|with_reducible exact H|(rw [hy16];exact H)|exact H
   have Ny16:=Aside0.mk hy16
   clear hy16
   replace H:=Option.bind_eq_some_iff.mp H
   obtain ⟨t20,A240,H⟩:=H
   try dsimp only at H
   have A24:=Aside0.mk A240
   clear A240
   obtain ⟨ji25,hji25⟩: ∃j_:Int,(wrap64 (t7+1))=j_:=⟨_,rfl⟩
   replace H:(if 0≤(ji25) then (if (ji25)≤(l0.length:Int) then ((some (l0.drop ((ji25):Int).toNat:List (S31))).bind fun y23=>(if t20.length+y23.length<1256584717458 then (some ((t20++y23),0)) else (none))) else (none)) else (none))=some (r1,r2):=by first|(rw [hji25] at H;exact H)|(simp only [hji25] at H ⊢;exact H)
   (try rw [hji25] at A24)
   have hji25w:(IntKind.i64.wrap (t7+1))=ji25:=(i64_w _).trans hji25
   by_cases c26:0≤(ji25)
   rotate_left
   ·rw [if_neg c26] at H
    exact absurd H (by simp)
   rw [if_pos c26] at H
   have c26b1:decide (0≤(ji25))=true:=decide_eq_true c26
   clear c26
   by_cases c27:(ji25)≤(l0.length:Int)
   rotate_left
   ·rw [if_neg c27] at H
    exact absurd H (by simp)
   rw [if_pos c27] at H
   have c27b1:decide ((ji25)≤(l0.length:Int))=true:=decide_eq_true c27
   clear c27
   obtain ⟨y23,hy23⟩: ∃y_:List (S31),y_=(l0.drop ((ji25):Int).toNat):=⟨_,rfl⟩
   replace H:(if t20.length+y23.length<1256584717458 then (some ((t20++y23),0)) else (none))=some (r1,r2):=by first|(rw [hy23];with_reducible exact H)|(have H2_:=(Option.bind_some _ _).symm.trans H;rw [hy23];with_reducible exact H2_)|(have H2_:=(Option.bind_some _ _).symm.trans H;with_reducible exact H2_)|with_reducible exact H|(rw [hy23];exact H)|exact H
   have Ny23:=Aside0.mk hy23
   clear hy23
   by_cases c28:t20.length+y23.length<1256584717458
   rotate_left
   ·rw [if_neg c28] at H
    exact absurd H (by simp)
   rw [if_pos c28] at H
   have LMc28:=Aside0.mk c28
   clear c28
   obtain ⟨y27,hy27⟩: ∃y_:List (S31),y_=(t20++y23):=⟨_,rfl⟩
   replace H:(some (y27,0))=some (r1,r2):=by first|(rw [hy27];with_reducible exact H)|(have H2_:=(Option.bind_some _ _).symm.trans H;rw [hy27];with_reducible exact H2_)|(have H2_:=(Option.bind_some _ _).symm.trans H;with_reducible exact H2_)|with_reducible exact H|(rw [hy27];exact H)|exact H
   have Ny27:=Aside0.mk hy27
   clear hy27
   simp only [Option.some.injEq,Prod.mk.injEq] at H
   obtain ⟨rfl,rfl⟩:=H
   have q29:(t7:Int)≤((l0.length:Int):Int):=of_decide_eq_true zq_
   obtain ⟨i029,hi029,_,hsz29,_⟩:=info_parts info31
   have hroom29:l0.length≤c0:=HC0.out
   have hC29:Kd.C k31 _ A0 l0.length l0:=HR0.out
   have hcut29:=cut_to (P:=Try.prog) 24 31 .i64 Try.underlying24 hi029 A0 l0.length c0 t7 (of_decide_eq_true zq_) q29 hroom29
   have hr29:=Kd.C_take (m:=(t7:Int).toNat) hC29 (by omega)
   have hy29:y16.length=(t7:Int).toNat:=(by rw [Ny16.out,List.length_take];omega)
   rw [←Ny16.out] at hr29
   rw [←hy29] at hcut29
   have HR19:=Aside0.mk hr29
   have HC19:=am_ (show y16.length≤c0 from by omega)
   clear hr29 hC29 hroom29 hi029 hsz29
   clear hy29
   replace q29:=eq_true q29
   go_wp2_with (first|((with_reducible refine gate_callee (f:=124) rfl ?_);refine gl_ (some 39) Try.func124 #[.slice A0 y16.length c0] ?_;(with_reducible refine (r10_copied.calls _ _ y16 t20 _ ?side1 ?side2 A24.out).mono ?_);(case side1=>exact zc_ (Kd.C_below HR19.out HB.out));(case side2=>exact HC19.out);rintro e w30 ⟨v21,rfl,ho0,hb⟩;refine ⟨_,rfl, ?_⟩;have HO22:=am_ (Kd.R_lower ho0 (below_size (zl1_ HB GE1)));replace BK1:=am_ (blk_below (zb_ BK1) hb);replace HB:=am_ (below_step (zl1_ HB GE1) hb);(try clear hb);(try clear hb2);(try clear hk);(try clear hi);(try clear ho0);have q31:((ji25):Int)≤((l0.length:Int):Int):=of_decide_eq_true zq_;obtain ⟨i031,hi031,_,hsz31,_⟩:=info_parts info31;have hroom31:l0.length≤c0:=HC0.out;have hC31:Kd.C k31 _ A0 l0.length l0:=HR0.out;have q031:(0:Int)≤((ji25):Int):=of_decide_eq_true zq_;have hcut31:=cut_from (P:=Try.prog) 24 31 .i64 Try.underlying24 hi031 12 hsz31 A0 l0.length c0 (ji25) q031 q31;have hr31:=Kd.C_drop (m:=((ji25):Int).toNat) (c:=c0) hC31 (by omega) hroom31;obtain ⟨A31,hA31⟩: ∃A1,A1=(if c0=((ji25):Int).toNat then A0 else (A0:Option Addr).map (·.add (((ji25):Int).toNat*12))):=⟨_,rfl⟩;obtain ⟨c31,hc31⟩: ∃c1,c1=c0 - ((ji25):Int).toNat:=⟨_,rfl⟩;have hy31:y23.length=l0.length - ((ji25):Int).toNat:=(by rw [Ny23.out,List.length_drop]<;>omega);rw [show (l0).drop ((ji25):Int).toNat=y23 from Ny23.out.symm] at hr31;replace hr31:Kd.C k31 _ A31 y23.length y23:=(by rw [hA31];exact hr31);rw [←hy31,←hA31,←hc31] at hcut31;have HR26:=Aside0.mk hr31;clear hr31 hC31 hroom31 hi031 hsz31 hc31;clear hy31 hA31;replace q31:=eq_true q31)|((with_reducible refine gate_builtin (b:= .append) (xs:=#[.tmp 40, .tmp 44]) rfl ?_);at_builtin;refine Kd.R_append_rows k31 (w0:=w) w.heap.size rfl (.tmp 40) (.tmp 44) 24 31 (.agg #[(.string ⟨#[]⟩),(.string ⟨#[]⟩),(.int .i64 0),(.int .i64 0),(.int .i64 0),(.int .i64 0),(.int .i64 0),(.int .i64 0),(.int .i64 0),(.int .i64 0),(.int .i64 0),(.int .i64 0)]) 112 rfl Try.underlying24 info31 rfl (by decide) (by omega) v21 t20 y23 _ _ _ (fun _=>True) (fun _=>False) rfl rfl ?aO ?aR (fun _ _ h=>h) (fun _ h=>h.elim) ?aF ?aB ?aS ?aL ?_;(case aR=>repeat (first|exact (Kd.C_below HR26.out HB.out)|(with_reducible refine Kd.C_alloc ?_ _)|(with_reducible refine Kd.C_drewN ?_ _)|(with_reducible refine Kd.C_drew ?_)));(case aB=>exact (zl1_ HB GE1));(case aF=>exact (fun _ _=>trivial));(case aO=>exact (zr_ HO22));(case aS=>exact (below_size (zl1_ HB GE1)));(case aL=>have:=LMc28.out;omega);intro v28 w32 ho hb hg hat;rw [←Ny27.out] at ho;have n0_:=am_ (blk_grown (zb_ BK1) hg (Kd.R_ne HO22.out BK1.out (by decide)));have n1_:=am_ (hb);have n2_:=am_ (ho);clear BK1;clear HB;clear HO22;have BK1:=n0_;have HB:=n1_;have HO29:=n2_;clear n0_ n1_ n2_;clear ho hb hg hat;obtain ⟨Ao33,co33,eo33⟩:=Kd.R_slice HO29.out;subst eo33;obtain ⟨hcz34_0,hcz34_1⟩:=x2_ BK1;have hfz34_0:=blk_frozen BK1.out 0;have hfz34_1:=blk_frozen BK1.out 1))
   refine bodyPost_ret (results_cell_row rfl _ _ gb1 67 #[.slice Ao33 y27.length co33, .int .i64 0] (0,0) _ rfl (zw_ BK1) Try.underlying67 rfl (by kernel_rfl)) rfl ?_
   exact ⟨_,by first|rfl|(simp [errW_none,errW_some]<;>rfl)|(simp only [←hji25];first|rfl|(simp [errW_none,errW_some]<;>rfl))|(simp [*,errW_none,errW_some]<;>rfl),zy_ HO29 BK1,zl1_ HB GE1⟩
def r10_Do.f (k:Nat) (l0:List (S31)) (a1_0:Int) (a1_1:ByteArray) (a1_2:ByteArray) (a1_3:Int) (a1_4:Int) (a1_5:Int) (a2:Int):Option ((List (S31))×Int):=if a1_0=1 then ((r10_Create.f k l0 a1_1 a1_2 a1_3 a1_4 a1_5).bind fun bt3=>(some (bt3.1,bt3.2))) else (if a1_0=2 then ((r10_Limit.f k l0 a1_1 a1_3 a1_4 a1_5 a2).bind fun bt7=>(some (bt7.1,bt7.2))) else (if a1_0=3 then ((r10_Move.f k l0 a1_1 a1_2 a2).bind fun bt11=>(some (bt11.1,bt11.2))) else (if a1_0=4 then ((r10_Delete.f k l0 a1_1 a2).bind fun bt15=>(some (bt15.1,bt15.2))) else ((r10_no.f 1).bind fun bt19=>(some (bt19.1,bt19.2))))))
theorem r10_Do.mono: ∀a0 a1 a2 a3 a4 a5 a6 a7 k,LeO (r10_Do.f k a0 a1 a2 a3 a4 a5 a6 a7) (r10_Do.f (k+1) a0 a1 a2 a3 a4 a5 a6 a7):=by
 intro a0 a1 a2 a3 a4 a5 a6 a7 k
 unfold r10_Do.f
 repeat' first
  |(with_reducible exact r10_Create.mono _ _ _ _ _ _ _)
  |(with_reducible exact r10_Delete.mono _ _ _ _)
  |(with_reducible exact r10_Limit.mono _ _ _ _ _ _ _)
  |(with_reducible exact r10_Move.mono _ _ _ _ _)
  |(with_reducible exact LeO.refl _)
  |(with_reducible exact LeO.none _)
  |(with_reducible refine LeO.ite ?_ ?_)
  |(with_reducible refine LeO.bind ?_ (fun _=> ?_))
  |exact r10_Create.mono _ _ _ _ _ _ _
  |exact r10_Delete.mono _ _ _ _
  |exact r10_Limit.mono _ _ _ _ _ _ _
  |exact r10_Move.mono _ _ _ _ _
  |exact LeO.none _
  |refine LeO.ite ?_ ?_
  |refine LeO.bind ?_ (fun _=> ?_)
set_option maxHeartbeats 8000000 in
set_option maxRecDepth 100000 in
theorem r10_Do.calls (k:Nat) (A0:Option Addr) (c0:Nat) (l0:List (S31)) (a1_0:Int) (a1_1:ByteArray) (a1_2:ByteArray) (a1_3:Int) (a1_4:Int) (a1_5:Int) (a2:Int) (r1:List (S31)) (r2:Int) (w:World) (hr0:Kd.C k31 w A0 l0.length l0) (hc0:l0.length≤c0) (h:r10_Do.f k l0 a1_0 a1_1 a1_2 a1_3 a1_4 a1_5 a2=some (r1,r2)):
  Calls Try.prog 58 #[.slice A0 l0.length c0, .agg #[.int .i64 a1_0, .string a1_1, .string a1_2, .int .i64 a1_3, .int .i64 a1_4, .int .i64 a1_5], .int .i64 a2] w fun e w'=> ∃v0_:Value,e= .returned (.agg #[v0_, .int .i64 r2])∧Kd.R k31 31 w' w.heap.size (fun _=>True) v0_ r1∧Below w.heap.size w w':=by
 have HR0:=Aside0.mk hr0
 have HC0:=Aside0.mk hc0
 clear hr0 hc0
 have HB:=am_ (Below.refl w.heap.size w)
 have H:(if a1_0=1 then ((r10_Create.f k l0 a1_1 a1_2 a1_3 a1_4 a1_5).bind fun bt3=>(some (bt3.1,bt3.2))) else (if a1_0=2 then ((r10_Limit.f k l0 a1_1 a1_3 a1_4 a1_5 a2).bind fun bt7=>(some (bt7.1,bt7.2))) else (if a1_0=3 then ((r10_Move.f k l0 a1_1 a1_2 a2).bind fun bt11=>(some (bt11.1,bt11.2))) else (if a1_0=4 then ((r10_Delete.f k l0 a1_1 a2).bind fun bt15=>(some (bt15.1,bt15.2))) else ((r10_no.f 1).bind fun bt19=>(some (bt19.1,bt19.2)))))))=some (r1,r2):=h
 clear h
 by_cases c4:a1_0=1
 ·rw [if_pos c4] at H
  have c4b0:(a1_0==1)=true:=beq_iff_eq.mpr c4
  clear c4
  replace H:=Option.bind_eq_some_iff.mp H
  obtain ⟨⟨t3,t6⟩,A50,H⟩:=H
  try dsimp only at H
  have A5:=Aside0.mk A50
  clear A50
  simp only [Option.some.injEq,Prod.mk.injEq] at H
  obtain ⟨rfl,rfl⟩:=H
  go_enter Try.func58,Try.ntmps58
  go_wp2_with (first|((with_reducible refine gate_dst (N:=4) rfl ?_);refine bx_ (N:=4) (cs:=#[.int .i64 a1_0, .string a1_1, .string a1_2, .int .i64 a1_3, .int .i64 a1_4, .int .i64 a1_5]) (t:=58) ?_;intro gb1 hg w6 hbox hb;have n0_:=am_ (below_step (zl0_ HB) hb);have n1_:=am_ (hbox);have n2_:=am_ ((zg0_ HB hg:w.heap.size≤gb1));have n3_:=am_ ((zg0_ HB hg:w.heap.size≤gb1));clear HB;have HB:=n0_;have BK1:=n1_;have GE1:=n3_;clear n0_ n1_ n2_ n3_;clear hb hbox hg)|((with_reducible refine gate_dst (N:=6) rfl ?_);refine bx_ (N:=6) (cs:=#[.slice none 0 0, .int .i64 0]) (t:=67) ?_;intro gb2 hg w7 hbox hb;have n0_:=am_ (blk_below (zb_ BK1) hb);have n1_:=am_ (below_step (zl1_ HB GE1) hb);have n2_:=am_ (hbox);have n3_:=am_ ((zg1_ HB GE1 hg:w.heap.size≤gb2));have n4_:=am_ ((zg1_ HB GE1 hg:w.heap.size≤gb2));have n5_:=am_ ((zn_ BK1 hg:gb1≠gb2));have n6_:=am_ ((zm_ BK1 hg:gb2≠gb1));clear BK1;clear HB;have BK1:=n0_;have HB:=n1_;have BK2:=n2_;have GE2:=n4_;clear n0_ n1_ n2_ n3_ n4_ n5_ n6_;clear hb hbox hg;obtain ⟨hcz9_0,hcz9_1,hcz9_2,hcz9_3,hcz9_4,hcz9_5⟩:=x6_ BK1)|((with_reducible refine gate_callee (f:=83) rfl ?_);refine gl_ (some 18) Try.func83 #[.slice A0 l0.length c0, .string a1_1, .string a1_2, .agg #[.int .i64 a1_3, .int .i64 a1_4, .int .i64 a1_5]] ?_;(with_reducible refine (r10_Create.calls k _ _ l0 a1_1 a1_2 a1_3 a1_4 a1_5 t3 t6 _ ?side1 ?side2 A5.out).mono ?_);(case side1=>exact zc_ (Kd.C_below HR0.out HB.out));(case side2=>exact HC0.out);rintro e w10 ⟨v4,rfl,ho0,hb⟩;refine ⟨_,rfl, ?_⟩;have HO5:=am_ (Kd.R_lower ho0 (below_size (zl2_ HB GE1 GE2)));replace BK1:=am_ (blk_below (zb_ BK1) hb);replace BK2:=am_ (blk_below (zb_ BK2) hb);replace HB:=am_ (below_step (zl2_ HB GE1 GE2) hb);(try clear hb);(try clear hb2);(try clear hk);(try clear hi);(try clear ho0);obtain ⟨Ao11,co11,eo11⟩:=Kd.R_slice HO5.out;subst eo11;obtain ⟨hcz12_0,hcz12_1⟩:=x2_ BK2;have hfz12_0:=blk_frozen BK2.out 0;have hfz12_1:=blk_frozen BK2.out 1))
  refine bodyPost_ret (results_cell_row rfl _ _ gb2 67 #[.slice Ao11 t3.length co11, .int .i64 t6] (0,0) _ rfl (zw_ BK2) Try.underlying67 rfl (by kernel_rfl)) rfl ?_
  exact ⟨_,by first|rfl|(simp [errW_none,errW_some]<;>rfl)|(simp [*,errW_none,errW_some]<;>rfl),zy_ HO5 BK2,zl2_ HB GE1 GE2⟩
 rw [if_neg c4] at H
 have c4b0:(a1_0==1)=false:=beq_eq_false_iff_ne.mpr c4
 by_cases c13:a1_0=2
 ·rw [if_pos c13] at H
  have c13b0:(a1_0==2)=true:=beq_iff_eq.mpr c13
  clear c13
  replace H:=Option.bind_eq_some_iff.mp H
  obtain ⟨⟨t7,t10⟩,A140,H⟩:=H
  try dsimp only at H
  have A14:=Aside0.mk A140
  clear A140
  simp only [Option.some.injEq,Prod.mk.injEq] at H
  obtain ⟨rfl,rfl⟩:=H
  go_enter Try.func58,Try.ntmps58
  go_wp2_with (first|((with_reducible refine gate_dst (N:=4) rfl ?_);refine bx_ (N:=4) (cs:=#[.int .i64 a1_0, .string a1_1, .string a1_2, .int .i64 a1_3, .int .i64 a1_4, .int .i64 a1_5]) (t:=58) ?_;intro gb1 hg w15 hbox hb;have n0_:=am_ (below_step (zl0_ HB) hb);have n1_:=am_ (hbox);have n2_:=am_ ((zg0_ HB hg:w.heap.size≤gb1));have n3_:=am_ ((zg0_ HB hg:w.heap.size≤gb1));clear HB;have HB:=n0_;have BK1:=n1_;have GE1:=n3_;clear n0_ n1_ n2_ n3_;clear hb hbox hg)|((with_reducible refine gate_dst (N:=6) rfl ?_);refine bx_ (N:=6) (cs:=#[.slice none 0 0, .int .i64 0]) (t:=67) ?_;intro gb2 hg w16 hbox hb;have n0_:=am_ (blk_below (zb_ BK1) hb);have n1_:=am_ (below_step (zl1_ HB GE1) hb);have n2_:=am_ (hbox);have n3_:=am_ ((zg1_ HB GE1 hg:w.heap.size≤gb2));have n4_:=am_ ((zg1_ HB GE1 hg:w.heap.size≤gb2));have n5_:=am_ ((zn_ BK1 hg:gb1≠gb2));have n6_:=am_ ((zm_ BK1 hg:gb2≠gb1));clear BK1;clear HB;have BK1:=n0_;have HB:=n1_;have BK2:=n2_;have GE2:=n4_;clear n0_ n1_ n2_ n3_ n4_ n5_ n6_;clear hb hbox hg;obtain ⟨hcz18_0,hcz18_1⟩:=x2_ BK1;have hcz18_3:=zz_ BK1 3;have hcz18_4:=zz_ BK1 4;have hcz18_5:=zz_ BK1 5)|((with_reducible refine gate_callee (f:=91) rfl ?_);refine gl_ (some 27) Try.func91 #[.slice A0 l0.length c0, .string a1_1, .agg #[.int .i64 a1_3, .int .i64 a1_4, .int .i64 a1_5], .int .i64 a2] ?_;(with_reducible refine (r10_Limit.calls k _ _ l0 a1_1 a1_3 a1_4 a1_5 a2 t7 t10 _ ?side1 ?side2 A14.out).mono ?_);(case side1=>exact zc_ (Kd.C_below HR0.out HB.out));(case side2=>exact HC0.out);rintro e w19 ⟨v8,rfl,ho0,hb⟩;refine ⟨_,rfl, ?_⟩;have HO9:=am_ (Kd.R_lower ho0 (below_size (zl2_ HB GE1 GE2)));replace BK1:=am_ (blk_below (zb_ BK1) hb);replace BK2:=am_ (blk_below (zb_ BK2) hb);replace HB:=am_ (below_step (zl2_ HB GE1 GE2) hb);(try clear hb);(try clear hb2);(try clear hk);(try clear hi);(try clear ho0);obtain ⟨Ao20,co20,eo20⟩:=Kd.R_slice HO9.out;subst eo20;obtain ⟨hcz21_0,hcz21_1⟩:=x2_ BK2;have hfz21_0:=blk_frozen BK2.out 0;have hfz21_1:=blk_frozen BK2.out 1))
  refine bodyPost_ret (results_cell_row rfl _ _ gb2 67 #[.slice Ao20 t7.length co20, .int .i64 t10] (0,0) _ rfl (zw_ BK2) Try.underlying67 rfl (by kernel_rfl)) rfl ?_
  exact ⟨_,by first|rfl|(simp [errW_none,errW_some]<;>rfl)|(simp [*,errW_none,errW_some]<;>rfl),zy_ HO9 BK2,zl2_ HB GE1 GE2⟩
 rw [if_neg c13] at H
 have c13b0:(a1_0==2)=false:=beq_eq_false_iff_ne.mpr c13
 by_cases c22:a1_0=3
 ·rw [if_pos c22] at H
  have c22b0:(a1_0==3)=true:=beq_iff_eq.mpr c22
  clear c22
  replace H:=Option.bind_eq_some_iff.mp H
  obtain ⟨⟨t11,t14⟩,A230,H⟩:=H
  try dsimp only at H
  have A23:=Aside0.mk A230
  clear A230
  simp only [Option.some.injEq,Prod.mk.injEq] at H
  obtain ⟨rfl,rfl⟩:=H
  go_enter Try.func58,Try.ntmps58
  go_wp2_with (first|((with_reducible refine gate_dst (N:=4) rfl ?_);refine bx_ (N:=4) (cs:=#[.int .i64 a1_0, .string a1_1, .string a1_2, .int .i64 a1_3, .int .i64 a1_4, .int .i64 a1_5]) (t:=58) ?_;intro gb1 hg w24 hbox hb;have n0_:=am_ (below_step (zl0_ HB) hb);have n1_:=am_ (hbox);have n2_:=am_ ((zg0_ HB hg:w.heap.size≤gb1));have n3_:=am_ ((zg0_ HB hg:w.heap.size≤gb1));clear HB;have HB:=n0_;have BK1:=n1_;have GE1:=n3_;clear n0_ n1_ n2_ n3_;clear hb hbox hg)|((with_reducible refine gate_dst (N:=6) rfl ?_);refine bx_ (N:=6) (cs:=#[.slice none 0 0, .int .i64 0]) (t:=67) ?_;intro gb2 hg w25 hbox hb;have n0_:=am_ (blk_below (zb_ BK1) hb);have n1_:=am_ (below_step (zl1_ HB GE1) hb);have n2_:=am_ (hbox);have n3_:=am_ ((zg1_ HB GE1 hg:w.heap.size≤gb2));have n4_:=am_ ((zg1_ HB GE1 hg:w.heap.size≤gb2));have n5_:=am_ ((zn_ BK1 hg:gb1≠gb2));have n6_:=am_ ((zm_ BK1 hg:gb2≠gb1));clear BK1;clear HB;have BK1:=n0_;have HB:=n1_;have BK2:=n2_;have GE2:=n4_;clear n0_ n1_ n2_ n3_ n4_ n5_ n6_;clear hb hbox hg;obtain ⟨hcz27_0,hcz27_1,hcz27_2⟩:=x3_ BK1)|((with_reducible refine gate_callee (f:=92) rfl ?_);refine gl_ (some 36) Try.func92 #[.slice A0 l0.length c0, .string a1_1, .string a1_2, .int .i64 a2] ?_;(with_reducible refine (r10_Move.calls k _ _ l0 a1_1 a1_2 a2 t11 t14 _ ?side1 ?side2 A23.out).mono ?_);(case side1=>exact zc_ (Kd.C_below HR0.out HB.out));(case side2=>exact HC0.out);rintro e w28 ⟨v12,rfl,ho0,hb⟩;refine ⟨_,rfl, ?_⟩;have HO13:=am_ (Kd.R_lower ho0 (below_size (zl2_ HB GE1 GE2)));replace BK1:=am_ (blk_below (zb_ BK1) hb);replace BK2:=am_ (blk_below (zb_ BK2) hb);replace HB:=am_ (below_step (zl2_ HB GE1 GE2) hb);(try clear hb);(try clear hb2);(try clear hk);(try clear hi);(try clear ho0);obtain ⟨Ao29,co29,eo29⟩:=Kd.R_slice HO13.out;subst eo29;obtain ⟨hcz30_0,hcz30_1⟩:=x2_ BK2;have hfz30_0:=blk_frozen BK2.out 0;have hfz30_1:=blk_frozen BK2.out 1))
  refine bodyPost_ret (results_cell_row rfl _ _ gb2 67 #[.slice Ao29 t11.length co29, .int .i64 t14] (0,0) _ rfl (zw_ BK2) Try.underlying67 rfl (by kernel_rfl)) rfl ?_
  exact ⟨_,by first|rfl|(simp [errW_none,errW_some]<;>rfl)|(simp [*,errW_none,errW_some]<;>rfl),zy_ HO13 BK2,zl2_ HB GE1 GE2⟩
 rw [if_neg c22] at H
 have c22b0:(a1_0==3)=false:=beq_eq_false_iff_ne.mpr c22
 by_cases c31:a1_0=4
 ·rw [if_pos c31] at H
  have c31b0:(a1_0==4)=true:=beq_iff_eq.mpr c31
  clear c31
  replace H:=Option.bind_eq_some_iff.mp H
  obtain ⟨⟨t15,t18⟩,A320,H⟩:=H
  try dsimp only at H
  have A32:=Aside0.mk A320
  clear A320
  simp only [Option.some.injEq,Prod.mk.injEq] at H
  obtain ⟨rfl,rfl⟩:=H
  go_enter Try.func58,Try.ntmps58
  go_wp2_with (first|((with_reducible refine gate_dst (N:=4) rfl ?_);refine bx_ (N:=4) (cs:=#[.int .i64 a1_0, .string a1_1, .string a1_2, .int .i64 a1_3, .int .i64 a1_4, .int .i64 a1_5]) (t:=58) ?_;intro gb1 hg w33 hbox hb;have n0_:=am_ (below_step (zl0_ HB) hb);have n1_:=am_ (hbox);have n2_:=am_ ((zg0_ HB hg:w.heap.size≤gb1));have n3_:=am_ ((zg0_ HB hg:w.heap.size≤gb1));clear HB;have HB:=n0_;have BK1:=n1_;have GE1:=n3_;clear n0_ n1_ n2_ n3_;clear hb hbox hg)|((with_reducible refine gate_dst (N:=6) rfl ?_);refine bx_ (N:=6) (cs:=#[.slice none 0 0, .int .i64 0]) (t:=67) ?_;intro gb2 hg w34 hbox hb;have n0_:=am_ (blk_below (zb_ BK1) hb);have n1_:=am_ (below_step (zl1_ HB GE1) hb);have n2_:=am_ (hbox);have n3_:=am_ ((zg1_ HB GE1 hg:w.heap.size≤gb2));have n4_:=am_ ((zg1_ HB GE1 hg:w.heap.size≤gb2));have n5_:=am_ ((zn_ BK1 hg:gb1≠gb2));have n6_:=am_ ((zm_ BK1 hg:gb2≠gb1));clear BK1;clear HB;have BK1:=n0_;have HB:=n1_;have BK2:=n2_;have GE2:=n4_;clear n0_ n1_ n2_ n3_ n4_ n5_ n6_;clear hb hbox hg;obtain ⟨hcz36_0,hcz36_1⟩:=x2_ BK1)|((with_reducible refine gate_callee (f:=93) rfl ?_);refine gl_ (some 43) Try.func93 #[.slice A0 l0.length c0, .string a1_1, .int .i64 a2] ?_;(with_reducible refine (r10_Delete.calls k _ _ l0 a1_1 a2 t15 t18 _ ?side1 ?side2 A32.out).mono ?_);(case side1=>exact zc_ (Kd.C_below HR0.out HB.out));(case side2=>exact HC0.out);rintro e w37 ⟨v16,rfl,ho0,hb⟩;refine ⟨_,rfl, ?_⟩;have HO17:=am_ (Kd.R_lower ho0 (below_size (zl2_ HB GE1 GE2)));replace BK1:=am_ (blk_below (zb_ BK1) hb);replace BK2:=am_ (blk_below (zb_ BK2) hb);replace HB:=am_ (below_step (zl2_ HB GE1 GE2) hb);(try clear hb);(try clear hb2);(try clear hk);(try clear hi);(try clear ho0);obtain ⟨Ao38,co38,eo38⟩:=Kd.R_slice HO17.out;subst eo38;obtain ⟨hcz39_0,hcz39_1⟩:=x2_ BK2;have hfz39_0:=blk_frozen BK2.out 0;have hfz39_1:=blk_frozen BK2.out 1))
  refine bodyPost_ret (results_cell_row rfl _ _ gb2 67 #[.slice Ao38 t15.length co38, .int .i64 t18] (0,0) _ rfl (zw_ BK2) Try.underlying67 rfl (by kernel_rfl)) rfl ?_
  exact ⟨_,by first|rfl|(simp [errW_none,errW_some]<;>rfl)|(simp [*,errW_none,errW_some]<;>rfl),zy_ HO17 BK2,zl2_ HB GE1 GE2⟩
 rw [if_neg c31] at H
 have c31b0:(a1_0==4)=false:=beq_eq_false_iff_ne.mpr c31
 replace H:=Option.bind_eq_some_iff.mp H
 obtain ⟨⟨t19,t22⟩,A400,H⟩:=H
 try dsimp only at H
 have A40:=Aside0.mk A400
 clear A400
 simp only [Option.some.injEq,Prod.mk.injEq] at H
 obtain ⟨rfl,rfl⟩:=H
 go_enter Try.func58,Try.ntmps58
 go_wp2_with (first|((with_reducible refine gate_dst (N:=4) rfl ?_);refine bx_ (N:=4) (cs:=#[.int .i64 a1_0, .string a1_1, .string a1_2, .int .i64 a1_3, .int .i64 a1_4, .int .i64 a1_5]) (t:=58) ?_;intro gb1 hg w41 hbox hb;have n0_:=am_ (below_step (zl0_ HB) hb);have n1_:=am_ (hbox);have n2_:=am_ ((zg0_ HB hg:w.heap.size≤gb1));have n3_:=am_ ((zg0_ HB hg:w.heap.size≤gb1));clear HB;have HB:=n0_;have BK1:=n1_;have GE1:=n3_;clear n0_ n1_ n2_ n3_;clear hb hbox hg)|((with_reducible refine gate_dst (N:=6) rfl ?_);refine bx_ (N:=6) (cs:=#[.slice none 0 0, .int .i64 0]) (t:=67) ?_;intro gb2 hg w42 hbox hb;have n0_:=am_ (blk_below (zb_ BK1) hb);have n1_:=am_ (below_step (zl1_ HB GE1) hb);have n2_:=am_ (hbox);have n3_:=am_ ((zg1_ HB GE1 hg:w.heap.size≤gb2));have n4_:=am_ ((zg1_ HB GE1 hg:w.heap.size≤gb2));have n5_:=am_ ((zn_ BK1 hg:gb1≠gb2));have n6_:=am_ ((zm_ BK1 hg:gb2≠gb1));clear BK1;clear HB;have BK1:=n0_;have HB:=n1_;have BK2:=n2_;have GE2:=n4_;clear n0_ n1_ n2_ n3_ n4_ n5_ n6_;clear hb hbox hg;have hcz44_0:=zz_ BK1 0)|((with_reducible refine gate_callee (f:=113) rfl ?_);refine gl_ (some 44) Try.func113 #[.int .i64 1] ?_;(with_reducible refine (r10_no.calls 1 t19 t22 _ A40.out).mono ?_);rintro e w45 ⟨v20,rfl,ho0,hb⟩;refine ⟨_,rfl, ?_⟩;have HO21:=am_ (Kd.R_lower ho0 (below_size (zl2_ HB GE1 GE2)));replace BK1:=am_ (blk_below (zb_ BK1) hb);replace BK2:=am_ (blk_below (zb_ BK2) hb);replace HB:=am_ (below_step (zl2_ HB GE1 GE2) hb);(try clear hb);(try clear hb2);(try clear hk);(try clear hi);(try clear ho0);obtain ⟨Ao46,co46,eo46⟩:=Kd.R_slice HO21.out;subst eo46;obtain ⟨hcz47_0,hcz47_1⟩:=x2_ BK2;have hfz47_0:=blk_frozen BK2.out 0;have hfz47_1:=blk_frozen BK2.out 1))
 refine bodyPost_ret (results_cell_row rfl _ _ gb2 67 #[.slice Ao46 t19.length co46, .int .i64 t22] (0,0) _ rfl (zw_ BK2) Try.underlying67 rfl (by kernel_rfl)) rfl ?_
 exact ⟨_,by first|rfl|(simp [errW_none,errW_some]<;>rfl)|(simp [*,errW_none,errW_some]<;>rfl),zy_ HO21 BK2,zl2_ HB GE1 GE2⟩

def law15_Step.j0:Nat→Int→Int→Bool→Int→ByteArray→ByteArray→Int→Int→Int→Option (Int×ByteArray×ByteArray×Int×Int×Int)
 |0,_,_,_,_,_,_,_,_,_=>none
 |k+1,x0,x2,x26,x6000,x6001,x6002,x6003,x6004,x6005=>if x26=true then ((some (([(97+(Int.tmod x2 25)) % 256]:List Int):List Int)).bind fun y6=>(if (Int.tmod x2 5)=0 then (if x6000≤2 then (some (x6000,x6001,(⟨#[]⟩:ByteArray),wrap64 ((wrap64 (Int.tdiv (wrap64 (x0)) 4))*3),wrap64 ((wrap64 (Int.tdiv (wrap64 (x0)) 4))*3),wrap64 ((wrap64 (Int.tdiv (wrap64 (x0)) 4))*3))) else (some (x6000,x6001,(⟨#[]⟩:ByteArray),x6003,x6004,x6005))) else (if x6000≤2 then (some (x6000,x6001,strOfNums y6,wrap64 ((wrap64 (Int.tdiv (wrap64 (x0)) 4))*3),wrap64 ((wrap64 (Int.tdiv (wrap64 (x0)) 4))*3),wrap64 ((wrap64 (Int.tdiv (wrap64 (x0)) 4))*3))) else (some (x6000,x6001,strOfNums y6,x6003,x6004,x6005))))) else (if x6000≤2 then (some (x6000,x6001,x6002,wrap64 ((wrap64 (Int.tdiv (wrap64 (x0)) 4))*3),wrap64 ((wrap64 (Int.tdiv (wrap64 (x0)) 4))*3),wrap64 ((wrap64 (Int.tdiv (wrap64 (x0)) 4))*3))) else (some (x6000,x6001,x6002,x6003,x6004,x6005)))
def law15_Step.f (k:Nat) (a0:Int) (a1:Int) (a2:Int):Option (Int×ByteArray×ByteArray×Int×Int×Int):=(some (([(97+(Int.tmod a1 25)) % 256]:List Int):List Int)).bind fun y2=>(if (wrap64 (1+(Int.tmod (wrap64 (a0)) 4)))=1 then (law15_Step.j0 k a0 a2 true (wrap64 (1+(Int.tmod (wrap64 (a0)) 4))) (strOfNums y2) (⟨#[]⟩:ByteArray) 0 0 0) else (law15_Step.j0 k a0 a2 ((wrap64 (1+(Int.tmod (wrap64 (a0)) 4)))==3) (wrap64 (1+(Int.tmod (wrap64 (a0)) 4))) (strOfNums y2) (⟨#[]⟩:ByteArray) 0 0 0))
theorem law15_Step.mono_l: ∀k,(∀y0 y1 y2 y3 y4 y5 y6 y7 y8,LeO (law15_Step.j0 k y0 y1 y2 y3 y4 y5 y6 y7 y8) (law15_Step.j0 (k+1) y0 y1 y2 y3 y4 y5 y6 y7 y8))
 |0=>fun _ _ _ _ _ _ _ _ _ r h=>by simp [law15_Step.j0] at h
 |k+1=>by
  have ih0:=law15_Step.mono_l k
  intro y0 y1 y2 y3 y4 y5 y6 y7 y8
  unfold law15_Step.j0
  repeat' first
  |(with_reducible exact ih0 _ _ _ _ _ _ _ _ _)
  |(with_reducible exact LeO.refl _)
  |(with_reducible exact LeO.none _)
  |(with_reducible refine LeO.ite ?_ ?_)
  |(with_reducible refine LeO.bind ?_ (fun _=> ?_))
  |exact ih0 _ _ _ _ _ _ _ _ _
  |exact LeO.none _
  |refine LeO.ite ?_ ?_
  |refine LeO.bind ?_ (fun _=> ?_)
theorem law15_Step.mono: ∀a0 a1 a2 k,LeO (law15_Step.f k a0 a1 a2) (law15_Step.f (k+1) a0 a1 a2):=by
 intro a0 a1 a2 k
 have ih0:=law15_Step.mono_l k
 unfold law15_Step.f
 repeat' first
  |(with_reducible exact ih0 _ _ _ _ _ _ _ _ _)
  |(with_reducible exact LeO.refl _)
  |(with_reducible exact LeO.none _)
  |(with_reducible refine LeO.ite ?_ ?_)
  |(with_reducible refine LeO.bind ?_ (fun _=> ?_))
  |exact ih0 _ _ _ _ _ _ _ _ _
  |exact LeO.none _
  |refine LeO.ite ?_ ?_
  |refine LeO.bind ?_ (fun _=> ?_)
set_option maxHeartbeats 8000000 in
set_option maxRecDepth 100000 in
theorem law15_Step.calls (k:Nat) (a0:Int) (a1:Int) (a2:Int) (r1:Int) (r2:ByteArray) (r3:ByteArray) (r4:Int) (r5:Int) (r6:Int) (w:World) (h:law15_Step.f k a0 a1 a2=some (r1,r2,r3,r4,r5,r6)):
  Calls Try.prog 57 #[.int .u8 a0, .int .u8 a1, .int .u8 a2] w fun e w'=>e= .returned (.agg #[.int .i64 r1, .string r2, .string r3, .int .i64 r4, .int .i64 r5, .int .i64 r6])∧Below w.heap.size w w':=by
 have HB:=am_ (Below.refl w.heap.size w)
 have H:((some (([(97+(Int.tmod a1 25)) % 256]:List Int):List Int)).bind fun y2=>(if (wrap64 (1+(Int.tmod (wrap64 (a0)) 4)))=1 then (law15_Step.j0 k a0 a2 true (wrap64 (1+(Int.tmod (wrap64 (a0)) 4))) (strOfNums y2) (⟨#[]⟩:ByteArray) 0 0 0) else (law15_Step.j0 k a0 a2 ((wrap64 (1+(Int.tmod (wrap64 (a0)) 4)))==3) (wrap64 (1+(Int.tmod (wrap64 (a0)) 4))) (strOfNums y2) (⟨#[]⟩:ByteArray) 0 0 0)))=some (r1,r2,r3,r4,r5,r6):=h
 clear h
 obtain ⟨y2,hy2⟩: ∃y_:List Int,y_=(([(97+(Int.tmod a1 25)) % 256]:List Int)):=⟨_,rfl⟩
 replace H:(if (wrap64 (1+(Int.tmod (wrap64 (a0)) 4)))=1 then (law15_Step.j0 k a0 a2 true (wrap64 (1+(Int.tmod (wrap64 (a0)) 4))) (strOfNums y2) (⟨#[]⟩:ByteArray) 0 0 0) else (law15_Step.j0 k a0 a2 ((wrap64 (1+(Int.tmod (wrap64 (a0)) 4)))==3) (wrap64 (1+(Int.tmod (wrap64 (a0)) 4))) (strOfNums y2) (⟨#[]⟩:ByteArray) 0 0 0))=some (r1,r2,r3,r4,r5,r6):=by first|(rw [hy2];with_reducible exact H)|(have H2_:=(Option.bind_some _ _).symm.trans H;rw [hy2];with_reducible exact H2_)|(have H2_:=(Option.bind_some _ _).symm.trans H;with_reducible exact H2_)|with_reducible exact H|(rw [hy2];exact H)|exact H
 have Ny2:=Aside0.mk hy2
 clear hy2
 have HC4:=Aside0.mk H
 clear H
 go_enter Try.func57,Try.ntmps57
 go_upto_region 2 with (first|((with_reducible refine gate_dst (N:=6) rfl ?_);refine bx_ (N:=6) (cs:=#[.int .i64 0, .string (⟨#[]⟩:ByteArray), .string (⟨#[]⟩:ByteArray), .int .i64 0, .int .i64 0, .int .i64 0]) (t:=58) ?_;intro gb1 hg w5 hbox hb;have n0_:=am_ (below_step (zl0_ HB) hb);have n1_:=am_ (hbox);have n2_:=am_ ((zg0_ HB hg:w.heap.size≤gb1));have n3_:=am_ ((zg0_ HB hg:w.heap.size≤gb1));clear HB;have HB:=n0_;have BK1:=n1_;have GE1:=n3_;clear n0_ n1_ n2_ n3_;clear hb hbox hg)|((with_reducible refine gate_dst (N:=16) rfl ?_);refine Kd.R_lit (Kd.int .u8) _ 5 ?hg (N:=16) ?hd (xs:=([(97+(Int.tmod a1 25)) % 256]:List Int)) (inner:=[.int .u8 ((97+(Int.tmod a1 25)) % 256)]) (ok:=fun _=>True) (okp:=fun _=>True) ?hr ?hp (fun _ hk=>hk) trivial (Below.refl _ _) (Nat.le_refl _) (by simp) ?_;(case hd=>rfl);(case hg=>rfl);(case hr=>first|(go_simp;done)|(go_simp;rfl));(case hp=>exact (Reps.one (show Kd.M (Kd.int .u8) _ _ _ ((97+(Int.tmod a1 25)) % 256) [.int .u8 ((97+(Int.tmod a1 25)) % 256)] from rfl) (Reps.none _ _)));intro v3 w6 ho7 hb hg_ hnew_;clear hg_ hnew_;(first|rw [←Ny2.out] at ho7|(simp only [Int.reduceToNat] at ho7;rw [←Ny2.out] at ho7));have HO4:=am_ (Kd.R_lower ho7 (below_size (zl1_ HB GE1)));replace BK1:=am_ (blk_below (g:=gb1) (o:= .cells #[.int .i64 0, .string (⟨#[]⟩:ByteArray), .string (⟨#[]⟩:ByteArray), .int .i64 0, .int .i64 0, .int .i64 0] 58 (0,0)) (zb_ BK1) hb);replace HB:=am_ (below_step (zl1_ HB GE1) hb);clear hb ho7;have hcv8:=own_string (P:=Try.prog) Try.underlying22 Try.underlying5 Try.underlying9 (Kd.own_of_R HO4.out))|((with_reducible refine gate_dst (N:=7) rfl ?_);refine bx_ (N:=7) (cs:=#[.int .i64 0, .string (⟨#[]⟩:ByteArray), .string (⟨#[]⟩:ByteArray), .int .i64 0, .int .i64 0, .int .i64 0]) (t:=58) ?_;intro gb5 hg w9 hbox hb;have n0_:=am_ (Kd.R_below (zr_ HO4) hb);have n1_:=am_ (blk_below (g:=gb1) (o:= .cells #[.int .i64 0, .string (⟨#[]⟩:ByteArray), .string (⟨#[]⟩:ByteArray), .int .i64 0, .int .i64 0, .int .i64 0] 58 (0,0)) (zb_ BK1) hb);have n2_:=am_ (below_step (zl1_ HB GE1) hb);have n3_:=am_ (hbox);have n5_:=am_ ((zg1_ HB GE1 hg:w.heap.size≤gb5));have n6_:=am_ ((by rw [hg];exact Nat.ne_of_lt (blk_lt (g:=gb1) (o:= .cells #[.int .i64 0, .string (⟨#[]⟩:ByteArray), .string (⟨#[]⟩:ByteArray), .int .i64 0, .int .i64 0, .int .i64 0] 58 (0,0)) (zb_ BK1)):gb1≠gb5));have n7_:=am_ ((by rw [hg];exact Nat.ne_of_gt (blk_lt (g:=gb1) (o:= .cells #[.int .i64 0, .string (⟨#[]⟩:ByteArray), .string (⟨#[]⟩:ByteArray), .int .i64 0, .int .i64 0, .int .i64 0] 58 (0,0)) (zb_ BK1)):gb5≠gb1));clear HO4;clear BK1;clear HB;have HO4:=n0_;have BK1:=n1_;have HB:=n2_;have BK5:=n3_;have GE5:=n5_;have NB1_5:=n6_;clear n0_ n1_ n2_ n3_ n5_ n6_ n7_;clear hb hbox hg;obtain ⟨hcz11_0,hcz11_1,hcz11_2,hcz11_3,hcz11_4,hcz11_5⟩:=x6_ BK5;have hfz11_0:=blk_frozen BK5.out 0;have hfz11_1:=blk_frozen BK5.out 1;have hfz11_2:=blk_frozen BK5.out 2;have hfz11_3:=blk_frozen BK5.out 3;have hfz11_4:=blk_frozen BK5.out 4;have hfz11_5:=blk_frozen BK5.out 5))
 (try simp only [Act.put,List.setIfInBounds_toArray,List.set_cons_zero,List.set_cons_succ])
 go_cut [26] (fun v26 wc=> ∃(kq:Nat) (x26_3:Bool),v26= .bool x26_3∧Aside0 (law15_Step.j0 kq a0 a2 x26_3 (wrap64 (1+(Int.tmod (wrap64 (a0)) 4))) (strOfNums y2) (⟨#[]⟩:ByteArray) 0 0 0=some (r1,r2,r3,r4,r5,r6))∧Aside0 (kq≤k)∧Aside0 (wc.heap[gb1]?=some (.cells #[.int .i64 0, .string (⟨#[]⟩:ByteArray), .string (⟨#[]⟩:ByteArray), .int .i64 0, .int .i64 0, .int .i64 0] 58 (0,0)))∧Aside0 (wc.heap[gb5]?=some (.cells #[.int .i64 (wrap64 (1+(Int.tmod (wrap64 (a0)) 4))), .string (strOfNums y2), .string (⟨#[]⟩:ByteArray), .int .i64 0, .int .i64 0, .int .i64 0] 58 (0,0)))∧Aside0 (Below w.heap.size w wc))
 case first=>
  have H:=HC4.out
  clear HC4
  by_cases c12:(wrap64 (1+(Int.tmod (wrap64 (a0)) 4)))=1
  ·rw [if_pos c12] at H
   have c12b0:((wrap64 (1+(Int.tmod (wrap64 (a0)) 4)))==1)=true:=beq_iff_eq.mpr c12
   clear c12
   (first|rw [c12b0]|(simp only [i64_w,i32_w];rw [c12b0])|skip)
   have H':=Aside0.mk H
   clear H
   go_wp2
   go_meet
   case rel=>exact ⟨_,(true),(by first|rfl|(simp;done)|(simp [*];done)),H',⟨by first|omega|exact Nat.le_refl _⟩,⟨zw_ BK1⟩,⟨zw_ BK5⟩,⟨zl2_ HB GE1 GE5⟩⟩
  rw [if_neg c12] at H
  have c12b0:((wrap64 (1+(Int.tmod (wrap64 (a0)) 4)))==1)=false:=beq_eq_false_iff_ne.mpr c12
  (first|rw [c12b0]|(simp only [i64_w,i32_w];rw [c12b0])|skip)
  have H':=Aside0.mk H
  clear H
  go_wp2
  go_meet
  case rel=>exact ⟨_,(((wrap64 (1+(Int.tmod (wrap64 (a0)) 4)))==3)),(by first|rfl|(simp;done)|(simp [*];done)),H',⟨by first|omega|exact Nat.le_refl _⟩,⟨zw_ BK1⟩,⟨zw_ BK5⟩,⟨zl2_ HB GE1 GE5⟩⟩
 case rest=>
  clear HC4
  try clear c1
  try clear p2
  try clear c5
  try clear p6
  try clear hcv8
  try clear c10
  try clear c12
  try clear c12b0
  try clear c13
  try clear c15
  try clear hcz11_0
  try clear hcz11_1
  try clear hcz11_2
  try clear hcz11_3
  try clear hcz11_4
  try clear hcz11_5
  try clear hfz11_0
  try clear hfz11_1
  try clear hfz11_2
  try clear hfz11_3
  try clear hfz11_4
  try clear hfz11_5
  obtain ⟨kq,x26_3,rfl,HA,HJ3,BK1,BK5,HB⟩:=hcut
  cases kq with
  |zero=>exact absurd HA.out (by simp [law15_Step.j0])
  |succ kj3=>
   have H:=HA.out
   clear HA
   simp only [law15_Step.j0] at H
   by_cases c17:x26_3=true
   rotate_left
   ·replace c17:=Bool.eq_false_iff.mpr c17
    subst c17
    have H1:(if (wrap64 (1+(Int.tmod (wrap64 (a0)) 4)))≤2 then (some ((wrap64 (1+(Int.tmod (wrap64 (a0)) 4))),(strOfNums y2),(⟨#[]⟩:ByteArray),wrap64 ((wrap64 (Int.tdiv (wrap64 (a0)) 4))*3),wrap64 ((wrap64 (Int.tdiv (wrap64 (a0)) 4))*3),wrap64 ((wrap64 (Int.tdiv (wrap64 (a0)) 4))*3))) else (some ((wrap64 (1+(Int.tmod (wrap64 (a0)) 4))),(strOfNums y2),(⟨#[]⟩:ByteArray),0,0,0)))=some (r1,r2,r3,r4,r5,r6):=by rw [if_neg (show¬(false=true) by decide)] at H;exact H
    clear H
    have H:=H1
    clear H1
    by_cases c45:(wrap64 (1+(Int.tmod (wrap64 (a0)) 4)))≤2
    rotate_left
    ·rw [if_neg c45] at H
     have c45b0:decide ((wrap64 (1+(Int.tmod (wrap64 (a0)) 4)))≤2)=false:=decide_eq_false c45
     clear c45
     simp only [Option.some.injEq,Prod.mk.injEq] at H
     obtain ⟨rfl,rfl,rfl,rfl,rfl,rfl⟩:=H
     obtain ⟨hcz50_0,hcz50_1,hcz50_2,hcz50_3,hcz50_4,hcz50_5⟩:=x6_ BK5
     obtain ⟨hcz51_0,hcz51_1,hcz51_2,hcz51_3,hcz51_4,hcz51_5,hfz51_0,hfz51_1,hfz51_2,hfz51_3,hfz51_4,hfz51_5⟩:=y6_ BK1
     go_wp2
     refine bodyPost_ret (results_cell_row rfl _ _ gb1 58 #[.int .i64 (wrap64 (1+(Int.tmod (wrap64 (a0)) 4))), .string (strOfNums y2), .string (⟨#[]⟩:ByteArray), .int .i64 0, .int .i64 0, .int .i64 0] (0,0) _ rfl (zw_ BK1) Try.underlying58 rfl (by kernel_rfl)) rfl ?_
     exact ⟨by first|rfl|(simp [errW_none,errW_some]<;>rfl)|(simp [*,errW_none,errW_some]<;>rfl),zl2_ HB GE1 GE5⟩

    rw [if_pos c45] at H
    have c45b0:decide ((wrap64 (1+(Int.tmod (wrap64 (a0)) 4)))≤2)=true:=decide_eq_true c45
    clear c45
    simp only [Option.some.injEq,Prod.mk.injEq] at H
    obtain ⟨rfl,rfl,rfl,rfl,rfl,rfl⟩:=H
    have hnc46:=NB1_5.out
    obtain ⟨hcz47_0,hcz47_1,hcz47_2,hcz47_3,hcz47_4,hcz47_5⟩:=x6_ BK5
    have hfz47_3:=blk_frozen BK5.out 3
    have hfz47_4:=blk_frozen BK5.out 4
    have hfz47_5:=blk_frozen BK5.out 5
    obtain ⟨hcz48_0,hcz48_1,hcz48_2,hcz48_3,hcz48_4,hcz48_5,hfz48_0,hfz48_1,hfz48_2,hfz48_3,hfz48_4,hfz48_5⟩:=y6_ BK1
    go_wp2
    refine bodyPost_ret (results_cell_row rfl _ _ gb1 58 #[.int .i64 (wrap64 (1+(Int.tmod (wrap64 (a0)) 4))), .string (strOfNums y2), .string (⟨#[]⟩:ByteArray), .int .i64 (wrap64 ((wrap64 (Int.tdiv (wrap64 (a0)) 4))*3)), .int .i64 (wrap64 ((wrap64 (Int.tdiv (wrap64 (a0)) 4))*3)), .int .i64 (wrap64 ((wrap64 (Int.tdiv (wrap64 (a0)) 4))*3))] (0,0) _ rfl (zw_ BK1) Try.underlying58 rfl (by kernel_rfl)) rfl ?_
    exact ⟨by first|rfl|(simp [errW_none,errW_some]<;>rfl)|(simp [*,errW_none,errW_some]<;>rfl),zl2_ HB GE1 GE5⟩
   subst c17
   have H1:((some (([(97+(Int.tmod a2 25)) % 256]:List Int):List Int)).bind fun y6=>(if (Int.tmod a2 5)=0 then (if (wrap64 (1+(Int.tmod (wrap64 (a0)) 4)))≤2 then (some ((wrap64 (1+(Int.tmod (wrap64 (a0)) 4))),(strOfNums y2),(⟨#[]⟩:ByteArray),wrap64 ((wrap64 (Int.tdiv (wrap64 (a0)) 4))*3),wrap64 ((wrap64 (Int.tdiv (wrap64 (a0)) 4))*3),wrap64 ((wrap64 (Int.tdiv (wrap64 (a0)) 4))*3))) else (some ((wrap64 (1+(Int.tmod (wrap64 (a0)) 4))),(strOfNums y2),(⟨#[]⟩:ByteArray),0,0,0))) else (if (wrap64 (1+(Int.tmod (wrap64 (a0)) 4)))≤2 then (some ((wrap64 (1+(Int.tmod (wrap64 (a0)) 4))),(strOfNums y2),strOfNums y6,wrap64 ((wrap64 (Int.tdiv (wrap64 (a0)) 4))*3),wrap64 ((wrap64 (Int.tdiv (wrap64 (a0)) 4))*3),wrap64 ((wrap64 (Int.tdiv (wrap64 (a0)) 4))*3))) else (some ((wrap64 (1+(Int.tmod (wrap64 (a0)) 4))),(strOfNums y2),strOfNums y6,0,0,0)))))=some (r1,r2,r3,r4,r5,r6):=by rw [if_pos rfl] at H;exact H
   clear H
   have H:=H1
   clear H1
   obtain ⟨y6,hy6⟩: ∃y_:List Int,y_=(([(97+(Int.tmod a2 25)) % 256]:List Int)):=⟨_,rfl⟩
   replace H:(if (Int.tmod a2 5)=0 then (if (wrap64 (1+(Int.tmod (wrap64 (a0)) 4)))≤2 then (some ((wrap64 (1+(Int.tmod (wrap64 (a0)) 4))),(strOfNums y2),(⟨#[]⟩:ByteArray),wrap64 ((wrap64 (Int.tdiv (wrap64 (a0)) 4))*3),wrap64 ((wrap64 (Int.tdiv (wrap64 (a0)) 4))*3),wrap64 ((wrap64 (Int.tdiv (wrap64 (a0)) 4))*3))) else (some ((wrap64 (1+(Int.tmod (wrap64 (a0)) 4))),(strOfNums y2),(⟨#[]⟩:ByteArray),0,0,0))) else (if (wrap64 (1+(Int.tmod (wrap64 (a0)) 4)))≤2 then (some ((wrap64 (1+(Int.tmod (wrap64 (a0)) 4))),(strOfNums y2),strOfNums y6,wrap64 ((wrap64 (Int.tdiv (wrap64 (a0)) 4))*3),wrap64 ((wrap64 (Int.tdiv (wrap64 (a0)) 4))*3),wrap64 ((wrap64 (Int.tdiv (wrap64 (a0)) 4))*3))) else (some ((wrap64 (1+(Int.tmod (wrap64 (a0)) 4))),(strOfNums y2),strOfNums y6,0,0,0))))=some (r1,r2,r3,r4,r5,r6):=by first|(rw [hy6];with_reducible exact H)|(have H2_:=(Option.bind_some _ _).symm.trans H;rw [hy6];with_reducible exact H2_)|(have H2_:=(Option.bind_some _ _).symm.trans H;with_reducible exact H2_)|with_reducible exact H|(rw [hy6];exact H)|exact H
   have Ny6:=Aside0.mk hy6
   clear hy6
   by_cases c18:(Int.tmod a2 5)=0
   ·rw [if_pos c18] at H
    have c18b0:((Int.tmod a2 5)==0)=true:=beq_iff_eq.mpr c18
    clear c18
    by_cases c19:(wrap64 (1+(Int.tmod (wrap64 (a0)) 4)))≤2
    ·rw [if_pos c19] at H
     have c19b0:decide ((wrap64 (1+(Int.tmod (wrap64 (a0)) 4)))≤2)=true:=decide_eq_true c19
     clear c19
     simp only [Option.some.injEq,Prod.mk.injEq] at H
     obtain ⟨rfl,rfl,rfl,rfl,rfl,rfl⟩:=H
     go_wp2_with (first|((with_reducible refine gate_dst (N:=30) rfl ?_);refine Kd.R_lit (Kd.int .u8) _ 5 ?hg (N:=30) ?hd (xs:=([(97+(Int.tmod a2 25)) % 256]:List Int)) (inner:=[.int .u8 ((97+(Int.tmod a2 25)) % 256)]) (ok:=fun _=>True) (okp:=fun _=>True) ?hr ?hp (fun _ hk=>hk) trivial (Below.refl _ _) (Nat.le_refl _) (by simp) ?_;(case hd=>rfl);(case hg=>rfl);(case hr=>first|(go_simp;done)|(go_simp;rfl));(case hp=>exact (Reps.one (show Kd.M (Kd.int .u8) _ _ _ ((97+(Int.tmod a2 25)) % 256) [.int .u8 ((97+(Int.tmod a2 25)) % 256)] from rfl) (Reps.none _ _)));intro v7 w20 ho21 hb hg_ hnew_;clear hg_ hnew_;(first|rw [←Ny6.out] at ho21|(simp only [Int.reduceToNat] at ho21;rw [←Ny6.out] at ho21));have HO8:=am_ (Kd.R_lower ho21 (below_size (zl2_ HB GE1 GE5)));replace BK1:=am_ (blk_below (g:=gb1) (o:= .cells #[.int .i64 0, .string (⟨#[]⟩:ByteArray), .string (⟨#[]⟩:ByteArray), .int .i64 0, .int .i64 0, .int .i64 0] 58 (0,0)) (zb_ BK1) hb);replace BK5:=am_ (blk_below (g:=gb5) (o:= .cells #[.int .i64 (wrap64 (1+(Int.tmod (wrap64 (a0)) 4))), .string (strOfNums y2), .string (⟨#[]⟩:ByteArray), .int .i64 0, .int .i64 0, .int .i64 0] 58 (0,0)) (zb_ BK5) hb);replace HB:=am_ (below_step (zl2_ HB GE1 GE5) hb);clear hb ho21;have hcv22:=own_string (P:=Try.prog) Try.underlying22 Try.underlying5 Try.underlying9 (Kd.own_of_R HO8.out);have hnc23:=NB1_5.out;obtain ⟨hcz24_0,hcz24_1,hcz24_2,hcz24_3,hcz24_4,hcz24_5⟩:=x6_ BK5;have hfz24_2:=blk_frozen BK5.out 2;have hfz24_3:=blk_frozen BK5.out 3;have hfz24_4:=blk_frozen BK5.out 4;have hfz24_5:=blk_frozen BK5.out 5;obtain ⟨hcz25_0,hcz25_1,hcz25_2,hcz25_3,hcz25_4,hcz25_5⟩:=x6_ BK1;have hfz25_0:=blk_frozen BK1.out 0;have hfz25_1:=blk_frozen BK1.out 1;have hfz25_2:=blk_frozen BK1.out 2;have hfz25_3:=blk_frozen BK1.out 3;have hfz25_4:=blk_frozen BK1.out 4;have hfz25_5:=blk_frozen BK1.out 5))
     refine bodyPost_ret (results_cell_row rfl _ _ gb1 58 #[.int .i64 (wrap64 (1+(Int.tmod (wrap64 (a0)) 4))), .string (strOfNums y2), .string (⟨#[]⟩:ByteArray), .int .i64 (wrap64 ((wrap64 (Int.tdiv (wrap64 (a0)) 4))*3)), .int .i64 (wrap64 ((wrap64 (Int.tdiv (wrap64 (a0)) 4))*3)), .int .i64 (wrap64 ((wrap64 (Int.tdiv (wrap64 (a0)) 4))*3))] (0,0) _ rfl (zw_ BK1) Try.underlying58 rfl (by kernel_rfl)) rfl ?_
     exact ⟨by first|rfl|(simp [errW_none,errW_some]<;>rfl)|(simp [*,errW_none,errW_some]<;>rfl),zl2_ HB GE1 GE5⟩
    rw [if_neg c19] at H
    have c19b0:decide ((wrap64 (1+(Int.tmod (wrap64 (a0)) 4)))≤2)=false:=decide_eq_false c19
    clear c19
    simp only [Option.some.injEq,Prod.mk.injEq] at H
    obtain ⟨rfl,rfl,rfl,rfl,rfl,rfl⟩:=H
    go_wp2_with (first|((with_reducible refine gate_dst (N:=30) rfl ?_);refine Kd.R_lit (Kd.int .u8) _ 5 ?hg (N:=30) ?hd (xs:=([(97+(Int.tmod a2 25)) % 256]:List Int)) (inner:=[.int .u8 ((97+(Int.tmod a2 25)) % 256)]) (ok:=fun _=>True) (okp:=fun _=>True) ?hr ?hp (fun _ hk=>hk) trivial (Below.refl _ _) (Nat.le_refl _) (by simp) ?_;(case hd=>rfl);(case hg=>rfl);(case hr=>first|(go_simp;done)|(go_simp;rfl));(case hp=>exact (Reps.one (show Kd.M (Kd.int .u8) _ _ _ ((97+(Int.tmod a2 25)) % 256) [.int .u8 ((97+(Int.tmod a2 25)) % 256)] from rfl) (Reps.none _ _)));intro v7 w26 ho27 hb hg_ hnew_;clear hg_ hnew_;(first|rw [←Ny6.out] at ho27|(simp only [Int.reduceToNat] at ho27;rw [←Ny6.out] at ho27));have HO8:=am_ (Kd.R_lower ho27 (below_size (zl2_ HB GE1 GE5)));replace BK1:=am_ (blk_below (g:=gb1) (o:= .cells #[.int .i64 0, .string (⟨#[]⟩:ByteArray), .string (⟨#[]⟩:ByteArray), .int .i64 0, .int .i64 0, .int .i64 0] 58 (0,0)) (zb_ BK1) hb);replace BK5:=am_ (blk_below (g:=gb5) (o:= .cells #[.int .i64 (wrap64 (1+(Int.tmod (wrap64 (a0)) 4))), .string (strOfNums y2), .string (⟨#[]⟩:ByteArray), .int .i64 0, .int .i64 0, .int .i64 0] 58 (0,0)) (zb_ BK5) hb);replace HB:=am_ (below_step (zl2_ HB GE1 GE5) hb);clear hb ho27;have hcv28:=own_string (P:=Try.prog) Try.underlying22 Try.underlying5 Try.underlying9 (Kd.own_of_R HO8.out);have hnc29:=NB1_5.out;obtain ⟨hcz30_0,hcz30_1,hcz30_2,hcz30_3,hcz30_4,hcz30_5⟩:=x6_ BK5;have hfz30_2:=blk_frozen BK5.out 2;obtain ⟨hcz31_0,hcz31_1,hcz31_2,hcz31_3,hcz31_4,hcz31_5⟩:=x6_ BK1;have hfz31_0:=blk_frozen BK1.out 0;have hfz31_1:=blk_frozen BK1.out 1;have hfz31_2:=blk_frozen BK1.out 2;have hfz31_3:=blk_frozen BK1.out 3;have hfz31_4:=blk_frozen BK1.out 4;have hfz31_5:=blk_frozen BK1.out 5))
    refine bodyPost_ret (results_cell_row rfl _ _ gb1 58 #[.int .i64 (wrap64 (1+(Int.tmod (wrap64 (a0)) 4))), .string (strOfNums y2), .string (⟨#[]⟩:ByteArray), .int .i64 0, .int .i64 0, .int .i64 0] (0,0) _ rfl (zw_ BK1) Try.underlying58 rfl (by kernel_rfl)) rfl ?_
    exact ⟨by first|rfl|(simp [errW_none,errW_some]<;>rfl)|(simp [*,errW_none,errW_some]<;>rfl),zl2_ HB GE1 GE5⟩
   rw [if_neg c18] at H
   have c18b0:((Int.tmod a2 5)==0)=false:=beq_eq_false_iff_ne.mpr c18
   by_cases c32:(wrap64 (1+(Int.tmod (wrap64 (a0)) 4)))≤2
   ·rw [if_pos c32] at H
    have c32b0:decide ((wrap64 (1+(Int.tmod (wrap64 (a0)) 4)))≤2)=true:=decide_eq_true c32
    clear c32
    simp only [Option.some.injEq,Prod.mk.injEq] at H
    obtain ⟨rfl,rfl,rfl,rfl,rfl,rfl⟩:=H
    go_wp2_with (first|((with_reducible refine gate_dst (N:=30) rfl ?_);refine Kd.R_lit (Kd.int .u8) _ 5 ?hg (N:=30) ?hd (xs:=([(97+(Int.tmod a2 25)) % 256]:List Int)) (inner:=[.int .u8 ((97+(Int.tmod a2 25)) % 256)]) (ok:=fun _=>True) (okp:=fun _=>True) ?hr ?hp (fun _ hk=>hk) trivial (Below.refl _ _) (Nat.le_refl _) (by simp) ?_;(case hd=>rfl);(case hg=>rfl);(case hr=>first|(go_simp;done)|(go_simp;rfl));(case hp=>exact (Reps.one (show Kd.M (Kd.int .u8) _ _ _ ((97+(Int.tmod a2 25)) % 256) [.int .u8 ((97+(Int.tmod a2 25)) % 256)] from rfl) (Reps.none _ _)));intro v7 w33 ho34 hb hg_ hnew_;clear hg_ hnew_;(first|rw [←Ny6.out] at ho34|(simp only [Int.reduceToNat] at ho34;rw [←Ny6.out] at ho34));have HO8:=am_ (Kd.R_lower ho34 (below_size (zl2_ HB GE1 GE5)));replace BK1:=am_ (blk_below (g:=gb1) (o:= .cells #[.int .i64 0, .string (⟨#[]⟩:ByteArray), .string (⟨#[]⟩:ByteArray), .int .i64 0, .int .i64 0, .int .i64 0] 58 (0,0)) (zb_ BK1) hb);replace BK5:=am_ (blk_below (g:=gb5) (o:= .cells #[.int .i64 (wrap64 (1+(Int.tmod (wrap64 (a0)) 4))), .string (strOfNums y2), .string (⟨#[]⟩:ByteArray), .int .i64 0, .int .i64 0, .int .i64 0] 58 (0,0)) (zb_ BK5) hb);replace HB:=am_ (below_step (zl2_ HB GE1 GE5) hb);clear hb ho34;have hcv35:=own_string (P:=Try.prog) Try.underlying22 Try.underlying5 Try.underlying9 (Kd.own_of_R HO8.out);have hnc36:=NB1_5.out;obtain ⟨hcz37_0,hcz37_1,hcz37_2,hcz37_3,hcz37_4,hcz37_5⟩:=x6_ BK5;have hfz37_2:=blk_frozen BK5.out 2;have hfz37_3:=blk_frozen BK5.out 3;have hfz37_4:=blk_frozen BK5.out 4;have hfz37_5:=blk_frozen BK5.out 5;obtain ⟨hcz38_0,hcz38_1,hcz38_2,hcz38_3,hcz38_4,hcz38_5⟩:=x6_ BK1;have hfz38_0:=blk_frozen BK1.out 0;have hfz38_1:=blk_frozen BK1.out 1;have hfz38_2:=blk_frozen BK1.out 2;have hfz38_3:=blk_frozen BK1.out 3;have hfz38_4:=blk_frozen BK1.out 4;have hfz38_5:=blk_frozen BK1.out 5))
    refine bodyPost_ret (results_cell_row rfl _ _ gb1 58 #[.int .i64 (wrap64 (1+(Int.tmod (wrap64 (a0)) 4))), .string (strOfNums y2), .string (strOfNums y6), .int .i64 (wrap64 ((wrap64 (Int.tdiv (wrap64 (a0)) 4))*3)), .int .i64 (wrap64 ((wrap64 (Int.tdiv (wrap64 (a0)) 4))*3)), .int .i64 (wrap64 ((wrap64 (Int.tdiv (wrap64 (a0)) 4))*3))] (0,0) _ rfl (zw_ BK1) Try.underlying58 rfl (by kernel_rfl)) rfl ?_
    exact ⟨by first|rfl|(simp [errW_none,errW_some]<;>rfl)|(simp [*,errW_none,errW_some]<;>rfl),zl2_ HB GE1 GE5⟩
   rw [if_neg c32] at H
   have c32b0:decide ((wrap64 (1+(Int.tmod (wrap64 (a0)) 4)))≤2)=false:=decide_eq_false c32
   clear c32
   simp only [Option.some.injEq,Prod.mk.injEq] at H
   obtain ⟨rfl,rfl,rfl,rfl,rfl,rfl⟩:=H
   go_wp2_with (first|((with_reducible refine gate_dst (N:=30) rfl ?_);refine Kd.R_lit (Kd.int .u8) _ 5 ?hg (N:=30) ?hd (xs:=([(97+(Int.tmod a2 25)) % 256]:List Int)) (inner:=[.int .u8 ((97+(Int.tmod a2 25)) % 256)]) (ok:=fun _=>True) (okp:=fun _=>True) ?hr ?hp (fun _ hk=>hk) trivial (Below.refl _ _) (Nat.le_refl _) (by simp) ?_;(case hd=>rfl);(case hg=>rfl);(case hr=>first|(go_simp;done)|(go_simp;rfl));(case hp=>exact (Reps.one (show Kd.M (Kd.int .u8) _ _ _ ((97+(Int.tmod a2 25)) % 256) [.int .u8 ((97+(Int.tmod a2 25)) % 256)] from rfl) (Reps.none _ _)));intro v7 w39 ho40 hb hg_ hnew_;clear hg_ hnew_;(first|rw [←Ny6.out] at ho40|(simp only [Int.reduceToNat] at ho40;rw [←Ny6.out] at ho40));have HO8:=am_ (Kd.R_lower ho40 (below_size (zl2_ HB GE1 GE5)));replace BK1:=am_ (blk_below (g:=gb1) (o:= .cells #[.int .i64 0, .string (⟨#[]⟩:ByteArray), .string (⟨#[]⟩:ByteArray), .int .i64 0, .int .i64 0, .int .i64 0] 58 (0,0)) (zb_ BK1) hb);replace BK5:=am_ (blk_below (g:=gb5) (o:= .cells #[.int .i64 (wrap64 (1+(Int.tmod (wrap64 (a0)) 4))), .string (strOfNums y2), .string (⟨#[]⟩:ByteArray), .int .i64 0, .int .i64 0, .int .i64 0] 58 (0,0)) (zb_ BK5) hb);replace HB:=am_ (below_step (zl2_ HB GE1 GE5) hb);clear hb ho40;have hcv41:=own_string (P:=Try.prog) Try.underlying22 Try.underlying5 Try.underlying9 (Kd.own_of_R HO8.out);have hnc42:=NB1_5.out;obtain ⟨hcz43_0,hcz43_1,hcz43_2,hcz43_3,hcz43_4,hcz43_5⟩:=x6_ BK5;have hfz43_2:=blk_frozen BK5.out 2;obtain ⟨hcz44_0,hcz44_1,hcz44_2,hcz44_3,hcz44_4,hcz44_5⟩:=x6_ BK1;have hfz44_0:=blk_frozen BK1.out 0;have hfz44_1:=blk_frozen BK1.out 1;have hfz44_2:=blk_frozen BK1.out 2;have hfz44_3:=blk_frozen BK1.out 3;have hfz44_4:=blk_frozen BK1.out 4;have hfz44_5:=blk_frozen BK1.out 5))
   refine bodyPost_ret (results_cell_row rfl _ _ gb1 58 #[.int .i64 (wrap64 (1+(Int.tmod (wrap64 (a0)) 4))), .string (strOfNums y2), .string (strOfNums y6), .int .i64 0, .int .i64 0, .int .i64 0] (0,0) _ rfl (zw_ BK1) Try.underlying58 rfl (by kernel_rfl)) rfl ?_
   exact ⟨by first|rfl|(simp [errW_none,errW_some]<;>rfl)|(simp [*,errW_none,errW_some]<;>rfl),zl2_ HB GE1 GE5⟩
def law20_awake.f:Option (Bool):=(effect_Holds.f ([]:List (S31)) 4 (⟨#[97]⟩:ByteArray) (⟨#[]⟩:ByteArray) 0 0 0).bind fun t4=>(if t4=true then ((effect_Marks.f ([]:List (S54)) (([(⟨(⟨#[97]⟩:ByteArray),(⟨#[]⟩:ByteArray),(⟨0,0,0⟩:S27),(⟨0,0,0⟩:S27),(⟨0,0,0⟩:S27),1⟩:S31)]:List (S31))) 3 (⟨#[97]⟩:ByteArray) (⟨#[]⟩:ByteArray) 0 0 0).bind fun t5=>(some ((t5.length:Int)==1))) else (some false))
set_option maxHeartbeats 8000000 in
set_option maxRecDepth 100000 in
theorem law20_awake.calls (r:Bool) (w:World) (h:law20_awake.f=some r):
  Calls Try.prog 51 #[] w fun e w'=>e= .returned (.bool r)∧Below w.heap.size w w':=by
 have hu31:=Try.underlying31
 have hu58:=Try.underlying58
 have HB:=am_ (Below.refl w.heap.size w)
 have H:((effect_Holds.f ([]:List (S31)) 4 (⟨#[97]⟩:ByteArray) (⟨#[]⟩:ByteArray) 0 0 0).bind fun t4=>(if t4=true then ((effect_Marks.f ([]:List (S54)) (([(⟨(⟨#[97]⟩:ByteArray),(⟨#[]⟩:ByteArray),(⟨0,0,0⟩:S27),(⟨0,0,0⟩:S27),(⟨0,0,0⟩:S27),1⟩:S31)]:List (S31))) 3 (⟨#[97]⟩:ByteArray) (⟨#[]⟩:ByteArray) 0 0 0).bind fun t5=>(some ((t5.length:Int)==1))) else (some false)))=some r:=h
 clear h
 obtain ⟨y1,hy1⟩: ∃y_:List (S31),y_=(([(⟨(⟨#[97]⟩:ByteArray),(⟨#[]⟩:ByteArray),(⟨0,0,0⟩:S27),(⟨0,0,0⟩:S27),(⟨0,0,0⟩:S27),1⟩:S31)]:List (S31))):=⟨_,rfl⟩
 replace H:((effect_Holds.f ([]:List (S31)) 4 (⟨#[97]⟩:ByteArray) (⟨#[]⟩:ByteArray) 0 0 0).bind fun t4=>(if t4=true then ((effect_Marks.f ([]:List (S54)) y1 3 (⟨#[97]⟩:ByteArray) (⟨#[]⟩:ByteArray) 0 0 0).bind fun t5=>(some ((t5.length:Int)==1))) else (some false)))=some r:=by first|(rw [hy1];with_reducible exact H)|(have H2_:=(Option.bind_some _ _).symm.trans H;rw [hy1];with_reducible exact H2_)|(have H2_:=(Option.bind_some _ _).symm.trans H;with_reducible exact H2_)|with_reducible exact H|(rw [hy1];exact H)|exact H
 have Ny1:=Aside0.mk hy1
 clear hy1
 replace H:=Option.bind_eq_some_iff.mp H
 obtain ⟨t4,A10,H⟩:=H
 try dsimp only at H
 have A1:=Aside0.mk A10
 clear A10
 by_cases c2:t4=true
 rotate_left
 ·replace c2:=Bool.eq_false_iff.mpr c2
  subst c2
  have H1:(some false)=some r:=by rw [if_neg (show¬(false=true) by decide)] at H;exact H
  clear H
  have H:=H1
  clear H1
  obtain rfl:=Option.some.inj H
  go_enter Try.func51,Try.ntmps51
  go_wp2_with (first|((with_reducible refine gate_dst (N:=3) rfl ?_);(try (refine gate_guard (by rfl) ?_;dsimp only));refine Kd.R_lit k31 _ 31 ?hg (N:=3) ?hd (xs:=([(⟨(⟨#[97]⟩:ByteArray),(⟨#[]⟩:ByteArray),(⟨0,0,0⟩:S27),(⟨0,0,0⟩:S27),(⟨0,0,0⟩:S27),1⟩:S31)]:List (S31))) (inner:=[.string (⟨#[97]⟩:ByteArray), .string (⟨#[]⟩:ByteArray), .int .i64 0, .int .i64 0, .int .i64 0, .int .i64 0, .int .i64 0, .int .i64 0, .int .i64 0, .int .i64 0, .int .i64 0, .int .i64 1]) (ok:=fun _=>True) (okp:=fun _=>True) ?hr ?hp (fun _ hk=>hk) trivial (Below.refl _ _) (Nat.le_refl _) (by simp) ?_;(case hd=>rfl);(case hg=>rfl);(case hr=>first|(go_simp;done)|(go_simp;rfl));(case hp=>exact (Reps.front (show Kd.M k31 _ _ _ (⟨(⟨#[97]⟩:ByteArray),(⟨#[]⟩:ByteArray),(⟨0,0,0⟩:S27),(⟨0,0,0⟩:S27),(⟨0,0,0⟩:S27),1⟩:S31) [.string (⟨#[97]⟩:ByteArray), .string (⟨#[]⟩:ByteArray), .int .i64 0, .int .i64 0, .int .i64 0, .int .i64 0, .int .i64 0, .int .i64 0, .int .i64 0, .int .i64 0, .int .i64 0, .int .i64 1] from (k31_mkM _ _ _ (⟨(⟨#[97]⟩:ByteArray),(⟨#[]⟩:ByteArray),(⟨0,0,0⟩:S27),(⟨0,0,0⟩:S27),(⟨0,0,0⟩:S27),1⟩:S31))) rfl (Reps.none _ _) rfl));intro v2 w10 ho11 hb hg_ hnew_;clear hg_ hnew_;(first|rw [←Ny1.out] at ho11|(simp only [Int.reduceToNat] at ho11;rw [←Ny1.out] at ho11));have HO3:=am_ (Kd.R_lower ho11 (below_size (zl0_ HB)));replace HB:=am_ (below_step (zl0_ HB) hb);clear hb ho11)|((with_reducible refine gate_callee (f:=52) rfl ?_);refine gl_ (some 5) Try.func52 #[.slice none 0 0, .agg #[.int .i64 4, .string (⟨#[97]⟩:ByteArray), .string (⟨#[]⟩:ByteArray), .int .i64 0, .int .i64 0, .int .i64 0]] ?_;(refine (effect_Holds.calls _ _ ([]:List (S31)) 4 (⟨#[97]⟩:ByteArray) (⟨#[]⟩:ByteArray) 0 0 0 false _ ?side1 ?side2 A1.out).mono ?_);(case side1=>exact Kd.C_nil _ _);(case side2=>exact Nat.le_refl _);rintro e w12 ⟨rfl,hb⟩;refine ⟨_,rfl, ?_⟩;replace HO3:=am_ (Kd.R_below (zr_ HO3) hb);replace HB:=am_ (below_step (zl0_ HB) hb);(try clear hb);(try clear hb2);(try clear hk);(try clear hi)))
  go_ret
  exact ⟨by first|rfl|(simp [errW_none,errW_some]<;>rfl)|(simp [*,errW_none,errW_some]<;>rfl),zl0_ HB⟩

 subst c2
 have H1:((effect_Marks.f ([]:List (S54)) y1 3 (⟨#[97]⟩:ByteArray) (⟨#[]⟩:ByteArray) 0 0 0).bind fun t5=>(some ((t5.length:Int)==1)))=some r:=by rw [if_pos rfl] at H;exact H
 clear H
 have H:=H1
 clear H1
 replace H:=Option.bind_eq_some_iff.mp H
 obtain ⟨t5,A30,H⟩:=H
 try dsimp only at H
 have A3:=Aside0.mk A30
 clear A30
 obtain rfl:=Option.some.inj H
 go_enter Try.func51,Try.ntmps51
 go_wp2_with (first|((with_reducible refine gate_dst (N:=3) rfl ?_);(try (refine gate_guard (by rfl) ?_;dsimp only));refine Kd.R_lit k31 _ 31 ?hg (N:=3) ?hd (xs:=([(⟨(⟨#[97]⟩:ByteArray),(⟨#[]⟩:ByteArray),(⟨0,0,0⟩:S27),(⟨0,0,0⟩:S27),(⟨0,0,0⟩:S27),1⟩:S31)]:List (S31))) (inner:=[.string (⟨#[97]⟩:ByteArray), .string (⟨#[]⟩:ByteArray), .int .i64 0, .int .i64 0, .int .i64 0, .int .i64 0, .int .i64 0, .int .i64 0, .int .i64 0, .int .i64 0, .int .i64 0, .int .i64 1]) (ok:=fun _=>True) (okp:=fun _=>True) ?hr ?hp (fun _ hk=>hk) trivial (Below.refl _ _) (Nat.le_refl _) (by simp) ?_;(case hd=>rfl);(case hg=>rfl);(case hr=>first|(go_simp;done)|(go_simp;rfl));(case hp=>exact (Reps.front (show Kd.M k31 _ _ _ (⟨(⟨#[97]⟩:ByteArray),(⟨#[]⟩:ByteArray),(⟨0,0,0⟩:S27),(⟨0,0,0⟩:S27),(⟨0,0,0⟩:S27),1⟩:S31) [.string (⟨#[97]⟩:ByteArray), .string (⟨#[]⟩:ByteArray), .int .i64 0, .int .i64 0, .int .i64 0, .int .i64 0, .int .i64 0, .int .i64 0, .int .i64 0, .int .i64 0, .int .i64 0, .int .i64 1] from (k31_mkM _ _ _ (⟨(⟨#[97]⟩:ByteArray),(⟨#[]⟩:ByteArray),(⟨0,0,0⟩:S27),(⟨0,0,0⟩:S27),(⟨0,0,0⟩:S27),1⟩:S31))) rfl (Reps.none _ _) rfl));intro v2 w4 ho5 hb hg_ hnew_;clear hg_ hnew_;(first|rw [←Ny1.out] at ho5|(simp only [Int.reduceToNat] at ho5;rw [←Ny1.out] at ho5));have HO3:=am_ (Kd.R_lower ho5 (below_size (zl0_ HB)));replace HB:=am_ (below_step (zl0_ HB) hb);clear hb ho5)|((with_reducible refine gate_callee (f:=52) rfl ?_);refine gl_ (some 5) Try.func52 #[.slice none 0 0, .agg #[.int .i64 4, .string (⟨#[97]⟩:ByteArray), .string (⟨#[]⟩:ByteArray), .int .i64 0, .int .i64 0, .int .i64 0]] ?_;(refine (effect_Holds.calls _ _ ([]:List (S31)) 4 (⟨#[97]⟩:ByteArray) (⟨#[]⟩:ByteArray) 0 0 0 true _ ?side1 ?side2 A1.out).mono ?_);(case side1=>exact Kd.C_nil _ _);(case side2=>exact Nat.le_refl _);rintro e w6 ⟨rfl,hb⟩;refine ⟨_,rfl, ?_⟩;replace HO3:=am_ (Kd.R_below (zr_ HO3) hb);replace HB:=am_ (below_step (zl0_ HB) hb);(try clear hb);(try clear hb2);(try clear hk);(try clear hi);obtain ⟨Ao7,co7,eo7⟩:=Kd.R_slice HO3.out;subst eo7)|(go_at_call 54;(refine (effect_Marks.calls _ _ ([]:List (S54)) _ _ y1 3 (⟨#[97]⟩:ByteArray) (⟨#[]⟩:ByteArray) 0 0 0 t5 _ ?side1 ?side2 ?side3 ?side4 A3.out).mono ?_);(case side1=>exact Kd.C_nil _ _);(case side2=>exact Nat.le_refl _);(case side3=>exact zc_ (Kd.R_reads' HO3.out).2.2);(case side4=>exact (Kd.R_reads' HO3.out).2.1);rintro e w8 ⟨v6,rfl,ho0,hb⟩;replace HO3:=am_ (Kd.R_below (zr_ HO3) hb);have HO7:=am_ (Kd.R_lower ho0 (below_size (zl0_ HB)));replace HB:=am_ (below_step (zl0_ HB) hb);(try clear hb);(try clear hb2);(try clear hk);(try clear hi);(try clear ho0);obtain ⟨Ao9,co9,eo9⟩:=Kd.R_slice HO7.out;subst eo9))
 go_ret
 exact ⟨by first|rfl|(simp [errW_none,errW_some]<;>rfl)|(simp [*,errW_none,errW_some]<;>rfl),zl0_ HB⟩
end Go.Proofs.Ytcgefpklljclgaa.Print
