/- ApplyAgain: a part -/
import Derived.Laws.Strings
import Derived.Laws.Cover1
import Derived.Test.YtahidkjncljkaaaBApplyAgain0
import Derived.Test.YtahidkjncljkaaaBApplyAgain1
import Derived.Test.YtahidkjncljkaaaBApplyAgain2
import Derived.Test.YtahidkjncljkaaaBApplyAgain3
set_option linter.unusedVariables false
set_option linter.unusedSimpArgs false
namespace Go.Proofs.Ytahidkjncljkaaa.Print
open Go.RowKit Go.Proofs.YtahidkjncljkaaaW.PrintWords Go.Proofs.YtahidkjncljkaaaW.PrintLast Go.Proofs.YtahidkjncljkaaaW.PrintMore
attribute [local go_sem] max2_int min2_int max_two min_two max_three min_three max_four min_four

mutual
def r10_Move.j0:Nat→List (S79)→ByteArray→ByteArray→Int→List ByteArray→Bool→Option ((List (S79))×Int)
 |0,_,_,_,_,_,_=>none
 |k+1,x0,x1,x2,x10,x11,x32=>if x32=true then ((r10_no.f 2).bind fun bt11=>(some (bt11.1,bt11.2))) else ((r10_in.f k x11 x1).bind fun t15=>(if t15=true then ((r10_no.f 10).bind fun bt16=>(some (bt16.1,bt16.2))) else (if 0≤x10 then (if x10<(x0.length:Int) then (if ((rd_T79 x0 x10).f5)≥9007199254740992 then ((r10_no.f 4).bind fun bt21=>(some (bt21.1,bt21.2))) else ((r10_copied.f x0).bind fun t25=>((r10_Up.f k x0 ((rd_T79 x0 x10).f1)).bind fun t29=>(r10_Move.l0 k x0 x2 x10 x11 t25 t29 0)))) else (none)) else (none))))
def r10_Move.l0:Nat→List (S79)→ByteArray→Int→List ByteArray→List (S79)→List ByteArray→Int→Option ((List (S79))×Int)
 |0,_,_,_,_,_,_,_=>none
 |k+1,x0,x2,x10,x11,x12,x13,x14=>if x14<(x13.length:Int) then (if 0≤x14 then ((r10_Find.f k x12 (rdOf ByteArray.empty x13 x14)).bind fun t33=>(if 0≤t33 then (if t33<(x12.length:Int) then (if 0≤x10 then (if x10<(x0.length:Int) then ((r10_Sub.f ((rd_T79 x12 t33).f4.f0) ((rd_T79 x12 t33).f4.f1) ((rd_T79 x12 t33).f4.f2) ((rd_T79 x0 x10).f4.f0) ((rd_T79 x0 x10).f4.f1) ((rd_T79 x0 x10).f4.f2)).bind fun bt36=>(r10_Move.l0 k x0 x2 x10 x11 (x12.set (t33:Int).toNat (⟨(rd_T79 x12 t33).f0,(rd_T79 x12 t33).f1,(⟨(rd_T79 x12 t33).f2.f0,(rd_T79 x12 t33).f2.f1,(rd_T79 x12 t33).f2.f2⟩:S37),(⟨(rd_T79 x12 t33).f3.f0,(rd_T79 x12 t33).f3.f1,(rd_T79 x12 t33).f3.f2⟩:S37),(⟨bt36.1,bt36.2.1,bt36.2.2⟩:S37),(rd_T79 x12 t33).f5⟩:S79)) x13 (wrap64 (x14+1)))) else (none)) else (none)) else (none)) else (none))) else (none)) else (r10_Move.l1 k x0 x2 x10 x11 x12 0)
def r10_Move.l1:Nat→List (S79)→ByteArray→Int→List ByteArray→List (S79)→Int→Option ((List (S79))×Int)
 |0,_,_,_,_,_,_=>none
 |k+1,x0,x2,x10,x11,x12,x16=>if x16<(x11.length:Int) then (if 0≤x16 then ((r10_Find.f k x12 (rdOf ByteArray.empty x11 x16)).bind fun t44=>(if 0≤t44 then (if t44<(x12.length:Int) then (if 0≤x10 then (if x10<(x0.length:Int) then ((r10_Add.f ((rd_T79 x12 t44).f4.f0) ((rd_T79 x12 t44).f4.f1) ((rd_T79 x12 t44).f4.f2) ((rd_T79 x0 x10).f4.f0) ((rd_T79 x0 x10).f4.f1) ((rd_T79 x0 x10).f4.f2)).bind fun bt47=>((some (x12.set (t44:Int).toNat (⟨(rd_T79 x12 t44).f0,(rd_T79 x12 t44).f1,(⟨(rd_T79 x12 t44).f2.f0,(rd_T79 x12 t44).f2.f1,(rd_T79 x12 t44).f2.f2⟩:S37),(⟨(rd_T79 x12 t44).f3.f0,(rd_T79 x12 t44).f3.f1,(rd_T79 x12 t44).f3.f2⟩:S37),(⟨bt47.1,bt47.2.1,bt47.2.2⟩:S37),(rd_T79 x12 t44).f5⟩:S79):List (S79))).bind fun y50=>((r10_Le.f ((rd_T79 y50 t44).f4.f0) ((rd_T79 y50 t44).f4.f1) ((rd_T79 y50 t44).f4.f2) ((rd_T79 y50 t44).f2.f0) ((rd_T79 y50 t44).f2.f1) ((rd_T79 y50 t44).f2.f2)).bind fun t53=>(if t53=true then (r10_Move.l1 k x0 x2 x10 x11 y50 (wrap64 (x16+1))) else ((r10_no.f 12).bind fun bt54=>(some (bt54.1,bt54.2))))))) else (none)) else (none)) else (none)) else (none))) else (none)) else (if 0≤x10 then (if x10<(x12.length:Int) then ((some (x12.set (x10:Int).toNat (⟨(rd_T79 x12 x10).f0,x2,(⟨(rd_T79 x12 x10).f2.f0,(rd_T79 x12 x10).f2.f1,(rd_T79 x12 x10).f2.f2⟩:S37),(⟨(rd_T79 x12 x10).f3.f0,(rd_T79 x12 x10).f3.f1,(rd_T79 x12 x10).f3.f2⟩:S37),(⟨(rd_T79 x12 x10).f4.f0,(rd_T79 x12 x10).f4.f1,(rd_T79 x12 x10).f4.f2⟩:S37),(rd_T79 x12 x10).f5⟩:S79):List (S79))).bind fun y40=>(some ((y40.set (x10:Int).toNat (⟨(rd_T79 y40 x10).f0,(rd_T79 y40 x10).f1,(⟨(rd_T79 y40 x10).f2.f0,(rd_T79 y40 x10).f2.f1,(rd_T79 y40 x10).f2.f2⟩:S37),(⟨(rd_T79 y40 x10).f3.f0,(rd_T79 y40 x10).f3.f1,(rd_T79 y40 x10).f3.f2⟩:S37),(⟨(rd_T79 y40 x10).f4.f0,(rd_T79 y40 x10).f4.f1,(rd_T79 y40 x10).f4.f2⟩:S37),wrap64 (((rd_T79 y40 x10).f5)+1)⟩:S79)),0))) else (none)) else (none))
end
def r10_Move.f (k:Nat) (l0:List (S79)) (a1:ByteArray) (a2:ByteArray) (a3:Int):Option ((List (S79))×Int):=(r10_old.f k l0 a1 a3).bind fun t2=>(if t2=0 then ((r10_Find.f k l0 a1).bind fun t7=>((r10_Up.f k l0 a2).bind fun t8=>(if a2.toList=([]:List UInt8) then (r10_Move.j0 k l0 a1 a2 t7 t8 false) else (r10_Move.j0 k l0 a1 a2 t7 t8 ((t8.length:Int)==0))))) else ((r10_no.f t2).bind fun bt3=>(some (bt3.1,bt3.2))))
theorem r10_Move.mono_l: ∀k,(∀y0 y1 y2 y3 y4 y5,LeO (r10_Move.j0 k y0 y1 y2 y3 y4 y5) (r10_Move.j0 (k+1) y0 y1 y2 y3 y4 y5))∧(∀y0 y1 y2 y3 y4 y5 y6,LeO (r10_Move.l0 k y0 y1 y2 y3 y4 y5 y6) (r10_Move.l0 (k+1) y0 y1 y2 y3 y4 y5 y6))∧(∀y0 y1 y2 y3 y4 y5,LeO (r10_Move.l1 k y0 y1 y2 y3 y4 y5) (r10_Move.l1 (k+1) y0 y1 y2 y3 y4 y5))
 |0=>⟨fun _ _ _ _ _ _ r h=>by simp [r10_Move.j0] at h,fun _ _ _ _ _ _ _ r h=>by simp [r10_Move.l0] at h,fun _ _ _ _ _ _ r h=>by simp [r10_Move.l1] at h⟩
 |k+1=>by
  obtain ⟨ih0,ih1,ih2⟩:=r10_Move.mono_l k;refine ⟨?_, ?_, ?_⟩<;>(intros;first|unfold r10_Move.j0|unfold r10_Move.l0|unfold r10_Move.l1)<;>repeat' with_reducible first|apply ih0|apply ih1|apply ih2|apply r10_Find.mono|apply r10_Up.mono|apply r10_in.mono|apply r10_old.mono|apply LeO.refl|apply LeO.none|apply LeO.ite|refine LeO.bind ?_ fun _=> ?_
theorem r10_Move.mono: ∀a0 a1 a2 a3 k,LeO (r10_Move.f k a0 a1 a2 a3) (r10_Move.f (k+1) a0 a1 a2 a3):=by
 intro a0 a1 a2 a3 k;obtain ⟨ih0,ih1,ih2⟩:=r10_Move.mono_l k;unfold r10_Move.f
 repeat' with_reducible first|apply ih0|apply ih1|apply ih2|apply r10_Find.mono|apply r10_Up.mono|apply r10_in.mono|apply r10_old.mono|apply LeO.refl|apply LeO.none|apply LeO.ite|refine LeO.bind ?_ fun _=> ?_
def r10_Move.T18:Bool×List (List Nat×List Nat):=(true,[([],[]),([],[]),([],[]),([],[]),([2,3],[2,3]),([4],[4]),([5],[5]),([],[]),([],[]),([7,8],[7,8]),([9],[9]),([10],[10]),([6,11],[6,11]),([0,1,0,1,2,3,4,5,6,7,8,9,10,11,12],[0,1]),([13,0,1,2,3,4,5,6,7,8,9,10,11,12],[13]),([14,12,12,0,1,2,3,4,5,6,7,8,9,10,11,12],[12,14])])
def r10_Move.B18:List Nat:=[0,0,0,0,12,28,60,0,0,384,896,1920,4092,8191,16383,32767]
theorem r10_Move.tab18:rtab .any (opsOf Try.f99 18)=r10_Move.T18:=by kernel_rfl
theorem r10_Move.bits18:waitsOk r10_Move.T18.2 r10_Move.B18=true:=by kernel_rfl
def r10_Move.T23:Bool×List (List Nat×List Nat):=(true,[([],[]),([],[]),([],[]),([],[]),([2,3],[2,3]),([4],[4]),([5],[5]),([],[]),([],[]),([7,8],[7,8]),([9],[9]),([10],[10]),([6,11],[6,11]),([0,1,0,1,2,3,4,5,6,7,8,9,10,11,12],[0,1]),([13,0,1,2,3,4,5,6,7,8,9,10,11,12],[13]),([14,12,12,0,1,2,3,4,5,6,7,8,9,10,11,12],[12,14])])
def r10_Move.B23:List Nat:=[0,0,0,0,12,28,60,0,0,384,896,1920,4092,8191,16383,32767]
theorem r10_Move.tab23:rtab .any (opsOf Try.f99 23)=r10_Move.T23:=by kernel_rfl
theorem r10_Move.bits23:waitsOk r10_Move.T23.2 r10_Move.B23=true:=by kernel_rfl
def r10_Move.T24:Bool×List (List Nat×List Nat):=(true,[([],[]),([],[]),([0,1],[0,1]),([2],[2]),([3],[3]),([],[]),([],[]),([5,6],[5,6]),([7],[7]),([8],[8]),([4,9],[4,9]),([10],[10])])
def r10_Move.B24:List Nat:=[0,0,3,7,15,0,0,96,224,480,1023,2047]
theorem r10_Move.tab24:rtab .any (opsOf Try.f99 24)=r10_Move.T24:=by kernel_rfl
theorem r10_Move.bits24:waitsOk r10_Move.T24.2 r10_Move.B24=true:=by kernel_rfl
set_option maxHeartbeats 8000000 in
set_option maxRecDepth 100000 in
theorem r10_Move.calls (k:Nat) (A0:Option Addr) (c0:Nat) (l0:List (S79)) (a1:ByteArray) (a2:ByteArray) (a3:Int) (r1:List (S79)) (r2:Int) (w:World) (hr0:Kd.C k79 w A0 l0.length l0) (hc0:l0.length≤c0) (h:r10_Move.f k l0 a1 a2 a3=some (r1,r2)):
  Calls Try.prog 99 #[.slice A0 l0.length c0, .string a1, .string a2, .int .i64 a3] w fun e w'=> ∃v0_:Value,e= .returned (.agg #[v0_, .int .i64 r2])∧Kd.R k79 79 w' w.heap.size (fun _=>True) v0_ r1∧Below w.heap.size w w':=by
 have hu73:=Try.underlying73;have hu37:=Try.underlying37;have HR0:=Aside0.mk hr0;have HC0:=Aside0.mk hc0;clear hr0 hc0;have HB:=am_ (Below.refl w.heap.size w);have H:((r10_old.f k l0 a1 a3).bind fun t2=>(if t2=0 then ((r10_Find.f k l0 a1).bind fun t7=>((r10_Up.f k l0 a2).bind fun t8=>(if a2.toList=([]:List UInt8) then (r10_Move.j0 k l0 a1 a2 t7 t8 false) else (r10_Move.j0 k l0 a1 a2 t7 t8 ((t8.length:Int)==0))))) else ((r10_no.f t2).bind fun bt3=>(some (bt3.1,bt3.2)))))=some (r1,r2):=h;clear h;replace H:=zbd_ H;obtain ⟨t2,A5,H⟩:=H;try dsimp only at H
 by_cases c6:t2=0;rotate_left
 ·rw [if_neg c6] at H;have c6b0:=beq_eq_false_iff_ne.mpr c6;have c6b1:=bne_iff_ne.mpr c6;replace H:=zbd_ H;obtain ⟨⟨t3,t6⟩,A92,H⟩:=H;try dsimp only at H
  simp only [Option.some.injEq,Prod.mk.injEq] at H;obtain ⟨rfl,rfl⟩:=H;go_enter Try.func99,Try.ntmps99;go_wp2_with (first|((with_reducible refine gate_dst (N:=8) rfl ?_);(try (refine gate_guard (by rfl) ?_;dsimp only));refine bx_ (N:=8) (cs:=#[.slice none 0 0, .int .i64 0]) (t:=73) ?_;intro gb1 hg w93 hbox hb;have BK1:=am_ (hbox);have GE1:=am_ ((zg0_ HB hg:w.heap.size≤gb1));replace HB:=am_ (below_step (zl0_ HB) hb);clear hb hbox hg)|((with_reducible refine gate_callee (f:=133) rfl ?_);refine gl_ (some 21) Try.func133 #[.slice A0 l0.length c0, .string a1, .int .i64 a3] ?_;(with_reducible refine (r10_old.calls k _ _ l0 a1 a3 t2 _ ?side1 ?side2 A5.out).mono ?_);(case side1=>exact zc_ (Kd.C_below HR0.out HB.out));(case side2=>exact HC0.out);rintro e w' ⟨rfl,⟨nd,rfl⟩⟩;refine ⟨_,rfl, ?_⟩;(try (rw [drewN_self w93];generalize hq_:World.drewN w93 _=w93;replace BK1:=am_ (qb_ hq_ BK1.out);replace HB:=am_ (ql_ hq_ HB.out);clear hq_)))|((with_reducible refine gate_callee (f:=101) rfl ?_);refine gl_ (some 25) Try.func101 #[.int .i64 t2] ?_;(with_reducible refine (r10_no.calls t2 t3 t6 _ A92.out).mono ?_);rintro e w94 ⟨v4,rfl,ho0,hb⟩;refine ⟨_,rfl, ?_⟩;have HO5:=am_ (Kd.R_lower ho0 (below_size (zl1_ HB GE1)));replace BK1:=bb_ BK1 hb;replace HB:=am_ (below_step (zl1_ HB GE1) hb);(try clear hb ho0);obtain ⟨Ao95,co95,eo95⟩:=Kd.R_slice HO5.out;subst eo95;obtain ⟨hcz96_0,hcz96_1⟩:=x2_ BK1;have hfz96_0:=blk_frozen BK1.out 0;have hfz96_1:=blk_frozen BK1.out 1))
  refine bodyPost_ret (results_cell_row rfl _ _ gb1 73 #[.slice Ao95 t3.length co95, .int .i64 t6] (0,0) _ rfl (zw_ BK1) Try.underlying73 rfl (by kernel_rfl)) rfl ?_;exact ⟨_,by first|rfl|(simp [errW_none,errW_some]<;>rfl)|(simp [*,errW_none,errW_some]<;>rfl),zy_ HO5 BK1,zl1_ HB GE1⟩

 rw [if_pos c6] at H;have c6b0:=beq_iff_eq.mpr c6;have c6b1:=bne_eq_false_iff_eq.mpr c6;clear c6;replace H:=zbd_ H;obtain ⟨t7,A7,H⟩:=H;try dsimp only at H
 replace H:=zbd_ H;obtain ⟨t8,A8,H⟩:=H;try dsimp only at H
 have HC9:=Aside0.mk H;clear H;go_enter Try.func99,Try.ntmps99
 go_upto_region 6 with (first|((with_reducible refine gate_dst (N:=8) rfl ?_);(try (refine gate_guard (by rfl) ?_;dsimp only));refine bx_ (N:=8) (cs:=#[.slice none 0 0, .int .i64 0]) (t:=73) ?_;intro gb1 hg w10 hbox hb;have BK1:=am_ (hbox);have GE1:=am_ ((zg0_ HB hg:w.heap.size≤gb1));replace HB:=am_ (below_step (zl0_ HB) hb);clear hb hbox hg)|((with_reducible refine gate_callee (f:=133) rfl ?_);refine gl_ (some 21) Try.func133 #[.slice A0 l0.length c0, .string a1, .int .i64 a3] ?_;(with_reducible refine (r10_old.calls k _ _ l0 a1 a3 t2 _ ?side1 ?side2 A5.out).mono ?_);(case side1=>exact zc_ (Kd.C_below HR0.out HB.out));(case side2=>exact HC0.out);rintro e w' ⟨rfl,⟨nd,rfl⟩⟩;refine ⟨_,rfl, ?_⟩)|((with_reducible refine gate_callee (f:=52) rfl ?_);refine gl_ (some 28) Try.func52 #[.slice A0 l0.length c0, .string a1] ?_;(with_reducible refine (r10_Find.calls k _ _ l0 a1 t7 _ ?side1 ?side2 A7.out).mono ?_);(case side1=>repeat (first|exact (Kd.C_below HR0.out (zl1_ HB GE1))|(with_reducible refine Kd.C_alloc ?_ _)|(with_reducible refine Kd.C_drewN ?_ _)|(with_reducible refine Kd.C_drew ?_)));(case side2=>exact HC0.out);rintro e w' ⟨rfl,⟨nd,rfl⟩⟩;refine ⟨_,rfl, ?_⟩)|((with_reducible refine gate_callee (f:=55) rfl ?_);refine gl_ (some 31) Try.func55 #[.slice A0 l0.length c0, .string a2] ?_;(with_reducible refine (r10_Up.calls k _ _ l0 a2 t8 _ ?side1 ?side2 A8.out).mono ?_);(case side1=>repeat (first|exact (Kd.C_below HR0.out (zl1_ HB GE1))|(with_reducible refine Kd.C_alloc ?_ _)|(with_reducible refine Kd.C_drewN ?_ _)|(with_reducible refine Kd.C_drew ?_)));(case side2=>exact HC0.out);rintro e w11 ⟨v9,rfl,ho0,hb⟩;refine ⟨_,rfl, ?_⟩;have HO10:=am_ (Kd.R_lower ho0 (below_size (zl1_ HB GE1)));replace BK1:=bb_ BK1 hb;replace HB:=am_ (below_step (zl1_ HB GE1) hb);(try clear hb ho0)))
 (try simp only [Act.put,List.setIfInBounds_toArray,List.set_cons_zero,List.set_cons_succ]);go_cut [32] (fun v32 wc=> ∃(kq:Nat) (x32_8:Bool),v32= .bool x32_8∧Aside0 (r10_Move.j0 kq l0 a1 a2 t7 t8 x32_8=some (r1,r2))∧Aside0 (kq≤k)∧Aside0 (Kd.R Kd.string 9 wc w.heap.size (fun _=>True) v9 t8)∧Aside0 (wc.heap[gb1]?=some (.cells #[(.slice none 0 0), .int .i64 0] 73 (0,0)))∧Aside0 (Below w.heap.size w wc))
 case first=>
  have H:=HC9.out;clear HC9;by_cases c12:a2.toList=([]:List UInt8)
  ·rw [if_pos c12] at H;have c12b0:=beq_iff_eq.mpr c12;have c12b1:=bne_eq_false_iff_eq.mpr c12;clear c12;(first|rw [c12b0]|(simp only [i64_w,i32_w];rw [c12b0])|skip);have H':=Aside0.mk H;clear H;go_wp2
   go_meet
   case rel=>exact ⟨_,(false),rf_,H',⟨by first|omega|exact Nat.le_refl _⟩,am_ (zr_ HO10),am_ (zb_ BK1),⟨zl1_ HB GE1⟩⟩
  rw [if_neg c12] at H;have c12b0:=beq_eq_false_iff_ne.mpr c12;have c12b1:=bne_iff_ne.mpr c12;(first|rw [c12b0]|(simp only [i64_w,i32_w];rw [c12b0])|skip);have H':=Aside0.mk H;clear H;obtain ⟨Ao13,co13,eo13⟩:=Kd.R_slice HO10.out;subst eo13;go_wp2
  go_meet
  case rel=>exact ⟨_,(((t8.length:Int)==0)),rf_,H',⟨by first|omega|exact Nat.le_refl _⟩,am_ (zr_ HO10),am_ (zb_ BK1),⟨zl1_ HB GE1⟩⟩
 case rest=>
  clear HC9;obtain ⟨kq,x32_8,rfl,HA,HJ8,HO_11,BK1,HB⟩:=hcut
  cases kq with
  |zero=>exact absurd HA.out (by simp [r10_Move.j0])
  |succ kj8=>
   have H:=HA.out;clear HA;simp only [r10_Move.j0] at H;by_cases c14:x32_8=true
   ·subst c14;rw [if_pos rfl] at H;replace H:=zbd_ H;obtain ⟨⟨t11,t14⟩,A15,H⟩:=H;try dsimp only at H
    simp only [Option.some.injEq,Prod.mk.injEq] at H;obtain ⟨rfl,rfl⟩:=H;go_wp2_with (first|((with_reducible refine gate_callee (f:=101) rfl ?_);refine gl_ (some 40) Try.func101 #[.int .i64 2] ?_;(with_reducible refine (r10_no.calls 2 t11 t14 _ A15.out).mono ?_);rintro e w16 ⟨v12,rfl,ho0,hb⟩;refine ⟨_,rfl, ?_⟩;replace HO_11:=ob_ HO_11 hb;have HO13:=am_ (Kd.R_lower ho0 (below_size (zl1_ HB GE1)));replace BK1:=bb_ BK1 hb;replace HB:=am_ (below_step (zl1_ HB GE1) hb);(try clear hb ho0);obtain ⟨Ao17,co17,eo17⟩:=Kd.R_slice HO13.out;subst eo17;obtain ⟨hcz18_0,hcz18_1⟩:=x2_ BK1;have hfz18_0:=blk_frozen BK1.out 0;have hfz18_1:=blk_frozen BK1.out 1))
    refine bodyPost_ret (results_cell_row rfl _ _ gb1 73 #[.slice Ao17 t11.length co17, .int .i64 t14] (0,0) _ rfl (zw_ BK1) Try.underlying73 rfl (by kernel_rfl)) rfl ?_;exact ⟨_,by first|rfl|(simp [errW_none,errW_some]<;>rfl)|(simp [*,errW_none,errW_some]<;>rfl),zy_ HO13 BK1,zl1_ HB GE1⟩
   replace c14:=Bool.eq_false_iff.mpr c14;subst c14;rw [if_neg (show¬(false=true) by decide)] at H;replace H:=zbd_ H;obtain ⟨t15,A19,H⟩:=H;try dsimp only at H
   by_cases c20:t15=true
   ·subst c20;rw [if_pos rfl] at H;replace H:=zbd_ H;obtain ⟨⟨t16,t19⟩,A21,H⟩:=H;try dsimp only at H
    simp only [Option.some.injEq,Prod.mk.injEq] at H;obtain ⟨rfl,rfl⟩:=H;obtain ⟨Ao22,co22,eo22⟩:=Kd.R_slice HO_11.out;subst eo22;go_wp2_with (first|((with_reducible refine gate_callee (f:=134) rfl ?_);refine gl_ (some 44) Try.func134 #[.slice Ao22 t8.length co22, .string a1] ?_;(with_reducible refine (r10_in.calls kj8 _ _ t8 a1 true _ ?side1 ?side2 A19.out).mono ?_);(case side1=>exact zc_ (Kd.R_reads' HO_11.out).2.2);(case side2=>exact (Kd.R_reads' HO_11.out).2.1);rintro e w' ⟨rfl,⟨nd,rfl⟩⟩;refine ⟨_,rfl, ?_⟩;(try (rw [drewN_self wc];generalize hq_:World.drewN wc _=wc;replace HO_11:=am_ (qr_ hq_ HO_11.out);replace BK1:=am_ (qb_ hq_ BK1.out);replace HB:=am_ (ql_ hq_ HB.out);clear hq_)))|((with_reducible refine gate_callee (f:=101) rfl ?_);refine gl_ (some 45) Try.func101 #[.int .i64 10] ?_;(with_reducible refine (r10_no.calls 10 t16 t19 _ A21.out).mono ?_);rintro e w23 ⟨v17,rfl,ho0,hb⟩;refine ⟨_,rfl, ?_⟩;replace HO_11:=ob_ HO_11 hb;have HO18:=am_ (Kd.R_lower ho0 (below_size (zl1_ HB GE1)));replace BK1:=bb_ BK1 hb;replace HB:=am_ (below_step (zl1_ HB GE1) hb);(try clear hb ho0);obtain ⟨Ao24,co24,eo24⟩:=Kd.R_slice HO18.out;subst eo24;obtain ⟨hcz25_0,hcz25_1⟩:=x2_ BK1;have hfz25_0:=blk_frozen BK1.out 0;have hfz25_1:=blk_frozen BK1.out 1))
    refine bodyPost_ret (results_cell_row rfl _ _ gb1 73 #[.slice Ao24 t16.length co24, .int .i64 t19] (0,0) _ rfl (zw_ BK1) Try.underlying73 rfl (by kernel_rfl)) rfl ?_;exact ⟨_,by first|rfl|(simp [errW_none,errW_some]<;>rfl)|(simp [*,errW_none,errW_some]<;>rfl),zy_ HO18 BK1,zl1_ HB GE1⟩
   replace c20:=Bool.eq_false_iff.mpr c20;subst c20;rw [if_neg (show¬(false=true) by decide)] at H;replace H:=zif_ H;obtain ⟨c26,H⟩:=H;have c26b0:=decide_eq_true c26;clear c26;replace H:=zif_ H;obtain ⟨c27,H⟩:=H;have c27b0:=decide_eq_true c27;clear c27;by_cases c28:((rd_T79 l0 t7).f5)≥9007199254740992
   ·rw [if_pos c28] at H;have c28b0:decide (9007199254740992≤((rd_T79 l0 t7).f5))=true:=decide_eq_true c28;clear c28;replace H:=zbd_ H;obtain ⟨⟨t21,t24⟩,A29,H⟩:=H;try dsimp only at H
    simp only [Option.some.injEq,Prod.mk.injEq] at H;obtain ⟨rfl,rfl⟩:=H;obtain ⟨Ao30,co30,eo30⟩:=Kd.R_slice HO_11.out;subst eo30
    go_wp2_with (first|((with_reducible refine gate_callee (f:=134) rfl ?_);refine gl_ (some 44) Try.func134 #[.slice Ao30 t8.length co30, .string a1] ?_;(with_reducible refine (r10_in.calls kj8 _ _ t8 a1 false _ ?side1 ?side2 A19.out).mono ?_);(case side1=>exact zc_ (Kd.R_reads' HO_11.out).2.2);(case side2=>exact (Kd.R_reads' HO_11.out).2.1);rintro e w' ⟨rfl,⟨nd,rfl⟩⟩;refine ⟨_,rfl, ?_⟩;(try (rw [drewN_self wc];generalize hq_:World.drewN wc _=wc;replace HO_11:=am_ (qr_ hq_ HO_11.out);replace BK1:=am_ (qb_ hq_ BK1.out);replace HB:=am_ (ql_ hq_ HB.out);clear hq_));have p20:0≤(t7:Int):=of_decide_eq_true zq_;have q20:t7<(l0.length:Int):=of_decide_eq_true zq_;obtain ⟨ad20,e20,hx20_0,hx20_1,hx20_2,hx20_3,hx20_4,hx20_5,hx20_6,hx20_7,hx20_8,hx20_9,hx20_10,hx20_11⟩:=at_T79 HR0.out t7 p20 q20;cases e20;replace hx20_0:=zx12_ HB hx20_0 hx20_1 hx20_2 hx20_3 hx20_4 hx20_5 hx20_6 hx20_7 hx20_8 hx20_9 hx20_10 hx20_11;clear hx20_1 hx20_2 hx20_3 hx20_4 hx20_5 hx20_6 hx20_7 hx20_8 hx20_9 hx20_10 hx20_11;obtain ⟨hx20_0,hx20_1,hx20_2,hx20_3,hx20_4,hx20_5,hx20_6,hx20_7,hx20_8,hx20_9,hx20_10,hx20_11⟩:=hx20_0;replace p20:=eq_true p20;replace q20:=eq_true q20)|((with_reducible refine gate_callee (f:=101) rfl ?_);refine gl_ (some 53) Try.func101 #[.int .i64 4] ?_;(with_reducible refine (r10_no.calls 4 t21 t24 _ A29.out).mono ?_);rintro e w31 ⟨v22,rfl,ho0,hb⟩;refine ⟨_,rfl, ?_⟩;replace HO_11:=ob_ HO_11 hb;have HO23:=am_ (Kd.R_lower ho0 (below_size (zl1_ HB GE1)));replace BK1:=bb_ BK1 hb;replace HB:=am_ (below_step (zl1_ HB GE1) hb);(try clear hb ho0);obtain ⟨Ao32,co32,eo32⟩:=Kd.R_slice HO23.out;subst eo32;obtain ⟨hcz33_0,hcz33_1⟩:=x2_ BK1;have hfz33_0:=blk_frozen BK1.out 0;have hfz33_1:=blk_frozen BK1.out 1))
    refine bodyPost_ret (results_cell_row rfl _ _ gb1 73 #[.slice Ao32 t21.length co32, .int .i64 t24] (0,0) _ rfl (zw_ BK1) Try.underlying73 rfl (by kernel_rfl)) rfl ?_;exact ⟨_,by first|rfl|(simp [errW_none,errW_some]<;>rfl)|(simp [*,errW_none,errW_some]<;>rfl),zy_ HO23 BK1,zl1_ HB GE1⟩
   rw [if_neg c28] at H;have c28b0:decide (9007199254740992≤((rd_T79 l0 t7).f5))=false:=decide_eq_false c28;clear c28;replace H:=zbd_ H;obtain ⟨t25,A34,H⟩:=H;try dsimp only at H
   replace H:=zbd_ H;obtain ⟨t29,A35,H⟩:=H;try dsimp only at H
   have H':=Aside0.mk H;clear H;obtain ⟨Ao36,co36,eo36⟩:=Kd.R_slice HO_11.out;subst eo36
   go_wp2_with (first|((with_reducible refine gate_callee (f:=134) rfl ?_);refine gl_ (some 44) Try.func134 #[.slice Ao36 t8.length co36, .string a1] ?_;(with_reducible refine (r10_in.calls kj8 _ _ t8 a1 false _ ?side1 ?side2 A19.out).mono ?_);(case side1=>exact zc_ (Kd.R_reads' HO_11.out).2.2);(case side2=>exact (Kd.R_reads' HO_11.out).2.1);rintro e w' ⟨rfl,⟨nd,rfl⟩⟩;refine ⟨_,rfl, ?_⟩;have p20:0≤(t7:Int):=of_decide_eq_true zq_;have q20:t7<(l0.length:Int):=of_decide_eq_true zq_;obtain ⟨ad20,e20,hx20_0,hx20_1,hx20_2,hx20_3,hx20_4,hx20_5,hx20_6,hx20_7,hx20_8,hx20_9,hx20_10,hx20_11⟩:=at_T79 HR0.out t7 p20 q20;cases e20;replace hx20_0:=zx12_ HB hx20_0 hx20_1 hx20_2 hx20_3 hx20_4 hx20_5 hx20_6 hx20_7 hx20_8 hx20_9 hx20_10 hx20_11;clear hx20_1 hx20_2 hx20_3 hx20_4 hx20_5 hx20_6 hx20_7 hx20_8 hx20_9 hx20_10 hx20_11;obtain ⟨hx20_0,hx20_1,hx20_2,hx20_3,hx20_4,hx20_5,hx20_6,hx20_7,hx20_8,hx20_9,hx20_10,hx20_11⟩:=hx20_0;replace p20:=eq_true p20;replace q20:=eq_true q20)|((with_reducible refine gate_callee (f:=119) rfl ?_);refine gl_ (some 55) Try.func119 #[.slice (some ad20) l0.length c0] ?_;(with_reducible refine (r10_copied.calls _ _ l0 t25 _ ?side1 ?side2 A34.out).mono ?_);(case side1=>repeat (first|exact (Kd.C_below HR0.out (zl1_ HB GE1))|(with_reducible refine Kd.C_alloc ?_ _)|(with_reducible refine Kd.C_drewN ?_ _)|(with_reducible refine Kd.C_drew ?_)));(case side2=>exact HC0.out);rintro e w37 ⟨v26,rfl,ho0,hb⟩;refine ⟨_,rfl, ?_⟩;replace HO_11:=ob_ HO_11 hb;have HO27:=am_ (Kd.R_lower ho0 (below_size (zl1_ HB GE1)));replace BK1:=bb_ BK1 hb;replace HB:=am_ (below_step (zl1_ HB GE1) hb);(try clear hb ho0);have p28:0≤(t7:Int):=of_decide_eq_true zq_;have q28:t7<(l0.length:Int):=of_decide_eq_true zq_;obtain ⟨ad28,e28,hx28_0,hx28_1,hx28_2,hx28_3,hx28_4,hx28_5,hx28_6,hx28_7,hx28_8,hx28_9,hx28_10,hx28_11⟩:=at_T79 HR0.out t7 p28 q28;obtain rfl:ad20=ad28:=(by injection e28);replace hx28_0:=zx12_ HB hx28_0 hx28_1 hx28_2 hx28_3 hx28_4 hx28_5 hx28_6 hx28_7 hx28_8 hx28_9 hx28_10 hx28_11;clear hx28_1 hx28_2 hx28_3 hx28_4 hx28_5 hx28_6 hx28_7 hx28_8 hx28_9 hx28_10 hx28_11;obtain ⟨hx28_0,hx28_1,hx28_2,hx28_3,hx28_4,hx28_5,hx28_6,hx28_7,hx28_8,hx28_9,hx28_10,hx28_11⟩:=hx28_0;replace p28:=eq_true p28;replace q28:=eq_true q28)|((with_reducible refine gate_callee (f:=55) rfl ?_);refine gl_ (some 62) Try.func55 #[.slice (some ad20) l0.length c0, .string ((rd_T79 l0 t7).f1)] ?_;(with_reducible refine (r10_Up.calls kj8 _ _ l0 ((rd_T79 l0 t7).f1) t29 _ ?side1 ?side2 A35.out).mono ?_);(case side1=>exact zc_ (Kd.C_below HR0.out HB.out));(case side2=>exact HC0.out);rintro e w38 ⟨v30,rfl,ho0,hb⟩;refine ⟨_,rfl, ?_⟩;replace HO27:=ob_ HO27 hb;have HO31:=am_ (Kd.R_lower (Kd.R_new' ho0 (Kd.R_lt (zr_ HO_11))) (below_size (zl1_ HB GE1)));replace HO_11:=am_ (Kd.R_elder' (zr_ HO_11) (Kd.R_base ho0) hb);replace BK1:=bb_ BK1 hb;replace HB:=am_ (below_step (zl1_ HB GE1) hb);(try clear hb ho0)))
   go_loopg [14] kj8 (fun kq v14 w'=> ∃(x12_2:List (S79)) (x14_2:Int),v14= .int .i64 x14_2∧Aside0 (r10_Move.l0 kq l0 a2 t7 t8 x12_2 t29 x14_2=some (r1,r2))∧Aside0 (kq≤kj8)∧Aside0 (Kd.R Kd.string 9 w' w.heap.size (fun k_=>some k_≠(v30:Value).ownBlock) (.slice Ao36 t8.length co36) t8)∧Aside0 (Kd.R k79 79 w' w.heap.size (fun _=>True) v26 x12_2)∧Aside0 (Kd.R Kd.string 9 w' w.heap.size (fun k_=>some k_≠((.slice Ao36 t8.length co36):Value).ownBlock) v30 t29)∧Aside0 (w'.heap[gb1]?=some (.cells #[(.slice none 0 0), .int .i64 0] 73 (0,0)))∧Aside0 (Below w.heap.size w w'))
   case atStart=>exact ⟨(t25),(0),rf_,H',⟨Nat.le_refl _⟩,⟨by (with_reducible repeat (first|apply Kd.R_alloc|apply Kd.R_drewN|apply Kd.R_drew));exact Kd.R_mono HO_11.out (fun _ hk=>hk.2)⟩,am_ (zr_ HO27),⟨by (with_reducible repeat (first|apply Kd.R_alloc|apply Kd.R_drewN|apply Kd.R_drew));exact Kd.R_mono HO31.out (fun _ hk=>hk.2)⟩,am_ (zb_ BK1),⟨zl1_ HB GE1⟩⟩
   case round=>
    clear H';obtain ⟨x12_2,x14_2,rfl,HA,HK2,HO_11,HO_12,HO_13,BK1,HB⟩:=hrel
    cases gk with
    |zero=>exact absurd HA.out (by simp [r10_Move.l0])
    |succ k2=>
     have H:=HA.out;clear HA;simp only [r10_Move.l0] at H;by_cases c39:x14_2<(t29.length:Int)
     ·rw [if_pos c39] at H;have c39b0:=decide_eq_true c39;clear c39;replace H:=zif_ H;obtain ⟨c40,H⟩:=H;have c40b0:=decide_eq_true c40;clear c40;replace H:=zbd_ H;obtain ⟨t33,A41,H⟩:=H;try dsimp only at H
      replace H:=zif_ H;obtain ⟨c42,H⟩:=H;have c42b0:=decide_eq_true c42;clear c42;replace H:=zif_ H;obtain ⟨c43,H⟩:=H;have c43b0:=decide_eq_true c43;clear c43;replace H:=zif_ H;obtain ⟨c44,H⟩:=H;have c44b0:=decide_eq_true c44;clear c44;replace H:=zif_ H;obtain ⟨c45,H⟩:=H;have c45b0:=decide_eq_true c45;clear c45;replace H:=zbd_ H;obtain ⟨⟨t36,t37,t38⟩,A46,H⟩:=H;try dsimp only at H
      obtain ⟨y39,hy39⟩: ∃y_:List (S79),y_=(x12_2.set (t33:Int).toNat (⟨(rd_T79 x12_2 t33).f0,(rd_T79 x12_2 t33).f1,(⟨(rd_T79 x12_2 t33).f2.f0,(rd_T79 x12_2 t33).f2.f1,(rd_T79 x12_2 t33).f2.f2⟩:S37),(⟨(rd_T79 x12_2 t33).f3.f0,(rd_T79 x12_2 t33).f3.f1,(rd_T79 x12_2 t33).f3.f2⟩:S37),(⟨t36,t37,t38⟩:S37),(rd_T79 x12_2 t33).f5⟩:S79)):=⟨_,rfl⟩;(first|replace H:=zsb_ hy39 H|rw [←hy39] at H);have Ny39:=Aside0.mk hy39;clear hy39;have H':=Aside0.mk H;clear H;obtain ⟨Ao48,co48,eo48⟩:=Kd.R_slice HO_13.out;subst eo48;obtain ⟨p32,q32,ad32,e32,hx32_0⟩:=zat_ (Kd.at_string (Kd.R_reads' HO_13.out).2.2 x14_2);cases e32;obtain ⟨Ao49,co49,eo49⟩:=Kd.R_slice HO_12.out;subst eo49;try go_wp2_with (first|((with_reducible refine gate_callee (f:=52) rfl ?_);refine gl_ (some 74) Try.func52 #[.slice Ao49 x12_2.length co49, .string (rdOf ByteArray.empty t29 x14_2)] ?_;(with_reducible refine (r10_Find.calls k2 _ _ x12_2 (rdOf ByteArray.empty t29 x14_2) t33 _ ?side1 ?side2 A41.out).mono ?_);(case side1=>exact zc_ (Kd.R_reads' HO_12.out).2.2);(case side2=>exact (Kd.R_reads' HO_12.out).2.1);rintro e w' ⟨rfl,⟨nd,rfl⟩⟩;refine ⟨_,rfl, ?_⟩;(try (rw [drewN_self wr];generalize hq_:World.drewN wr _=wr;replace HO_11:=am_ (qr_ hq_ HO_11.out);replace HO_12:=am_ (qr_ hq_ HO_12.out);replace HO_13:=am_ (qr_ hq_ HO_13.out);replace BK1:=am_ (qb_ hq_ BK1.out);replace HB:=am_ (ql_ hq_ HB.out);clear hq_))))
      replace HO_11:=am_ (Kd.R_drew HO_11.out);replace HO_12:=am_ (Kd.R_drew HO_12.out);replace HO_13:=am_ (Kd.R_drew HO_13.out);replace BK1:=am_ (blk_drew BK1.out);replace HB:=am_ (below_drew1 HB.out);obtain ⟨p34,q34,ad34,e34,hx34_0,hx34_1,hx34_2,hx34_3,hx34_4,hx34_5,hx34_6,hx34_7,hx34_8,hx34_9,hx34_10,hx34_11⟩:=zat_ (at_T79 (Kd.R_reads' HO_12.out).2.2 t33);cases e34;have p35:0≤(t7:Int):=of_decide_eq_true zq_;have q35:t7<(l0.length:Int):=of_decide_eq_true zq_;obtain ⟨ad35,e35,hx35_0,hx35_1,hx35_2,hx35_3,hx35_4,hx35_5,hx35_6,hx35_7,hx35_8,hx35_9,hx35_10,hx35_11⟩:=at_T79 HR0.out t7 p35 q35;have hw35_11:=hx35_11;have hw35_10:=hx35_10;have hw35_9:=hx35_9;have hw35_8:=hx35_8;have hw35_7:=hx35_7;have hw35_6:=hx35_6;have hw35_5:=hx35_5;have hw35_4:=hx35_4;have hw35_3:=hx35_3;have hw35_2:=hx35_2;have hw35_1:=hx35_1;have hw35_0:=hx35_0;obtain rfl:ad20=ad35:=(by injection e35);replace hx35_0:=zx12_ HB hx35_0 hx35_1 hx35_2 hx35_3 hx35_4 hx35_5 hx35_6 hx35_7 hx35_8 hx35_9 hx35_10 hx35_11;clear hx35_1 hx35_2 hx35_3 hx35_4 hx35_5 hx35_6 hx35_7 hx35_8 hx35_9 hx35_10 hx35_11;obtain ⟨hx35_0,hx35_1,hx35_2,hx35_3,hx35_4,hx35_5,hx35_6,hx35_7,hx35_8,hx35_9,hx35_10,hx35_11⟩:=hx35_0;replace p35:=eq_true p35;replace q35:=eq_true q35
      refine start_ (n:=16) (S:=fun w'=>w'.cell? (ad34.add ((t33).toNat*12))=some (.string ((rd_T79 x12_2 t33).f0))∧w'.cell? ⟨(ad34.add ((t33).toNat*12)).block,(ad34.add ((t33).toNat*12)).off+1,none⟩=some (.string ((rd_T79 x12_2 t33).f1))∧w'.cell? ⟨(ad34.add ((t33).toNat*12)).block,(ad34.add ((t33).toNat*12)).off+2,none⟩=some (.int .i64 ((rd_T79 x12_2 t33).f2.f0))∧w'.cell? ⟨(ad34.add ((t33).toNat*12)).block,(ad34.add ((t33).toNat*12)).off+3,none⟩=some (.int .i64 ((rd_T79 x12_2 t33).f2.f1))∧w'.cell? ⟨(ad34.add ((t33).toNat*12)).block,(ad34.add ((t33).toNat*12)).off+4,none⟩=some (.int .i64 ((rd_T79 x12_2 t33).f2.f2))∧w'.cell? ⟨(ad34.add ((t33).toNat*12)).block,(ad34.add ((t33).toNat*12)).off+5,none⟩=some (.int .i64 ((rd_T79 x12_2 t33).f3.f0))∧w'.cell? ⟨(ad34.add ((t33).toNat*12)).block,(ad34.add ((t33).toNat*12)).off+6,none⟩=some (.int .i64 ((rd_T79 x12_2 t33).f3.f1))∧w'.cell? ⟨(ad34.add ((t33).toNat*12)).block,(ad34.add ((t33).toNat*12)).off+7,none⟩=some (.int .i64 ((rd_T79 x12_2 t33).f3.f2))∧w'.cell? ⟨(ad34.add ((t33).toNat*12)).block,(ad34.add ((t33).toNat*12)).off+8,none⟩=some (.int .i64 ((rd_T79 x12_2 t33).f4.f0))∧w'.cell? ⟨(ad34.add ((t33).toNat*12)).block,(ad34.add ((t33).toNat*12)).off+9,none⟩=some (.int .i64 ((rd_T79 x12_2 t33).f4.f1))∧w'.cell? ⟨(ad34.add ((t33).toNat*12)).block,(ad34.add ((t33).toNat*12)).off+10,none⟩=some (.int .i64 ((rd_T79 x12_2 t33).f4.f2))∧w'.cell? ⟨(ad34.add ((t33).toNat*12)).block,(ad34.add ((t33).toNat*12)).off+11,none⟩=some (.int .i64 ((rd_T79 x12_2 t33).f5))∧w'.cell? (ad20.add ((t7).toNat*12))=some (.string ((rd_T79 l0 t7).f0))∧w'.cell? ⟨(ad20.add ((t7).toNat*12)).block,(ad20.add ((t7).toNat*12)).off+1,none⟩=some (.string ((rd_T79 l0 t7).f1))∧w'.cell? ⟨(ad20.add ((t7).toNat*12)).block,(ad20.add ((t7).toNat*12)).off+2,none⟩=some (.int .i64 ((rd_T79 l0 t7).f2.f0))∧w'.cell? ⟨(ad20.add ((t7).toNat*12)).block,(ad20.add ((t7).toNat*12)).off+3,none⟩=some (.int .i64 ((rd_T79 l0 t7).f2.f1))∧w'.cell? ⟨(ad20.add ((t7).toNat*12)).block,(ad20.add ((t7).toNat*12)).off+4,none⟩=some (.int .i64 ((rd_T79 l0 t7).f2.f2))∧w'.cell? ⟨(ad20.add ((t7).toNat*12)).block,(ad20.add ((t7).toNat*12)).off+5,none⟩=some (.int .i64 ((rd_T79 l0 t7).f3.f0))∧w'.cell? ⟨(ad20.add ((t7).toNat*12)).block,(ad20.add ((t7).toNat*12)).off+6,none⟩=some (.int .i64 ((rd_T79 l0 t7).f3.f1))∧w'.cell? ⟨(ad20.add ((t7).toNat*12)).block,(ad20.add ((t7).toNat*12)).off+7,none⟩=some (.int .i64 ((rd_T79 l0 t7).f3.f2))∧w'.cell? ⟨(ad20.add ((t7).toNat*12)).block,(ad20.add ((t7).toNat*12)).off+8,none⟩=some (.int .i64 ((rd_T79 l0 t7).f4.f0))∧w'.cell? ⟨(ad20.add ((t7).toNat*12)).block,(ad20.add ((t7).toNat*12)).off+9,none⟩=some (.int .i64 ((rd_T79 l0 t7).f4.f1))∧w'.cell? ⟨(ad20.add ((t7).toNat*12)).block,(ad20.add ((t7).toNat*12)).off+10,none⟩=some (.int .i64 ((rd_T79 l0 t7).f4.f2))∧w'.cell? ⟨(ad20.add ((t7).toNat*12)).block,(ad20.add ((t7).toNat*12)).off+11,none⟩=some (.int .i64 ((rd_T79 l0 t7).f5))) (ds:=[15]) (bt_ 16 0) (by kernel_rfl) rfl rfl ⟨hx34_0,hx34_1,hx34_2,hx34_3,hx34_4,hx34_5,hx34_6,hx34_7,hx34_8,hx34_9,hx34_10,hx34_11,(zx_ HB hw35_0:),(zx_ HB hw35_1:),(zx_ HB hw35_2:),(zx_ HB hw35_3:),(zx_ HB hw35_4:),(zx_ HB hw35_5:),(zx_ HB hw35_6:),(zx_ HB hw35_7:),(zx_ HB hw35_8:),(zx_ HB hw35_9:),(zx_ HB hw35_10:),(zx_ HB hw35_11:)⟩ (fun hHeld=> ?_);refine with_tabW r10_Move.tab18 r10_Move.bits18 (fun HT_ HW_=> ?_)
      generalize wr.drew=w50 at HO_11 HO_12 HO_13 BK1 HB hx34_0 hx34_1 hx34_10 hx34_11 hx34_2 hx34_3 hx34_4 hx34_5 hx34_6 hx34_7 hx34_8 hx34_9 hx35_0 hx35_1 hx35_10 hx35_11 hx35_2 hx35_3 hx35_4 hx35_5 hx35_6 hx35_7 hx35_8 hx35_9 hHeld ⊢;refine ru_ 0 HT_ ?_;refine ru_ 1 HT_ ?_;refine ru_ 2 HT_ ?_;refine ru_ 3 HT_ ?_;refine ru_ 4 HT_ ?_;refine ru_ 5 HT_ ?_;refine ru_ 7 HT_ ?_;refine ru_ 8 HT_ ?_;refine ru_ 9 HT_ ?_;refine ru_ 10 HT_ ?_;refine rk_ 6 HT_ HW_ hHeld ?_;refine rk_ 11 HT_ HW_ hHeld ?_;refine on_ (i:=12) (N:=some 87) (bt_ 16 8191) HT_ (fun K hK=> ?_);refine gs_ Try.func135 #[.agg #[.int .i64 ((rd_T79 x12_2 t33).f4.f0), .int .i64 ((rd_T79 x12_2 t33).f4.f1), .int .i64 ((rd_T79 x12_2 t33).f4.f2)], .agg #[.int .i64 ((rd_T79 l0 t7).f4.f0), .int .i64 ((rd_T79 l0 t7).f4.f1), .int .i64 ((rd_T79 l0 t7).f4.f2)]] ?_
      with_reducible refine (r10_Sub.calls ((rd_T79 x12_2 t33).f4.f0) ((rd_T79 x12_2 t33).f4.f1) ((rd_T79 x12_2 t33).f4.f2) ((rd_T79 l0 t7).f4.f0) ((rd_T79 l0 t7).f4.f1) ((rd_T79 l0 t7).f4.f2) t36 t37 t38 _ A46.out).mono ?_
      rintro e w51 ⟨rfl,hb⟩;have HS0_:=zh_ hb (hHeld.1);have HS1_:=zh_ hb (hHeld.2.1);have HS2_:=zh_ hb (hHeld.2.2.1);have HS3_:=zh_ hb (hHeld.2.2.2.1);have HS4_:=zh_ hb (hHeld.2.2.2.2.1);have HS5_:=zh_ hb (hHeld.2.2.2.2.2.1);have HS6_:=zh_ hb (hHeld.2.2.2.2.2.2.1);have HS7_:=zh_ hb (hHeld.2.2.2.2.2.2.2.1);have HS8_:=zh_ hb (hHeld.2.2.2.2.2.2.2.2.1);have HS9_:=zh_ hb (hHeld.2.2.2.2.2.2.2.2.2.1);have HS10_:=zh_ hb (hHeld.2.2.2.2.2.2.2.2.2.2.1);have HS11_:=zh_ hb (hHeld.2.2.2.2.2.2.2.2.2.2.2.1);refine ⟨_,rfl, ?_⟩;replace HO_11:=ob_ HO_11 hb;replace HO_12:=ob_ HO_12 hb;replace HO_13:=ob_ HO_13 hb;replace BK1:=bb_ BK1 hb;replace HB:=am_ (below_step (zl1_ HB GE1) hb);(try clear hb);have p47:0≤(t33:Int):=of_decide_eq_true zq_;have q47:(t33:Int)<((x12_2.length:Int):Int):=of_decide_eq_true zq_;obtain ⟨go47,co47,eo47,gb47,gl47,cl47,HG47⟩:=Kd.R_form HO_12.out (by omega);(first|cases eo47|(injection eo47 with ea_ en_ ec_;(first|subst ea_|(injection ea_ with ea_;subst ea_));subst ec_;clear en_));have GB47:=Aside0.mk gb47;have GG47:=Aside0.mk HG47;clear gb47 gl47 HG47;replace hx34_0:=zv_ hx34_0;replace hx34_1:=zv_ hx34_1;replace hx34_2:=zv_ hx34_2;replace hx34_3:=zv_ hx34_3;replace hx34_4:=zv_ hx34_4;replace hx34_5:=zv_ hx34_5;replace hx34_6:=zv_ hx34_6;replace hx34_7:=zv_ hx34_7;replace hx34_8:=zv_ hx34_8;replace hx34_9:=zv_ hx34_9;replace hx34_10:=zv_ hx34_10;replace hx34_11:=zv_ hx34_11;obtain ⟨ce47,hcl47,hM47,hcc47,hfr47⟩:=Kd.R_elem HO_12.out z79 (t33:Int) p47 q47
      obtain rfl:=k79_openM hM47;obtain ⟨hx47_0,hx47_1,hx47_2,hx47_3,hx47_4,hx47_5,hx47_6,hx47_7,hx47_8,hx47_9,hx47_10,hx47_11⟩:=rc12_ (m:=(t33:Int).toNat*12) hcc47;obtain ⟨hf47_0,hf47_1,hf47_2,hf47_3,hf47_4,hf47_5,hf47_6,hf47_7,hf47_8,hf47_9,hf47_10,hf47_11⟩:=rg12_ (m:=(t33:Int).toNat*12) hfr47;clear hcl47 hcc47 hfr47 hM47;replace p47:=eq_true p47;replace q47:=eq_true q47;obtain ⟨ce52,hcl52,hM52,hcc52,hfr52⟩:=Kd.R_elem HO_12.out z79 (t33:Int) (of_decide_eq_true zq_) (by have h_:(t33:Int)<((x12_2.length:Int):Int):=of_decide_eq_true zq_;first|exact h_|(have e_:=(Kd.R_reads' HO_12.out).1;omega)|simpa using h_);obtain rfl:=k79_openM hM52
      have HP52:=(Kd.R_seg HO_12.out (t33:Int) (of_decide_eq_true zq_) (by have h_:(t33:Int)<((x12_2.length:Int):Int):=of_decide_eq_true zq_;first|exact h_|(have e_:=(Kd.R_reads' HO_12.out).1;omega)|simpa using h_) (seg:=[.int .i64 t36, .int .i64 t37, .int .i64 t38]) (j:=8) hcl52 hcc52 (show 11≤12 from by decide) (x':=(⟨(rd_T79 x12_2 t33).f0,(rd_T79 x12_2 t33).f1,(⟨(rd_T79 x12_2 t33).f2.f0,(rd_T79 x12_2 t33).f2.f1,(rd_T79 x12_2 t33).f2.f2⟩:S37),(⟨(rd_T79 x12_2 t33).f3.f0,(rd_T79 x12_2 t33).f3.f1,(rd_T79 x12_2 t33).f3.f2⟩:S37),(⟨t36,t37,t38⟩:S37),(rd_T79 x12_2 t33).f5⟩:S79)) (k79_mkM _ _ _ (⟨(rd_T79 x12_2 t33).f0,(rd_T79 x12_2 t33).f1,(⟨(rd_T79 x12_2 t33).f2.f0,(rd_T79 x12_2 t33).f2.f1,(rd_T79 x12_2 t33).f2.f2⟩:S37),(⟨(rd_T79 x12_2 t33).f3.f0,(rd_T79 x12_2 t33).f3.f1,(rd_T79 x12_2 t33).f3.f2⟩:S37),(⟨t36,t37,t38⟩:S37),(rd_T79 x12_2 t33).f5⟩:S79)) (fun _ hk=>hk)).1;rw [←Ny39.out] at HP52;have HQ52:=Aside0.mk HP52;clear hcl52 hcc52 hfr52 hM52 HP52;refine hK.out _ _ ⟨HS0_,HS1_,HS2_,HS3_,HS4_,HS5_,HS6_,HS7_,HS8_,HS9_,HS10_,HS11_,(zx_ HB hw35_0:),(zx_ HB hw35_1:),(zx_ HB hw35_2:),(zx_ HB hw35_3:),(zx_ HB hw35_4:),(zx_ HB hw35_5:),(zx_ HB hw35_6:),(zx_ HB hw35_7:),(zx_ HB hw35_8:),(zx_ HB hw35_9:),(zx_ HB hw35_10:),(zx_ HB hw35_11:)⟩ (fun hHeld=> ?_);clear hK K;refine no_ (N:=some 87) ?_;refine ru_ 13 HT_ ?_;refine ru_ 14 HT_ ?_;refine last_ (i:=15) (N:=none) (bt_ 16 65535) rfl rfl (one_of HT_.out (by kernel_rfl)) (by decide) (fun K hK=> ?_);refine skip_ (w1:= ?_) (by rfl) rfl ?_ ?_
      rotate_left
      ·go_simp
       rfl
      refine hK.out _ _ ?_;clear hK K;refine done_ (done_of HT_.out (by kernel_rfl)) ?_;try go_wp2
      go_roundg k2
      case measure=>have:=HJ8.out;have:=HK2.out;omega
      case rel=>exact ⟨(y39),(wrap64 (x14_2+1)),rf_,H',⟨by have:=HJ8.out;have:=HK2.out;omega⟩,⟨by (with_reducible repeat (first|apply Kd.R_alloc|apply Kd.R_drewN|apply Kd.R_drew));exact Kd.R_mono (Kd.R_far (p:=⟨go47,(t33:Int).toNat*12+10,none⟩) (Kd.R_far (p:=⟨go47,(t33:Int).toNat*12+9,none⟩) (Kd.R_far (p:=⟨go47,(t33:Int).toNat*12+8,none⟩) (Kd.R_types HO_11.out GG47.out (by decide)) (fun _ hk=>hk.2) (.int .i64 t36)) (fun _ hk=>hk.2) (.int .i64 t37)) (fun _ hk=>hk.2) (.int .i64 t38)) (fun _ hk=>hk.1)⟩,am_ (zr_ HQ52),⟨by (with_reducible repeat (first|apply Kd.R_alloc|apply Kd.R_drewN|apply Kd.R_drew));exact Kd.R_mono (Kd.R_far (p:=⟨go47,(t33:Int).toNat*12+10,none⟩) (Kd.R_far (p:=⟨go47,(t33:Int).toNat*12+9,none⟩) (Kd.R_far (p:=⟨go47,(t33:Int).toNat*12+8,none⟩) (Kd.R_types HO_13.out GG47.out (by decide)) (fun _ hk=>hk.2) (.int .i64 t36)) (fun _ hk=>hk.2) (.int .i64 t37)) (fun _ hk=>hk.2) (.int .i64 t38)) (fun _ hk=>hk.1)⟩,⟨by refine zk_ ?_;refine blk_far ?_ (by have h_:=Kd.R_ne HO_12.out BK1.out (by decide);intro e_;exact h_ (by rw [e_];rfl)) _;refine zk_ ?_;refine blk_far ?_ (by have h_:=Kd.R_ne HO_12.out BK1.out (by decide);intro e_;exact h_ (by rw [e_];rfl)) _;refine zk_ ?_;refine blk_far ?_ (by have h_:=Kd.R_ne HO_12.out BK1.out (by decide);intro e_;exact h_ (by rw [e_];rfl)) _;refine zk_ ?_;exact BK1.out⟩,⟨zl4_ HB GB47 GB47 GB47 GE1⟩⟩
     rw [if_neg c39] at H;have c39b0:=decide_eq_false c39;clear c39;have H':=Aside0.mk H;clear H;obtain ⟨Ao53,co53,eo53⟩:=Kd.R_slice HO_13.out;subst eo53;go_wp2
     go_loopg [16] k2 (fun kq v16 w'=> ∃(x12_3:List (S79)) (x16_3:Int) (x2001_3:Int),v16= .int .i64 x16_3∧Aside0 (r10_Move.l1 kq l0 a2 t7 t8 x12_3 x16_3=some (r1,r2))∧Aside0 (kq≤k2)∧Aside0 (Kd.R Kd.string 9 w' w.heap.size (fun _=>True) (.slice Ao36 t8.length co36) t8)∧Aside0 (Kd.R k79 79 w' w.heap.size (fun _=>True) v26 x12_3)∧Aside0 (w'.heap[gb1]?=some (.cells #[(.slice none 0 0), .int .i64 x2001_3] 73 (0,0)))∧Aside0 (Below w.heap.size w w'))
     case atStart=>exact ⟨(x12_2),(0),(0),rf_,H',⟨Nat.le_refl _⟩,⟨by (with_reducible repeat (first|apply Kd.R_alloc|apply Kd.R_drewN|apply Kd.R_drew));exact Kd.R_mono HO_11.out (fun _ hk=>trivial)⟩,am_ (zr_ HO_12),am_ (zb_ BK1),⟨zl1_ HB GE1⟩⟩
     case round=>
      clear H';obtain ⟨x12_3,x16_3,x2001_3,rfl,HA,HK3,HO_11,HO_12,BK1,HB⟩:=hrel
      cases gk with
      |zero=>exact absurd HA.out (by simp [r10_Move.l1])
      |succ k3=>
       have H:=HA.out;clear HA;simp only [r10_Move.l1] at H;by_cases c54:x16_3<(t8.length:Int);rotate_left
       ·rw [if_neg c54] at H;have c54b0:=decide_eq_false c54;clear c54;replace H:=zif_ H;obtain ⟨c83,H⟩:=H;have c83b0:=decide_eq_true c83;clear c83;replace H:=zif_ H;obtain ⟨c84,H⟩:=H;have c84b0:=decide_eq_true c84;clear c84;obtain ⟨y40,hy40⟩: ∃y_:List (S79),y_=(x12_3.set (t7:Int).toNat (⟨(rd_T79 x12_3 t7).f0,a2,(⟨(rd_T79 x12_3 t7).f2.f0,(rd_T79 x12_3 t7).f2.f1,(rd_T79 x12_3 t7).f2.f2⟩:S37),(⟨(rd_T79 x12_3 t7).f3.f0,(rd_T79 x12_3 t7).f3.f1,(rd_T79 x12_3 t7).f3.f2⟩:S37),(⟨(rd_T79 x12_3 t7).f4.f0,(rd_T79 x12_3 t7).f4.f1,(rd_T79 x12_3 t7).f4.f2⟩:S37),(rd_T79 x12_3 t7).f5⟩:S79)):=⟨_,rfl⟩;(first|replace H:=zsb_ hy40 H|rw [←hy40] at H);have Ny40:=Aside0.mk hy40;clear hy40;obtain ⟨y42,hy42⟩: ∃y_:List (S79),y_=(y40.set (t7:Int).toNat (⟨(rd_T79 y40 t7).f0,(rd_T79 y40 t7).f1,(⟨(rd_T79 y40 t7).f2.f0,(rd_T79 y40 t7).f2.f1,(rd_T79 y40 t7).f2.f2⟩:S37),(⟨(rd_T79 y40 t7).f3.f0,(rd_T79 y40 t7).f3.f1,(rd_T79 y40 t7).f3.f2⟩:S37),(⟨(rd_T79 y40 t7).f4.f0,(rd_T79 y40 t7).f4.f1,(rd_T79 y40 t7).f4.f2⟩:S37),wrap64 (((rd_T79 y40 t7).f5)+1)⟩:S79)):=⟨_,rfl⟩;(first|replace H:=zsb_ hy42 H|rw [←hy42] at H);have Ny42:=Aside0.mk hy42;clear hy42;simp only [Option.some.injEq,Prod.mk.injEq] at H;obtain ⟨rfl,rfl⟩:=H;have p85:0≤(t7:Int):=of_decide_eq_true zq_;have q85:(t7:Int)<((x12_3.length:Int):Int):=of_decide_eq_true zq_;obtain ⟨go85,co85,eo85,gb85,gl85,cl85,HG85⟩:=Kd.R_form HO_12.out (by omega)
        (first|cases eo85|(injection eo85 with ea_ en_ ec_;(first|subst ea_|(injection ea_ with ea_;subst ea_));subst ec_;clear en_));have GB85:=Aside0.mk gb85;have GG85:=Aside0.mk HG85;clear gb85 gl85 HG85;obtain ⟨ce85,hcl85,hM85,hcc85,hfr85⟩:=Kd.R_elem HO_12.out z79 (t7:Int) p85 q85;obtain rfl:=k79_openM hM85;obtain ⟨hx85_0,hx85_1,hx85_2,hx85_3,hx85_4,hx85_5,hx85_6,hx85_7,hx85_8,hx85_9,hx85_10,hx85_11⟩:=rc12_ (m:=(t7:Int).toNat*12) hcc85;obtain ⟨hf85_0,hf85_1,hf85_2,hf85_3,hf85_4,hf85_5,hf85_6,hf85_7,hf85_8,hf85_9,hf85_10,hf85_11⟩:=rg12_ (m:=(t7:Int).toNat*12) hfr85;clear hcl85 hcc85 hfr85 hM85;replace p85:=eq_true p85;replace q85:=eq_true q85;have HX87:=am_ (show Kd.R k79 79 wr w.heap.size (fun _=>True) (.slice (some ⟨go85,0,none⟩) x12_3.length co85) x12_3 from (zr_ HO_12));obtain ⟨ce87,hcl87,hM87,hcc87,hfr87⟩:=Kd.R_elem HX87.out z79 (t7:Int) (of_decide_eq_true zq_) (by have h_:(t7:Int)<((x12_3.length:Int):Int):=of_decide_eq_true zq_;first|exact h_|(have e_:=(Kd.R_reads' HO_12.out).1;omega)|simpa using h_);obtain rfl:=k79_openM hM87
        have HP87:=Kd.R_seg HX87.out (t7:Int) (of_decide_eq_true zq_) (by have h_:(t7:Int)<((x12_3.length:Int):Int):=of_decide_eq_true zq_;first|exact h_|(have e_:=(Kd.R_reads' HO_12.out).1;omega)|simpa using h_) (seg:=[.string a2]) (j:=1) hcl87 hcc87 (show 2≤12 from by decide) (x':=(⟨(rd_T79 x12_3 t7).f0,a2,(⟨(rd_T79 x12_3 t7).f2.f0,(rd_T79 x12_3 t7).f2.f1,(rd_T79 x12_3 t7).f2.f2⟩:S37),(⟨(rd_T79 x12_3 t7).f3.f0,(rd_T79 x12_3 t7).f3.f1,(rd_T79 x12_3 t7).f3.f2⟩:S37),(⟨(rd_T79 x12_3 t7).f4.f0,(rd_T79 x12_3 t7).f4.f1,(rd_T79 x12_3 t7).f4.f2⟩:S37),(rd_T79 x12_3 t7).f5⟩:S79)) (k79_mkM _ _ _ (⟨(rd_T79 x12_3 t7).f0,a2,(⟨(rd_T79 x12_3 t7).f2.f0,(rd_T79 x12_3 t7).f2.f1,(rd_T79 x12_3 t7).f2.f2⟩:S37),(⟨(rd_T79 x12_3 t7).f3.f0,(rd_T79 x12_3 t7).f3.f1,(rd_T79 x12_3 t7).f3.f2⟩:S37),(⟨(rd_T79 x12_3 t7).f4.f0,(rd_T79 x12_3 t7).f4.f1,(rd_T79 x12_3 t7).f4.f2⟩:S37),(rd_T79 x12_3 t7).f5⟩:S79)) (fun _ hk=>hk);have hx87_1:=hcc87 1 _ rfl;(try simp only [show (k79).sz=12 from rfl,Nat.mul_one,Nat.add_zero] at hx87_1);have hf87_1:=hfr87 1;(try simp only [show (k79).sz=12 from rfl,Nat.mul_one,Nat.add_zero] at hf87_1);clear hcl87 hcc87 hfr87 hM87
        go_wp2_with (first|((with_reducible refine gate_store (t:=9) (p:=134) rfl ?_);refine store_event (t:=9) (p:=134) (v:= ?vo_w88) (w1:=(wr.setCell ⟨go85,(t7:Int).toNat*12+1,none⟩ (.string a2))) ?hg ?ho ?hn ?hr ?_;(case ho=>rfl);(case hg=>rfl);(case hn=>rfl);(case hr=>first|(go_simp;done)|(go_simp;rfl));intro w88 hw;have hg:wr.grownBy w88 (some go85):=(by rw [hw];exact HP87.2);have hp_:Kd.R k79 79 w88 w.heap.size (fun _=>True) (.slice (some ⟨go85,0,none⟩) x12_3.length co85) y40:=(by rw [hw,Ny40.out];exact HP87.1);clear HP87;replace HO_11:=am_ (Kd.R_over' (v:=(.slice (some ⟨go85,0,none⟩) x12_3.length co85)) (zr_ HO_11) (Kd.R_typed HO_12.out) (by decide) hg);replace BK1:=am_ (blk_grown (zb_ BK1) hg (Kd.R_ne HO_12.out BK1.out (by decide)));replace HO_12:=am_ (hp_);replace HB:=am_ ((by rw [hw];exact below_set (HB.out) GB85.out:Below w.heap.size w w88));clear hg hw hp_;have p41:0≤(t7:Int):=of_decide_eq_true zq_;have q41:t7<(y40.length:Int):=(by have h_:(t7:Int)<((x12_3.length:Int):Int):=of_decide_eq_true zq_;first|(have e_:=(Kd.R_reads' HO_12.out).1;omega)|simpa only [Ny40.out,List.length_set] using h_);have ql41:((t7:Int)<((x12_3.length:Int):Int))=True:=eq_true (of_decide_eq_true zq_);obtain ⟨ad41,e41,hx41_0,hx41_1,hx41_2,hx41_3,hx41_4,hx41_5,hx41_6,hx41_7,hx41_8,hx41_9,hx41_10,hx41_11⟩:=at_T79 (Kd.R_reads' HO_12.out).2.2 t7 p41 q41;obtain rfl:(⟨go85,0,none⟩:Addr)=ad41:=(by injection e41);replace hx41_0:=za_ hx41_0;replace hx41_1:=za_ hx41_1;replace hx41_2:=za_ hx41_2;replace hx41_3:=za_ hx41_3;replace hx41_4:=za_ hx41_4;replace hx41_5:=za_ hx41_5;replace hx41_6:=za_ hx41_6;replace hx41_7:=za_ hx41_7;replace hx41_8:=za_ hx41_8;replace hx41_9:=za_ hx41_9;replace hx41_10:=za_ hx41_10;replace hx41_11:=za_ hx41_11;replace p41:=eq_true p41;replace q41:=eq_true q41;have p86:0≤(t7:Int):=of_decide_eq_true zq_;have q86:(t7:Int)<((x12_3.length:Int):Int):=of_decide_eq_true zq_;obtain ⟨ce86,hcl86,hM86,hcc86,hfr86⟩:=Kd.R_elem HO_12.out z79 (t7:Int) p86 q86;obtain rfl:=k79_openM hM86;obtain ⟨hx86_0,hx86_1,hx86_2,hx86_3,hx86_4,hx86_5,hx86_6,hx86_7,hx86_8,hx86_9,hx86_10,hx86_11⟩:=rc12_ (m:=(t7:Int).toNat*12) hcc86;obtain ⟨hf86_0,hf86_1,hf86_2,hf86_3,hf86_4,hf86_5,hf86_6,hf86_7,hf86_8,hf86_9,hf86_10,hf86_11⟩:=rg12_ (m:=(t7:Int).toNat*12) hfr86;clear hcl86 hcc86 hfr86 hM86;replace p86:=eq_true p86;replace q86:=eq_true q86;have HX89:=am_ (show Kd.R k79 79 w88 w.heap.size (fun _=>True) (.slice (some ⟨go85,0,none⟩) x12_3.length co85) y40 from (zr_ HO_12));obtain ⟨ce89,hcl89,hM89,hcc89,hfr89⟩:=Kd.R_elem HX89.out z79 (t7:Int) (of_decide_eq_true zq_) (by have h_:(t7:Int)<((x12_3.length:Int):Int):=of_decide_eq_true zq_;first|exact h_|(have e_:=(Kd.R_reads' HO_12.out).1;omega)|simpa using h_);obtain rfl:=k79_openM hM89;have HP89:=Kd.R_seg HX89.out (t7:Int) (of_decide_eq_true zq_) (by have h_:(t7:Int)<((x12_3.length:Int):Int):=of_decide_eq_true zq_;first|exact h_|(have e_:=(Kd.R_reads' HO_12.out).1;omega)|simpa using h_) (seg:=[.int .i64 (wrap64 (((rd_T79 y40 t7).f5)+1))]) (j:=11) hcl89 hcc89 (show 12≤12 from by decide) (x':=(⟨(rd_T79 y40 t7).f0,(rd_T79 y40 t7).f1,(⟨(rd_T79 y40 t7).f2.f0,(rd_T79 y40 t7).f2.f1,(rd_T79 y40 t7).f2.f2⟩:S37),(⟨(rd_T79 y40 t7).f3.f0,(rd_T79 y40 t7).f3.f1,(rd_T79 y40 t7).f3.f2⟩:S37),(⟨(rd_T79 y40 t7).f4.f0,(rd_T79 y40 t7).f4.f1,(rd_T79 y40 t7).f4.f2⟩:S37),wrap64 (((rd_T79 y40 t7).f5)+1)⟩:S79)) (k79_mkM _ _ _ (⟨(rd_T79 y40 t7).f0,(rd_T79 y40 t7).f1,(⟨(rd_T79 y40 t7).f2.f0,(rd_T79 y40 t7).f2.f1,(rd_T79 y40 t7).f2.f2⟩:S37),(⟨(rd_T79 y40 t7).f3.f0,(rd_T79 y40 t7).f3.f1,(rd_T79 y40 t7).f3.f2⟩:S37),(⟨(rd_T79 y40 t7).f4.f0,(rd_T79 y40 t7).f4.f1,(rd_T79 y40 t7).f4.f2⟩:S37),wrap64 (((rd_T79 y40 t7).f5)+1)⟩:S79)) (fun _ hk=>hk);have hx89_11:=hcc89 11 _ rfl;(try simp only [show (k79).sz=12 from rfl,Nat.mul_one,Nat.add_zero] at hx89_11);have hf89_11:=hfr89 11;(try simp only [show (k79).sz=12 from rfl,Nat.mul_one,Nat.add_zero] at hf89_11);clear hcl89 hcc89 hfr89 hM89)|((with_reducible refine gate_store (t:=3) (p:=142) rfl ?_);refine store_event (t:=3) (p:=142) (v:= ?vo_w90) (w1:=(w88.setCell ⟨go85,(t7:Int).toNat*12+11,none⟩ (.int .i64 (wrap64 (((rd_T79 y40 t7).f5)+1))))) ?hg ?ho ?hn ?hr ?_;(case ho=>rfl);(case hg=>rfl);(case hn=>rfl);(case hr=>first|(go_simp;done)|(go_simp;rfl));intro w90 hw;have hg:w88.grownBy w90 (some go85):=(by rw [hw];exact HP89.2);have hp_:Kd.R k79 79 w90 w.heap.size (fun _=>True) (.slice (some ⟨go85,0,none⟩) x12_3.length co85) y42:=(by rw [hw,Ny42.out];exact HP89.1);clear HP89;replace HO_11:=am_ (Kd.R_over' (v:=(.slice (some ⟨go85,0,none⟩) x12_3.length co85)) (zr_ HO_11) (Kd.R_typed HO_12.out) (by decide) hg);replace BK1:=am_ (blk_grown (zb_ BK1) hg (Kd.R_ne HO_12.out BK1.out (by decide)));replace HO_12:=am_ (hp_);replace HB:=am_ ((by rw [hw];exact below_set (HB.out) GB85.out:Below w.heap.size w w90));clear hg hw hp_;obtain ⟨hcz91_0,hcz91_1⟩:=x2_ BK1;have hfz91_0:=blk_frozen BK1.out 0;have hfz91_1:=blk_frozen BK1.out 1))
        refine bodyPost_ret (results_cell_row rfl _ _ gb1 73 #[.slice (some ⟨go85,0,none⟩) x12_3.length co85, .int .i64 0] (0,0) _ rfl (zw_ BK1) Try.underlying73 rfl (by kernel_rfl)) rfl ?_;exact ⟨_,by first|rfl|(simp [errW_none,errW_some]<;>rfl)|(simp [*,errW_none,errW_some]<;>rfl),zy_ HO_12 BK1,zl1_ HB GE1⟩
       rw [if_pos c54] at H;have c54b0:=decide_eq_true c54;clear c54;replace H:=zif_ H;obtain ⟨c55,H⟩:=H;have c55b0:=decide_eq_true c55;clear c55;replace H:=zbd_ H;obtain ⟨t44,A56,H⟩:=H;try dsimp only at H
       replace H:=zif_ H;obtain ⟨c57,H⟩:=H;have c57b0:=decide_eq_true c57;clear c57;replace H:=zif_ H;obtain ⟨c58,H⟩:=H;have c58b0:=decide_eq_true c58;clear c58;replace H:=zif_ H;obtain ⟨c59,H⟩:=H;have c59b0:=decide_eq_true c59;clear c59;replace H:=zif_ H;obtain ⟨c60,H⟩:=H;have c60b0:=decide_eq_true c60;clear c60;replace H:=zbd_ H;obtain ⟨⟨t47,t48,t49⟩,A61,H⟩:=H;try dsimp only at H
       obtain ⟨y50,hy50⟩: ∃y_:List (S79),y_=(x12_3.set (t44:Int).toNat (⟨(rd_T79 x12_3 t44).f0,(rd_T79 x12_3 t44).f1,(⟨(rd_T79 x12_3 t44).f2.f0,(rd_T79 x12_3 t44).f2.f1,(rd_T79 x12_3 t44).f2.f2⟩:S37),(⟨(rd_T79 x12_3 t44).f3.f0,(rd_T79 x12_3 t44).f3.f1,(rd_T79 x12_3 t44).f3.f2⟩:S37),(⟨t47,t48,t49⟩:S37),(rd_T79 x12_3 t44).f5⟩:S79)):=⟨_,rfl⟩;(first|replace H:=zsb_ hy50 H|rw [←hy50] at H);have Ny50:=Aside0.mk hy50;clear hy50;replace H:=zbd_ H;obtain ⟨t53,A63,H⟩:=H;try dsimp only at H
       by_cases c64:t53=true
       ·subst c64;rw [if_pos rfl] at H;have H':=Aside0.mk H;clear H;obtain ⟨p43,q43,ad43,e43,hx43_0⟩:=zat_ (Kd.at_string (Kd.R_reads' HO_11.out).2.2 x16_3);cases e43;obtain ⟨Ao65,co65,eo65⟩:=Kd.R_slice HO_12.out;subst eo65;try go_wp2_with (first|((with_reducible refine gate_callee (f:=52) rfl ?_);refine gl_ (some 101) Try.func52 #[.slice Ao65 x12_3.length co65, .string (rdOf ByteArray.empty t8 x16_3)] ?_;(with_reducible refine (r10_Find.calls k3 _ _ x12_3 (rdOf ByteArray.empty t8 x16_3) t44 _ ?side1 ?side2 A56.out).mono ?_);(case side1=>exact zc_ (Kd.R_reads' HO_12.out).2.2);(case side2=>exact (Kd.R_reads' HO_12.out).2.1);rintro e w' ⟨rfl,⟨nd,rfl⟩⟩;refine ⟨_,rfl, ?_⟩;(try (rw [drewN_self wr];generalize hq_:World.drewN wr _=wr;replace HO_11:=am_ (qr_ hq_ HO_11.out);replace HO_12:=am_ (qr_ hq_ HO_12.out);replace BK1:=am_ (qb_ hq_ BK1.out);replace HB:=am_ (ql_ hq_ HB.out);clear hq_))))
        replace HO_11:=am_ (Kd.R_drew HO_11.out);replace HO_12:=am_ (Kd.R_drew HO_12.out);replace BK1:=am_ (blk_drew BK1.out);replace HB:=am_ (below_drew1 HB.out);obtain ⟨p45,q45,ad45,e45,hx45_0,hx45_1,hx45_2,hx45_3,hx45_4,hx45_5,hx45_6,hx45_7,hx45_8,hx45_9,hx45_10,hx45_11⟩:=zat_ (at_T79 (Kd.R_reads' HO_12.out).2.2 t44);cases e45;have p46:0≤(t7:Int):=of_decide_eq_true zq_;have q46:t7<(l0.length:Int):=of_decide_eq_true zq_;obtain ⟨ad46,e46,hx46_0,hx46_1,hx46_2,hx46_3,hx46_4,hx46_5,hx46_6,hx46_7,hx46_8,hx46_9,hx46_10,hx46_11⟩:=at_T79 HR0.out t7 p46 q46;have hw46_11:=hx46_11;have hw46_10:=hx46_10;have hw46_9:=hx46_9;have hw46_8:=hx46_8;have hw46_7:=hx46_7;have hw46_6:=hx46_6;have hw46_5:=hx46_5;have hw46_4:=hx46_4;have hw46_3:=hx46_3;have hw46_2:=hx46_2;have hw46_1:=hx46_1;have hw46_0:=hx46_0;obtain rfl:ad20=ad46:=(by injection e46);replace hx46_0:=zx12_ HB hx46_0 hx46_1 hx46_2 hx46_3 hx46_4 hx46_5 hx46_6 hx46_7 hx46_8 hx46_9 hx46_10 hx46_11;clear hx46_1 hx46_2 hx46_3 hx46_4 hx46_5 hx46_6 hx46_7 hx46_8 hx46_9 hx46_10 hx46_11;obtain ⟨hx46_0,hx46_1,hx46_2,hx46_3,hx46_4,hx46_5,hx46_6,hx46_7,hx46_8,hx46_9,hx46_10,hx46_11⟩:=hx46_0;replace p46:=eq_true p46;replace q46:=eq_true q46
        refine start_ (n:=16) (S:=fun w'=>w'.cell? (ad45.add ((t44).toNat*12))=some (.string ((rd_T79 x12_3 t44).f0))∧w'.cell? ⟨(ad45.add ((t44).toNat*12)).block,(ad45.add ((t44).toNat*12)).off+1,none⟩=some (.string ((rd_T79 x12_3 t44).f1))∧w'.cell? ⟨(ad45.add ((t44).toNat*12)).block,(ad45.add ((t44).toNat*12)).off+2,none⟩=some (.int .i64 ((rd_T79 x12_3 t44).f2.f0))∧w'.cell? ⟨(ad45.add ((t44).toNat*12)).block,(ad45.add ((t44).toNat*12)).off+3,none⟩=some (.int .i64 ((rd_T79 x12_3 t44).f2.f1))∧w'.cell? ⟨(ad45.add ((t44).toNat*12)).block,(ad45.add ((t44).toNat*12)).off+4,none⟩=some (.int .i64 ((rd_T79 x12_3 t44).f2.f2))∧w'.cell? ⟨(ad45.add ((t44).toNat*12)).block,(ad45.add ((t44).toNat*12)).off+5,none⟩=some (.int .i64 ((rd_T79 x12_3 t44).f3.f0))∧w'.cell? ⟨(ad45.add ((t44).toNat*12)).block,(ad45.add ((t44).toNat*12)).off+6,none⟩=some (.int .i64 ((rd_T79 x12_3 t44).f3.f1))∧w'.cell? ⟨(ad45.add ((t44).toNat*12)).block,(ad45.add ((t44).toNat*12)).off+7,none⟩=some (.int .i64 ((rd_T79 x12_3 t44).f3.f2))∧w'.cell? ⟨(ad45.add ((t44).toNat*12)).block,(ad45.add ((t44).toNat*12)).off+8,none⟩=some (.int .i64 ((rd_T79 x12_3 t44).f4.f0))∧w'.cell? ⟨(ad45.add ((t44).toNat*12)).block,(ad45.add ((t44).toNat*12)).off+9,none⟩=some (.int .i64 ((rd_T79 x12_3 t44).f4.f1))∧w'.cell? ⟨(ad45.add ((t44).toNat*12)).block,(ad45.add ((t44).toNat*12)).off+10,none⟩=some (.int .i64 ((rd_T79 x12_3 t44).f4.f2))∧w'.cell? ⟨(ad45.add ((t44).toNat*12)).block,(ad45.add ((t44).toNat*12)).off+11,none⟩=some (.int .i64 ((rd_T79 x12_3 t44).f5))∧w'.cell? (ad20.add ((t7).toNat*12))=some (.string ((rd_T79 l0 t7).f0))∧w'.cell? ⟨(ad20.add ((t7).toNat*12)).block,(ad20.add ((t7).toNat*12)).off+1,none⟩=some (.string ((rd_T79 l0 t7).f1))∧w'.cell? ⟨(ad20.add ((t7).toNat*12)).block,(ad20.add ((t7).toNat*12)).off+2,none⟩=some (.int .i64 ((rd_T79 l0 t7).f2.f0))∧w'.cell? ⟨(ad20.add ((t7).toNat*12)).block,(ad20.add ((t7).toNat*12)).off+3,none⟩=some (.int .i64 ((rd_T79 l0 t7).f2.f1))∧w'.cell? ⟨(ad20.add ((t7).toNat*12)).block,(ad20.add ((t7).toNat*12)).off+4,none⟩=some (.int .i64 ((rd_T79 l0 t7).f2.f2))∧w'.cell? ⟨(ad20.add ((t7).toNat*12)).block,(ad20.add ((t7).toNat*12)).off+5,none⟩=some (.int .i64 ((rd_T79 l0 t7).f3.f0))∧w'.cell? ⟨(ad20.add ((t7).toNat*12)).block,(ad20.add ((t7).toNat*12)).off+6,none⟩=some (.int .i64 ((rd_T79 l0 t7).f3.f1))∧w'.cell? ⟨(ad20.add ((t7).toNat*12)).block,(ad20.add ((t7).toNat*12)).off+7,none⟩=some (.int .i64 ((rd_T79 l0 t7).f3.f2))∧w'.cell? ⟨(ad20.add ((t7).toNat*12)).block,(ad20.add ((t7).toNat*12)).off+8,none⟩=some (.int .i64 ((rd_T79 l0 t7).f4.f0))∧w'.cell? ⟨(ad20.add ((t7).toNat*12)).block,(ad20.add ((t7).toNat*12)).off+9,none⟩=some (.int .i64 ((rd_T79 l0 t7).f4.f1))∧w'.cell? ⟨(ad20.add ((t7).toNat*12)).block,(ad20.add ((t7).toNat*12)).off+10,none⟩=some (.int .i64 ((rd_T79 l0 t7).f4.f2))∧w'.cell? ⟨(ad20.add ((t7).toNat*12)).block,(ad20.add ((t7).toNat*12)).off+11,none⟩=some (.int .i64 ((rd_T79 l0 t7).f5))) (ds:=[15]) (bt_ 16 0) (by kernel_rfl) rfl rfl ⟨hx45_0,hx45_1,hx45_2,hx45_3,hx45_4,hx45_5,hx45_6,hx45_7,hx45_8,hx45_9,hx45_10,hx45_11,(zx_ HB hw46_0:),(zx_ HB hw46_1:),(zx_ HB hw46_2:),(zx_ HB hw46_3:),(zx_ HB hw46_4:),(zx_ HB hw46_5:),(zx_ HB hw46_6:),(zx_ HB hw46_7:),(zx_ HB hw46_8:),(zx_ HB hw46_9:),(zx_ HB hw46_10:),(zx_ HB hw46_11:)⟩ (fun hHeld=> ?_);refine with_tabW r10_Move.tab23 r10_Move.bits23 (fun HT_ HW_=> ?_)
        generalize wr.drew=w66 at HO_11 HO_12 BK1 HB hx45_0 hx45_1 hx45_10 hx45_11 hx45_2 hx45_3 hx45_4 hx45_5 hx45_6 hx45_7 hx45_8 hx45_9 hx46_0 hx46_1 hx46_10 hx46_11 hx46_2 hx46_3 hx46_4 hx46_5 hx46_6 hx46_7 hx46_8 hx46_9 hHeld ⊢;refine ru_ 0 HT_ ?_;refine ru_ 1 HT_ ?_;refine ru_ 2 HT_ ?_;refine ru_ 3 HT_ ?_;refine ru_ 4 HT_ ?_;refine ru_ 5 HT_ ?_;refine ru_ 7 HT_ ?_;refine ru_ 8 HT_ ?_;refine ru_ 9 HT_ ?_;refine ru_ 10 HT_ ?_;refine rk_ 6 HT_ HW_ hHeld ?_;refine rk_ 11 HT_ HW_ hHeld ?_;refine on_ (i:=12) (N:=some 114) (bt_ 16 8191) HT_ (fun K hK=> ?_);refine gs_ Try.func70 #[.agg #[.int .i64 ((rd_T79 x12_3 t44).f4.f0), .int .i64 ((rd_T79 x12_3 t44).f4.f1), .int .i64 ((rd_T79 x12_3 t44).f4.f2)], .agg #[.int .i64 ((rd_T79 l0 t7).f4.f0), .int .i64 ((rd_T79 l0 t7).f4.f1), .int .i64 ((rd_T79 l0 t7).f4.f2)]] ?_
        with_reducible refine (r10_Add.calls ((rd_T79 x12_3 t44).f4.f0) ((rd_T79 x12_3 t44).f4.f1) ((rd_T79 x12_3 t44).f4.f2) ((rd_T79 l0 t7).f4.f0) ((rd_T79 l0 t7).f4.f1) ((rd_T79 l0 t7).f4.f2) t47 t48 t49 _ A61.out).mono ?_
        rintro e w67 ⟨rfl,hb⟩;have HS0_:=zh_ hb (hHeld.1);have HS1_:=zh_ hb (hHeld.2.1);have HS2_:=zh_ hb (hHeld.2.2.1);have HS3_:=zh_ hb (hHeld.2.2.2.1);have HS4_:=zh_ hb (hHeld.2.2.2.2.1);have HS5_:=zh_ hb (hHeld.2.2.2.2.2.1);have HS6_:=zh_ hb (hHeld.2.2.2.2.2.2.1);have HS7_:=zh_ hb (hHeld.2.2.2.2.2.2.2.1);have HS8_:=zh_ hb (hHeld.2.2.2.2.2.2.2.2.1);have HS9_:=zh_ hb (hHeld.2.2.2.2.2.2.2.2.2.1);have HS10_:=zh_ hb (hHeld.2.2.2.2.2.2.2.2.2.2.1);have HS11_:=zh_ hb (hHeld.2.2.2.2.2.2.2.2.2.2.2.1);refine ⟨_,rfl, ?_⟩;replace HO_11:=ob_ HO_11 hb;replace HO_12:=ob_ HO_12 hb;replace BK1:=bb_ BK1 hb;replace HB:=am_ (below_step (zl1_ HB GE1) hb);(try clear hb);have p62:0≤(t44:Int):=of_decide_eq_true zq_;have q62:(t44:Int)<((x12_3.length:Int):Int):=of_decide_eq_true zq_;obtain ⟨go62,co62,eo62,gb62,gl62,cl62,HG62⟩:=Kd.R_form HO_12.out (by omega);(first|cases eo62|(injection eo62 with ea_ en_ ec_;(first|subst ea_|(injection ea_ with ea_;subst ea_));subst ec_;clear en_));have GB62:=Aside0.mk gb62;have GG62:=Aside0.mk HG62;clear gb62 gl62 HG62;replace hx45_0:=zv_ hx45_0;replace hx45_1:=zv_ hx45_1;replace hx45_2:=zv_ hx45_2;replace hx45_3:=zv_ hx45_3;replace hx45_4:=zv_ hx45_4;replace hx45_5:=zv_ hx45_5;replace hx45_6:=zv_ hx45_6;replace hx45_7:=zv_ hx45_7;replace hx45_8:=zv_ hx45_8;replace hx45_9:=zv_ hx45_9;replace hx45_10:=zv_ hx45_10;replace hx45_11:=zv_ hx45_11;obtain ⟨ce62,hcl62,hM62,hcc62,hfr62⟩:=Kd.R_elem HO_12.out z79 (t44:Int) p62 q62;obtain rfl:=k79_openM hM62
        obtain ⟨hx62_0,hx62_1,hx62_2,hx62_3,hx62_4,hx62_5,hx62_6,hx62_7,hx62_8,hx62_9,hx62_10,hx62_11⟩:=rc12_ (m:=(t44:Int).toNat*12) hcc62;obtain ⟨hf62_0,hf62_1,hf62_2,hf62_3,hf62_4,hf62_5,hf62_6,hf62_7,hf62_8,hf62_9,hf62_10,hf62_11⟩:=rg12_ (m:=(t44:Int).toNat*12) hfr62;clear hcl62 hcc62 hfr62 hM62;replace p62:=eq_true p62;replace q62:=eq_true q62;obtain ⟨ce68,hcl68,hM68,hcc68,hfr68⟩:=Kd.R_elem HO_12.out z79 (t44:Int) (of_decide_eq_true zq_) (by have h_:(t44:Int)<((x12_3.length:Int):Int):=of_decide_eq_true zq_;first|exact h_|(have e_:=(Kd.R_reads' HO_12.out).1;omega)|simpa using h_);obtain rfl:=k79_openM hM68;have HP68:=(Kd.R_seg HO_12.out (t44:Int) (of_decide_eq_true zq_) (by have h_:(t44:Int)<((x12_3.length:Int):Int):=of_decide_eq_true zq_;first|exact h_|(have e_:=(Kd.R_reads' HO_12.out).1;omega)|simpa using h_) (seg:=[.int .i64 t47, .int .i64 t48, .int .i64 t49]) (j:=8) hcl68 hcc68 (show 11≤12 from by decide) (x':=(⟨(rd_T79 x12_3 t44).f0,(rd_T79 x12_3 t44).f1,(⟨(rd_T79 x12_3 t44).f2.f0,(rd_T79 x12_3 t44).f2.f1,(rd_T79 x12_3 t44).f2.f2⟩:S37),(⟨(rd_T79 x12_3 t44).f3.f0,(rd_T79 x12_3 t44).f3.f1,(rd_T79 x12_3 t44).f3.f2⟩:S37),(⟨t47,t48,t49⟩:S37),(rd_T79 x12_3 t44).f5⟩:S79)) (k79_mkM _ _ _ (⟨(rd_T79 x12_3 t44).f0,(rd_T79 x12_3 t44).f1,(⟨(rd_T79 x12_3 t44).f2.f0,(rd_T79 x12_3 t44).f2.f1,(rd_T79 x12_3 t44).f2.f2⟩:S37),(⟨(rd_T79 x12_3 t44).f3.f0,(rd_T79 x12_3 t44).f3.f1,(rd_T79 x12_3 t44).f3.f2⟩:S37),(⟨t47,t48,t49⟩:S37),(rd_T79 x12_3 t44).f5⟩:S79)) (fun _ hk=>hk)).1
        rw [←Ny50.out] at HP68;have HQ68:=Aside0.mk HP68;clear hcl68 hcc68 hfr68 hM68 HP68;refine hK.out _ _ ⟨HS0_,HS1_,HS2_,HS3_,HS4_,HS5_,HS6_,HS7_,HS8_,HS9_,HS10_,HS11_,(zx_ HB hw46_0:),(zx_ HB hw46_1:),(zx_ HB hw46_2:),(zx_ HB hw46_3:),(zx_ HB hw46_4:),(zx_ HB hw46_5:),(zx_ HB hw46_6:),(zx_ HB hw46_7:),(zx_ HB hw46_8:),(zx_ HB hw46_9:),(zx_ HB hw46_10:),(zx_ HB hw46_11:)⟩ (fun hHeld=> ?_);clear hK K;refine no_ (N:=some 114) ?_;refine ru_ 13 HT_ ?_;refine ru_ 14 HT_ ?_;refine last_ (i:=15) (N:=none) (bt_ 16 65535) rfl rfl (one_of HT_.out (by kernel_rfl)) (by decide) (fun K hK=> ?_);refine skip_ (w1:= ?_) (by rfl) rfl ?_ ?_;rotate_left
        ·go_simp
         rfl
        refine hK.out _ _ ?_;clear hK K;refine done_ (done_of HT_.out (by kernel_rfl)) ?_;try go_wp2
        have n0_:Aside0 (Kd.R Kd.string 9 (((w67.setCell ⟨go62,(t44:Int).toNat*12+8,none⟩ (.int .i64 t47)).setCell ⟨go62,(t44:Int).toNat*12+9,none⟩ (.int .i64 t48)).setCell ⟨go62,(t44:Int).toNat*12+10,none⟩ (.int .i64 t49)) w.heap.size (fun _=>True) (.slice (some ad43) t8.length co36) t8):=⟨by (with_reducible repeat (first|apply Kd.R_alloc|apply Kd.R_drewN|apply Kd.R_drew));exact Kd.R_mono (Kd.R_far (p:=⟨go62,(t44:Int).toNat*12+10,none⟩) (Kd.R_far (p:=⟨go62,(t44:Int).toNat*12+9,none⟩) (Kd.R_far (p:=⟨go62,(t44:Int).toNat*12+8,none⟩) (Kd.R_types HO_11.out GG62.out (by decide)) (fun _ hk=>hk.2) (.int .i64 t47)) (fun _ hk=>hk.2) (.int .i64 t48)) (fun _ hk=>hk.2) (.int .i64 t49)) (fun _ hk=>trivial)⟩;have n1_:Aside0 (Kd.R k79 79 (((w67.setCell ⟨go62,(t44:Int).toNat*12+8,none⟩ (.int .i64 t47)).setCell ⟨go62,(t44:Int).toNat*12+9,none⟩ (.int .i64 t48)).setCell ⟨go62,(t44:Int).toNat*12+10,none⟩ (.int .i64 t49)) w.heap.size (fun _=>True) (.slice (some ⟨go62,0,none⟩) x12_3.length co65) y50):=am_ (zr_ HQ68)
        have n2_:Aside0 ((((w67.setCell ⟨go62,(t44:Int).toNat*12+8,none⟩ (.int .i64 t47)).setCell ⟨go62,(t44:Int).toNat*12+9,none⟩ (.int .i64 t48)).setCell ⟨go62,(t44:Int).toNat*12+10,none⟩ (.int .i64 t49)).heap[gb1]?=some (.cells #[.slice none 0 0, .int .i64 x2001_3] 73 (0,0))):=⟨by refine zk_ ?_;refine blk_far ?_ (by have h_:=Kd.R_ne HO_12.out BK1.out (by decide);intro e_;exact h_ (by rw [e_];rfl)) _;refine zk_ ?_;refine blk_far ?_ (by have h_:=Kd.R_ne HO_12.out BK1.out (by decide);intro e_;exact h_ (by rw [e_];rfl)) _;refine zk_ ?_;refine blk_far ?_ (by have h_:=Kd.R_ne HO_12.out BK1.out (by decide);intro e_;exact h_ (by rw [e_];rfl)) _;refine zk_ ?_;exact BK1.out⟩;have n3_:Aside0 (Below w.heap.size w (((w67.setCell ⟨go62,(t44:Int).toNat*12+8,none⟩ (.int .i64 t47)).setCell ⟨go62,(t44:Int).toNat*12+9,none⟩ (.int .i64 t48)).setCell ⟨go62,(t44:Int).toNat*12+10,none⟩ (.int .i64 t49))):=⟨zl4_ HB GB62 GB62 GB62 GE1⟩;generalize (((w67.setCell ⟨go62,(t44:Int).toNat*12+8,none⟩ (.int .i64 t47)).setCell ⟨go62,(t44:Int).toNat*12+9,none⟩ (.int .i64 t48)).setCell ⟨go62,(t44:Int).toNat*12+10,none⟩ (.int .i64 t49))=w69 at n0_ n1_ n2_ n3_ ⊢;have HO_11:=n0_;have HO_12:=n1_;have BK1:=n2_;have HB:=n3_;clear n0_ n1_ n2_ n3_;replace HO_11:=am_ (Kd.R_drew HO_11.out);replace HO_12:=am_ (Kd.R_drew HO_12.out);replace BK1:=am_ (blk_drew BK1.out);replace HB:=am_ (below_drew1 HB.out);have p51:0≤(t44:Int):=of_decide_eq_true zq_
        have q51:t44<(y50.length:Int):=(by have h_:(t44:Int)<((x12_3.length:Int):Int):=of_decide_eq_true zq_;first|(have e_:=(Kd.R_reads' HO_12.out).1;omega)|simpa only [Ny50.out,List.length_set] using h_);have ql51:((t44:Int)<((x12_3.length:Int):Int))=True:=eq_true (of_decide_eq_true zq_);obtain ⟨ad51,e51,hx51_0,hx51_1,hx51_2,hx51_3,hx51_4,hx51_5,hx51_6,hx51_7,hx51_8,hx51_9,hx51_10,hx51_11⟩:=at_T79 (Kd.R_reads' HO_12.out).2.2 t44 p51 q51;obtain rfl:(⟨go62,0,none⟩:Addr)=ad51:=(by injection e51);replace hx51_0:=za_ hx51_0;replace hx51_1:=za_ hx51_1;replace hx51_2:=za_ hx51_2;replace hx51_3:=za_ hx51_3;replace hx51_4:=za_ hx51_4;replace hx51_5:=za_ hx51_5;replace hx51_6:=za_ hx51_6;replace hx51_7:=za_ hx51_7;replace hx51_8:=za_ hx51_8;replace hx51_9:=za_ hx51_9;replace hx51_10:=za_ hx51_10;replace hx51_11:=za_ hx51_11;replace p51:=eq_true p51;replace q51:=eq_true q51;have p52:0≤(t44:Int):=of_decide_eq_true zq_;have q52:t44<(y50.length:Int):=(by have h_:(t44:Int)<((x12_3.length:Int):Int):=of_decide_eq_true zq_;first|(have e_:=(Kd.R_reads' HO_12.out).1;omega)|simpa only [Ny50.out,List.length_set] using h_);have ql52:((t44:Int)<((x12_3.length:Int):Int))=True:=eq_true (of_decide_eq_true zq_);obtain ⟨ad52,e52,hx52_0,hx52_1,hx52_2,hx52_3,hx52_4,hx52_5,hx52_6,hx52_7,hx52_8,hx52_9,hx52_10,hx52_11⟩:=at_T79 (Kd.R_reads' HO_12.out).2.2 t44 p52 q52;obtain rfl:(⟨go62,0,none⟩:Addr)=ad52:=(by injection e52);replace hx52_0:=za_ hx52_0;replace hx52_1:=za_ hx52_1;replace hx52_2:=za_ hx52_2
        replace hx52_3:=za_ hx52_3;replace hx52_4:=za_ hx52_4;replace hx52_5:=za_ hx52_5;replace hx52_6:=za_ hx52_6;replace hx52_7:=za_ hx52_7;replace hx52_8:=za_ hx52_8;replace hx52_9:=za_ hx52_9;replace hx52_10:=za_ hx52_10;replace hx52_11:=za_ hx52_11;replace p52:=eq_true p52;replace q52:=eq_true q52;refine start_ (n:=12) (S:=fun w'=>w'.cell? ⟨go62,(t44).toNat*12+2,none⟩=some (.int .i64 ((rd_T79 y50 t44).f2.f0))∧w'.cell? ⟨go62,(t44).toNat*12+3,none⟩=some (.int .i64 ((rd_T79 y50 t44).f2.f1))∧w'.cell? ⟨go62,(t44).toNat*12+4,none⟩=some (.int .i64 ((rd_T79 y50 t44).f2.f2))∧w'.cell? ⟨go62,(t44).toNat*12+8,none⟩=some (.int .i64 ((rd_T79 y50 t44).f4.f0))∧w'.cell? ⟨go62,(t44).toNat*12+9,none⟩=some (.int .i64 ((rd_T79 y50 t44).f4.f1))∧w'.cell? ⟨go62,(t44).toNat*12+10,none⟩=some (.int .i64 ((rd_T79 y50 t44).f4.f2))) (ds:=[]) (bt_ 12 0) (by kernel_rfl) rfl rfl ⟨hx51_2,hx51_3,hx51_4,hx51_8,hx51_9,hx51_10⟩ (fun hHeld=> ?_);refine with_tabW r10_Move.tab24 r10_Move.bits24 (fun HT_ HW_=> ?_);generalize w69.drew=w70 at HO_11 HO_12 BK1 HB HQ68 hx51_0 hx51_1 hx51_10 hx51_11 hx51_2 hx51_3 hx51_4 hx51_5 hx51_6 hx51_7 hx51_8 hx51_9 hx52_0 hx52_1 hx52_10 hx52_11 hx52_2 hx52_3 hx52_4 hx52_5 hx52_6 hx52_7 hx52_8 hx52_9 hHeld ⊢;refine ru_ 0 HT_ ?_;refine ru_ 1 HT_ ?_;refine ru_ 2 HT_ ?_;refine ru_ 3 HT_ ?_;refine ru_ 5 HT_ ?_;refine ru_ 6 HT_ ?_;refine ru_ 7 HT_ ?_;refine ru_ 8 HT_ ?_;refine rk_ 4 HT_ HW_ hHeld ?_;refine rk_ 9 HT_ HW_ hHeld ?_
        refine on_ (i:=10) (N:=some 127) (bt_ 12 2047) HT_ (fun K hK=> ?_);refine gs_ Try.func71 #[.agg #[.int .i64 ((rd_T79 y50 t44).f4.f0), .int .i64 ((rd_T79 y50 t44).f4.f1), .int .i64 ((rd_T79 y50 t44).f4.f2)], .agg #[.int .i64 ((rd_T79 y50 t44).f2.f0), .int .i64 ((rd_T79 y50 t44).f2.f1), .int .i64 ((rd_T79 y50 t44).f2.f2)]] ?_
        with_reducible refine (r10_Le.calls ((rd_T79 y50 t44).f4.f0) ((rd_T79 y50 t44).f4.f1) ((rd_T79 y50 t44).f4.f2) ((rd_T79 y50 t44).f2.f0) ((rd_T79 y50 t44).f2.f1) ((rd_T79 y50 t44).f2.f2) true _ A63.out).mono ?_
        rintro e w71 ⟨rfl,hb⟩;have HS_:=And.intro hb hHeld;refine ⟨_,rfl, ?_⟩;replace HO_11:=ob_ HO_11 hb;replace HO_12:=ob_ HO_12 hb;replace BK1:=bb_ BK1 hb;replace HB:=am_ (below_step (zl1_ HB GE1) hb);(try clear hb);refine hK.out _ _ (hk_ HS_) (fun hHeld=> ?_);clear hK K;refine no_ (N:=some 127) ?_;refine ru_ 11 HT_ ?_;refine done_ (done_of HT_.out (by kernel_rfl)) ?_;try go_wp2
        go_roundg k3
        case measure=>have:=HJ8.out;have:=HK2.out;have:=HK3.out;omega
        case rel=>exact ⟨(y50),(wrap64 (x16_3+1)),(x2001_3),rf_,H',⟨by have:=HJ8.out;have:=HK2.out;have:=HK3.out;omega⟩,am_ (zr_ HO_11),am_ (zr_ HO_12),am_ (zb_ BK1),⟨zl1_ HB GE1⟩⟩
       replace c64:=Bool.eq_false_iff.mpr c64;subst c64;rw [if_neg (show¬(false=true) by decide)] at H;replace H:=zbd_ H;obtain ⟨⟨t54,t57⟩,A72,H⟩:=H;try dsimp only at H
       simp only [Option.some.injEq,Prod.mk.injEq] at H;obtain ⟨rfl,rfl⟩:=H;obtain ⟨p43,q43,ad43,e43,hx43_0⟩:=zat_ (Kd.at_string (Kd.R_reads' HO_11.out).2.2 x16_3);cases e43;obtain ⟨Ao73,co73,eo73⟩:=Kd.R_slice HO_12.out;subst eo73;try go_wp2_with (first|((with_reducible refine gate_callee (f:=52) rfl ?_);refine gl_ (some 101) Try.func52 #[.slice Ao73 x12_3.length co73, .string (rdOf ByteArray.empty t8 x16_3)] ?_;(with_reducible refine (r10_Find.calls k3 _ _ x12_3 (rdOf ByteArray.empty t8 x16_3) t44 _ ?side1 ?side2 A56.out).mono ?_);(case side1=>exact zc_ (Kd.R_reads' HO_12.out).2.2);(case side2=>exact (Kd.R_reads' HO_12.out).2.1);rintro e w' ⟨rfl,⟨nd,rfl⟩⟩;refine ⟨_,rfl, ?_⟩;(try (rw [drewN_self wr];generalize hq_:World.drewN wr _=wr;replace HO_11:=am_ (qr_ hq_ HO_11.out);replace HO_12:=am_ (qr_ hq_ HO_12.out);replace BK1:=am_ (qb_ hq_ BK1.out);replace HB:=am_ (ql_ hq_ HB.out);clear hq_))))
       replace HO_11:=am_ (Kd.R_drew HO_11.out);replace HO_12:=am_ (Kd.R_drew HO_12.out);replace BK1:=am_ (blk_drew BK1.out);replace HB:=am_ (below_drew1 HB.out);obtain ⟨p45,q45,ad45,e45,hx45_0,hx45_1,hx45_2,hx45_3,hx45_4,hx45_5,hx45_6,hx45_7,hx45_8,hx45_9,hx45_10,hx45_11⟩:=zat_ (at_T79 (Kd.R_reads' HO_12.out).2.2 t44);cases e45;have p46:0≤(t7:Int):=of_decide_eq_true zq_;have q46:t7<(l0.length:Int):=of_decide_eq_true zq_;obtain ⟨ad46,e46,hx46_0,hx46_1,hx46_2,hx46_3,hx46_4,hx46_5,hx46_6,hx46_7,hx46_8,hx46_9,hx46_10,hx46_11⟩:=at_T79 HR0.out t7 p46 q46;have hw46_11:=hx46_11;have hw46_10:=hx46_10;have hw46_9:=hx46_9;have hw46_8:=hx46_8;have hw46_7:=hx46_7;have hw46_6:=hx46_6;have hw46_5:=hx46_5;have hw46_4:=hx46_4;have hw46_3:=hx46_3;have hw46_2:=hx46_2;have hw46_1:=hx46_1;have hw46_0:=hx46_0;obtain rfl:ad20=ad46:=(by injection e46);replace hx46_0:=zx12_ HB hx46_0 hx46_1 hx46_2 hx46_3 hx46_4 hx46_5 hx46_6 hx46_7 hx46_8 hx46_9 hx46_10 hx46_11;clear hx46_1 hx46_2 hx46_3 hx46_4 hx46_5 hx46_6 hx46_7 hx46_8 hx46_9 hx46_10 hx46_11;obtain ⟨hx46_0,hx46_1,hx46_2,hx46_3,hx46_4,hx46_5,hx46_6,hx46_7,hx46_8,hx46_9,hx46_10,hx46_11⟩:=hx46_0;replace p46:=eq_true p46;replace q46:=eq_true q46
       refine start_ (n:=16) (S:=fun w'=>w'.cell? (ad45.add ((t44).toNat*12))=some (.string ((rd_T79 x12_3 t44).f0))∧w'.cell? ⟨(ad45.add ((t44).toNat*12)).block,(ad45.add ((t44).toNat*12)).off+1,none⟩=some (.string ((rd_T79 x12_3 t44).f1))∧w'.cell? ⟨(ad45.add ((t44).toNat*12)).block,(ad45.add ((t44).toNat*12)).off+2,none⟩=some (.int .i64 ((rd_T79 x12_3 t44).f2.f0))∧w'.cell? ⟨(ad45.add ((t44).toNat*12)).block,(ad45.add ((t44).toNat*12)).off+3,none⟩=some (.int .i64 ((rd_T79 x12_3 t44).f2.f1))∧w'.cell? ⟨(ad45.add ((t44).toNat*12)).block,(ad45.add ((t44).toNat*12)).off+4,none⟩=some (.int .i64 ((rd_T79 x12_3 t44).f2.f2))∧w'.cell? ⟨(ad45.add ((t44).toNat*12)).block,(ad45.add ((t44).toNat*12)).off+5,none⟩=some (.int .i64 ((rd_T79 x12_3 t44).f3.f0))∧w'.cell? ⟨(ad45.add ((t44).toNat*12)).block,(ad45.add ((t44).toNat*12)).off+6,none⟩=some (.int .i64 ((rd_T79 x12_3 t44).f3.f1))∧w'.cell? ⟨(ad45.add ((t44).toNat*12)).block,(ad45.add ((t44).toNat*12)).off+7,none⟩=some (.int .i64 ((rd_T79 x12_3 t44).f3.f2))∧w'.cell? ⟨(ad45.add ((t44).toNat*12)).block,(ad45.add ((t44).toNat*12)).off+8,none⟩=some (.int .i64 ((rd_T79 x12_3 t44).f4.f0))∧w'.cell? ⟨(ad45.add ((t44).toNat*12)).block,(ad45.add ((t44).toNat*12)).off+9,none⟩=some (.int .i64 ((rd_T79 x12_3 t44).f4.f1))∧w'.cell? ⟨(ad45.add ((t44).toNat*12)).block,(ad45.add ((t44).toNat*12)).off+10,none⟩=some (.int .i64 ((rd_T79 x12_3 t44).f4.f2))∧w'.cell? ⟨(ad45.add ((t44).toNat*12)).block,(ad45.add ((t44).toNat*12)).off+11,none⟩=some (.int .i64 ((rd_T79 x12_3 t44).f5))∧w'.cell? (ad20.add ((t7).toNat*12))=some (.string ((rd_T79 l0 t7).f0))∧w'.cell? ⟨(ad20.add ((t7).toNat*12)).block,(ad20.add ((t7).toNat*12)).off+1,none⟩=some (.string ((rd_T79 l0 t7).f1))∧w'.cell? ⟨(ad20.add ((t7).toNat*12)).block,(ad20.add ((t7).toNat*12)).off+2,none⟩=some (.int .i64 ((rd_T79 l0 t7).f2.f0))∧w'.cell? ⟨(ad20.add ((t7).toNat*12)).block,(ad20.add ((t7).toNat*12)).off+3,none⟩=some (.int .i64 ((rd_T79 l0 t7).f2.f1))∧w'.cell? ⟨(ad20.add ((t7).toNat*12)).block,(ad20.add ((t7).toNat*12)).off+4,none⟩=some (.int .i64 ((rd_T79 l0 t7).f2.f2))∧w'.cell? ⟨(ad20.add ((t7).toNat*12)).block,(ad20.add ((t7).toNat*12)).off+5,none⟩=some (.int .i64 ((rd_T79 l0 t7).f3.f0))∧w'.cell? ⟨(ad20.add ((t7).toNat*12)).block,(ad20.add ((t7).toNat*12)).off+6,none⟩=some (.int .i64 ((rd_T79 l0 t7).f3.f1))∧w'.cell? ⟨(ad20.add ((t7).toNat*12)).block,(ad20.add ((t7).toNat*12)).off+7,none⟩=some (.int .i64 ((rd_T79 l0 t7).f3.f2))∧w'.cell? ⟨(ad20.add ((t7).toNat*12)).block,(ad20.add ((t7).toNat*12)).off+8,none⟩=some (.int .i64 ((rd_T79 l0 t7).f4.f0))∧w'.cell? ⟨(ad20.add ((t7).toNat*12)).block,(ad20.add ((t7).toNat*12)).off+9,none⟩=some (.int .i64 ((rd_T79 l0 t7).f4.f1))∧w'.cell? ⟨(ad20.add ((t7).toNat*12)).block,(ad20.add ((t7).toNat*12)).off+10,none⟩=some (.int .i64 ((rd_T79 l0 t7).f4.f2))∧w'.cell? ⟨(ad20.add ((t7).toNat*12)).block,(ad20.add ((t7).toNat*12)).off+11,none⟩=some (.int .i64 ((rd_T79 l0 t7).f5))) (ds:=[15]) (bt_ 16 0) (by kernel_rfl) rfl rfl ⟨hx45_0,hx45_1,hx45_2,hx45_3,hx45_4,hx45_5,hx45_6,hx45_7,hx45_8,hx45_9,hx45_10,hx45_11,(zx_ HB hw46_0:),(zx_ HB hw46_1:),(zx_ HB hw46_2:),(zx_ HB hw46_3:),(zx_ HB hw46_4:),(zx_ HB hw46_5:),(zx_ HB hw46_6:),(zx_ HB hw46_7:),(zx_ HB hw46_8:),(zx_ HB hw46_9:),(zx_ HB hw46_10:),(zx_ HB hw46_11:)⟩ (fun hHeld=> ?_);refine with_tabW r10_Move.tab23 r10_Move.bits23 (fun HT_ HW_=> ?_)
       generalize wr.drew=w74 at HO_11 HO_12 BK1 HB hx45_0 hx45_1 hx45_10 hx45_11 hx45_2 hx45_3 hx45_4 hx45_5 hx45_6 hx45_7 hx45_8 hx45_9 hx46_0 hx46_1 hx46_10 hx46_11 hx46_2 hx46_3 hx46_4 hx46_5 hx46_6 hx46_7 hx46_8 hx46_9 hHeld ⊢;refine ru_ 0 HT_ ?_;refine ru_ 1 HT_ ?_;refine ru_ 2 HT_ ?_;refine ru_ 3 HT_ ?_;refine ru_ 4 HT_ ?_;refine ru_ 5 HT_ ?_;refine ru_ 7 HT_ ?_;refine ru_ 8 HT_ ?_;refine ru_ 9 HT_ ?_;refine ru_ 10 HT_ ?_;refine rk_ 6 HT_ HW_ hHeld ?_;refine rk_ 11 HT_ HW_ hHeld ?_;refine on_ (i:=12) (N:=some 114) (bt_ 16 8191) HT_ (fun K hK=> ?_);refine gs_ Try.func70 #[.agg #[.int .i64 ((rd_T79 x12_3 t44).f4.f0), .int .i64 ((rd_T79 x12_3 t44).f4.f1), .int .i64 ((rd_T79 x12_3 t44).f4.f2)], .agg #[.int .i64 ((rd_T79 l0 t7).f4.f0), .int .i64 ((rd_T79 l0 t7).f4.f1), .int .i64 ((rd_T79 l0 t7).f4.f2)]] ?_
       with_reducible refine (r10_Add.calls ((rd_T79 x12_3 t44).f4.f0) ((rd_T79 x12_3 t44).f4.f1) ((rd_T79 x12_3 t44).f4.f2) ((rd_T79 l0 t7).f4.f0) ((rd_T79 l0 t7).f4.f1) ((rd_T79 l0 t7).f4.f2) t47 t48 t49 _ A61.out).mono ?_
       rintro e w75 ⟨rfl,hb⟩;have HS0_:=zh_ hb (hHeld.1);have HS1_:=zh_ hb (hHeld.2.1);have HS2_:=zh_ hb (hHeld.2.2.1);have HS3_:=zh_ hb (hHeld.2.2.2.1);have HS4_:=zh_ hb (hHeld.2.2.2.2.1);have HS5_:=zh_ hb (hHeld.2.2.2.2.2.1);have HS6_:=zh_ hb (hHeld.2.2.2.2.2.2.1);have HS7_:=zh_ hb (hHeld.2.2.2.2.2.2.2.1);have HS8_:=zh_ hb (hHeld.2.2.2.2.2.2.2.2.1);have HS9_:=zh_ hb (hHeld.2.2.2.2.2.2.2.2.2.1);have HS10_:=zh_ hb (hHeld.2.2.2.2.2.2.2.2.2.2.1);have HS11_:=zh_ hb (hHeld.2.2.2.2.2.2.2.2.2.2.2.1);refine ⟨_,rfl, ?_⟩;replace HO_11:=ob_ HO_11 hb;replace HO_12:=ob_ HO_12 hb;replace BK1:=bb_ BK1 hb;replace HB:=am_ (below_step (zl1_ HB GE1) hb);(try clear hb);have p62:0≤(t44:Int):=of_decide_eq_true zq_;have q62:(t44:Int)<((x12_3.length:Int):Int):=of_decide_eq_true zq_;obtain ⟨go62,co62,eo62,gb62,gl62,cl62,HG62⟩:=Kd.R_form HO_12.out (by omega);(first|cases eo62|(injection eo62 with ea_ en_ ec_;(first|subst ea_|(injection ea_ with ea_;subst ea_));subst ec_;clear en_));have GB62:=Aside0.mk gb62;have GG62:=Aside0.mk HG62;clear gb62 gl62 HG62;replace hx45_0:=zv_ hx45_0;replace hx45_1:=zv_ hx45_1;replace hx45_2:=zv_ hx45_2;replace hx45_3:=zv_ hx45_3;replace hx45_4:=zv_ hx45_4;replace hx45_5:=zv_ hx45_5;replace hx45_6:=zv_ hx45_6;replace hx45_7:=zv_ hx45_7;replace hx45_8:=zv_ hx45_8;replace hx45_9:=zv_ hx45_9;replace hx45_10:=zv_ hx45_10;replace hx45_11:=zv_ hx45_11;obtain ⟨ce62,hcl62,hM62,hcc62,hfr62⟩:=Kd.R_elem HO_12.out z79 (t44:Int) p62 q62;obtain rfl:=k79_openM hM62
       obtain ⟨hx62_0,hx62_1,hx62_2,hx62_3,hx62_4,hx62_5,hx62_6,hx62_7,hx62_8,hx62_9,hx62_10,hx62_11⟩:=rc12_ (m:=(t44:Int).toNat*12) hcc62;obtain ⟨hf62_0,hf62_1,hf62_2,hf62_3,hf62_4,hf62_5,hf62_6,hf62_7,hf62_8,hf62_9,hf62_10,hf62_11⟩:=rg12_ (m:=(t44:Int).toNat*12) hfr62;clear hcl62 hcc62 hfr62 hM62;replace p62:=eq_true p62;replace q62:=eq_true q62;obtain ⟨ce76,hcl76,hM76,hcc76,hfr76⟩:=Kd.R_elem HO_12.out z79 (t44:Int) (of_decide_eq_true zq_) (by have h_:(t44:Int)<((x12_3.length:Int):Int):=of_decide_eq_true zq_;first|exact h_|(have e_:=(Kd.R_reads' HO_12.out).1;omega)|simpa using h_);obtain rfl:=k79_openM hM76;have HP76:=(Kd.R_seg HO_12.out (t44:Int) (of_decide_eq_true zq_) (by have h_:(t44:Int)<((x12_3.length:Int):Int):=of_decide_eq_true zq_;first|exact h_|(have e_:=(Kd.R_reads' HO_12.out).1;omega)|simpa using h_) (seg:=[.int .i64 t47, .int .i64 t48, .int .i64 t49]) (j:=8) hcl76 hcc76 (show 11≤12 from by decide) (x':=(⟨(rd_T79 x12_3 t44).f0,(rd_T79 x12_3 t44).f1,(⟨(rd_T79 x12_3 t44).f2.f0,(rd_T79 x12_3 t44).f2.f1,(rd_T79 x12_3 t44).f2.f2⟩:S37),(⟨(rd_T79 x12_3 t44).f3.f0,(rd_T79 x12_3 t44).f3.f1,(rd_T79 x12_3 t44).f3.f2⟩:S37),(⟨t47,t48,t49⟩:S37),(rd_T79 x12_3 t44).f5⟩:S79)) (k79_mkM _ _ _ (⟨(rd_T79 x12_3 t44).f0,(rd_T79 x12_3 t44).f1,(⟨(rd_T79 x12_3 t44).f2.f0,(rd_T79 x12_3 t44).f2.f1,(rd_T79 x12_3 t44).f2.f2⟩:S37),(⟨(rd_T79 x12_3 t44).f3.f0,(rd_T79 x12_3 t44).f3.f1,(rd_T79 x12_3 t44).f3.f2⟩:S37),(⟨t47,t48,t49⟩:S37),(rd_T79 x12_3 t44).f5⟩:S79)) (fun _ hk=>hk)).1
       rw [←Ny50.out] at HP76;have HQ76:=Aside0.mk HP76;clear hcl76 hcc76 hfr76 hM76 HP76;refine hK.out _ _ ⟨HS0_,HS1_,HS2_,HS3_,HS4_,HS5_,HS6_,HS7_,HS8_,HS9_,HS10_,HS11_,(zx_ HB hw46_0:),(zx_ HB hw46_1:),(zx_ HB hw46_2:),(zx_ HB hw46_3:),(zx_ HB hw46_4:),(zx_ HB hw46_5:),(zx_ HB hw46_6:),(zx_ HB hw46_7:),(zx_ HB hw46_8:),(zx_ HB hw46_9:),(zx_ HB hw46_10:),(zx_ HB hw46_11:)⟩ (fun hHeld=> ?_);clear hK K;refine no_ (N:=some 114) ?_;refine ru_ 13 HT_ ?_;refine ru_ 14 HT_ ?_;refine last_ (i:=15) (N:=none) (bt_ 16 65535) rfl rfl (one_of HT_.out (by kernel_rfl)) (by decide) (fun K hK=> ?_);refine skip_ (w1:= ?_) (by rfl) rfl ?_ ?_;rotate_left
       ·go_simp
        rfl
       refine hK.out _ _ ?_;clear hK K;refine done_ (done_of HT_.out (by kernel_rfl)) ?_;have n0_:Aside0 (Kd.R Kd.string 9 (((w75.setCell ⟨go62,(t44:Int).toNat*12+8,none⟩ (.int .i64 t47)).setCell ⟨go62,(t44:Int).toNat*12+9,none⟩ (.int .i64 t48)).setCell ⟨go62,(t44:Int).toNat*12+10,none⟩ (.int .i64 t49)) w.heap.size (fun _=>True) (.slice (some ad43) t8.length co36) t8):=⟨by (with_reducible repeat (first|apply Kd.R_alloc|apply Kd.R_drewN|apply Kd.R_drew));exact Kd.R_mono (Kd.R_far (p:=⟨go62,(t44:Int).toNat*12+10,none⟩) (Kd.R_far (p:=⟨go62,(t44:Int).toNat*12+9,none⟩) (Kd.R_far (p:=⟨go62,(t44:Int).toNat*12+8,none⟩) (Kd.R_types HO_11.out GG62.out (by decide)) (fun _ hk=>hk.2) (.int .i64 t47)) (fun _ hk=>hk.2) (.int .i64 t48)) (fun _ hk=>hk.2) (.int .i64 t49)) (fun _ hk=>trivial)⟩;have n1_:Aside0 (Kd.R k79 79 (((w75.setCell ⟨go62,(t44:Int).toNat*12+8,none⟩ (.int .i64 t47)).setCell ⟨go62,(t44:Int).toNat*12+9,none⟩ (.int .i64 t48)).setCell ⟨go62,(t44:Int).toNat*12+10,none⟩ (.int .i64 t49)) w.heap.size (fun _=>True) (.slice (some ⟨go62,0,none⟩) x12_3.length co73) y50):=am_ (zr_ HQ76)
       have n2_:Aside0 ((((w75.setCell ⟨go62,(t44:Int).toNat*12+8,none⟩ (.int .i64 t47)).setCell ⟨go62,(t44:Int).toNat*12+9,none⟩ (.int .i64 t48)).setCell ⟨go62,(t44:Int).toNat*12+10,none⟩ (.int .i64 t49)).heap[gb1]?=some (.cells #[.slice none 0 0, .int .i64 x2001_3] 73 (0,0))):=⟨by refine zk_ ?_;refine blk_far ?_ (by have h_:=Kd.R_ne HO_12.out BK1.out (by decide);intro e_;exact h_ (by rw [e_];rfl)) _;refine zk_ ?_;refine blk_far ?_ (by have h_:=Kd.R_ne HO_12.out BK1.out (by decide);intro e_;exact h_ (by rw [e_];rfl)) _;refine zk_ ?_;refine blk_far ?_ (by have h_:=Kd.R_ne HO_12.out BK1.out (by decide);intro e_;exact h_ (by rw [e_];rfl)) _;refine zk_ ?_;exact BK1.out⟩;have n3_:Aside0 (Below w.heap.size w (((w75.setCell ⟨go62,(t44:Int).toNat*12+8,none⟩ (.int .i64 t47)).setCell ⟨go62,(t44:Int).toNat*12+9,none⟩ (.int .i64 t48)).setCell ⟨go62,(t44:Int).toNat*12+10,none⟩ (.int .i64 t49))):=⟨zl4_ HB GB62 GB62 GB62 GE1⟩;generalize (((w75.setCell ⟨go62,(t44:Int).toNat*12+8,none⟩ (.int .i64 t47)).setCell ⟨go62,(t44:Int).toNat*12+9,none⟩ (.int .i64 t48)).setCell ⟨go62,(t44:Int).toNat*12+10,none⟩ (.int .i64 t49))=w77 at n0_ n1_ n2_ n3_ ⊢;have HO_11:=n0_;have HO_12:=n1_;have BK1:=n2_;have HB:=n3_;clear n0_ n1_ n2_ n3_;try go_wp2
       replace HO_11:=am_ (Kd.R_drew HO_11.out);replace HO_12:=am_ (Kd.R_drew HO_12.out);replace BK1:=am_ (blk_drew BK1.out);replace HB:=am_ (below_drew1 HB.out);have p51:0≤(t44:Int):=of_decide_eq_true zq_;have q51:t44<(y50.length:Int):=(by have h_:(t44:Int)<((x12_3.length:Int):Int):=of_decide_eq_true zq_;first|(have e_:=(Kd.R_reads' HO_12.out).1;omega)|simpa only [Ny50.out,List.length_set] using h_);have ql51:((t44:Int)<((x12_3.length:Int):Int))=True:=eq_true (of_decide_eq_true zq_);obtain ⟨ad51,e51,hx51_0,hx51_1,hx51_2,hx51_3,hx51_4,hx51_5,hx51_6,hx51_7,hx51_8,hx51_9,hx51_10,hx51_11⟩:=at_T79 (Kd.R_reads' HO_12.out).2.2 t44 p51 q51;obtain rfl:(⟨go62,0,none⟩:Addr)=ad51:=(by injection e51);replace hx51_0:=za_ hx51_0;replace hx51_1:=za_ hx51_1;replace hx51_2:=za_ hx51_2;replace hx51_3:=za_ hx51_3;replace hx51_4:=za_ hx51_4;replace hx51_5:=za_ hx51_5;replace hx51_6:=za_ hx51_6;replace hx51_7:=za_ hx51_7;replace hx51_8:=za_ hx51_8;replace hx51_9:=za_ hx51_9;replace hx51_10:=za_ hx51_10;replace hx51_11:=za_ hx51_11;replace p51:=eq_true p51;replace q51:=eq_true q51;have p52:0≤(t44:Int):=of_decide_eq_true zq_;have q52:t44<(y50.length:Int):=(by have h_:(t44:Int)<((x12_3.length:Int):Int):=of_decide_eq_true zq_;first|(have e_:=(Kd.R_reads' HO_12.out).1;omega)|simpa only [Ny50.out,List.length_set] using h_);have ql52:((t44:Int)<((x12_3.length:Int):Int))=True:=eq_true (of_decide_eq_true zq_)
       obtain ⟨ad52,e52,hx52_0,hx52_1,hx52_2,hx52_3,hx52_4,hx52_5,hx52_6,hx52_7,hx52_8,hx52_9,hx52_10,hx52_11⟩:=at_T79 (Kd.R_reads' HO_12.out).2.2 t44 p52 q52;obtain rfl:(⟨go62,0,none⟩:Addr)=ad52:=(by injection e52);replace hx52_0:=za_ hx52_0;replace hx52_1:=za_ hx52_1;replace hx52_2:=za_ hx52_2;replace hx52_3:=za_ hx52_3;replace hx52_4:=za_ hx52_4;replace hx52_5:=za_ hx52_5;replace hx52_6:=za_ hx52_6;replace hx52_7:=za_ hx52_7;replace hx52_8:=za_ hx52_8;replace hx52_9:=za_ hx52_9;replace hx52_10:=za_ hx52_10;replace hx52_11:=za_ hx52_11;replace p52:=eq_true p52;replace q52:=eq_true q52;refine start_ (n:=12) (S:=fun w'=>w'.cell? ⟨go62,(t44).toNat*12+2,none⟩=some (.int .i64 ((rd_T79 y50 t44).f2.f0))∧w'.cell? ⟨go62,(t44).toNat*12+3,none⟩=some (.int .i64 ((rd_T79 y50 t44).f2.f1))∧w'.cell? ⟨go62,(t44).toNat*12+4,none⟩=some (.int .i64 ((rd_T79 y50 t44).f2.f2))∧w'.cell? ⟨go62,(t44).toNat*12+8,none⟩=some (.int .i64 ((rd_T79 y50 t44).f4.f0))∧w'.cell? ⟨go62,(t44).toNat*12+9,none⟩=some (.int .i64 ((rd_T79 y50 t44).f4.f1))∧w'.cell? ⟨go62,(t44).toNat*12+10,none⟩=some (.int .i64 ((rd_T79 y50 t44).f4.f2))) (ds:=[]) (bt_ 12 0) (by kernel_rfl) rfl rfl ⟨hx51_2,hx51_3,hx51_4,hx51_8,hx51_9,hx51_10⟩ (fun hHeld=> ?_);refine with_tabW r10_Move.tab24 r10_Move.bits24 (fun HT_ HW_=> ?_)
       generalize w77.drew=w78 at HO_11 HO_12 BK1 HB hx51_0 hx51_1 hx51_10 hx51_11 hx51_2 hx51_3 hx51_4 hx51_5 hx51_6 hx51_7 hx51_8 hx51_9 hx52_0 hx52_1 hx52_10 hx52_11 hx52_2 hx52_3 hx52_4 hx52_5 hx52_6 hx52_7 hx52_8 hx52_9 hHeld ⊢;refine ru_ 0 HT_ ?_;refine ru_ 1 HT_ ?_;refine ru_ 2 HT_ ?_;refine ru_ 3 HT_ ?_;refine ru_ 5 HT_ ?_;refine ru_ 6 HT_ ?_;refine ru_ 7 HT_ ?_;refine ru_ 8 HT_ ?_;refine rk_ 4 HT_ HW_ hHeld ?_;refine rk_ 9 HT_ HW_ hHeld ?_;refine on_ (i:=10) (N:=some 127) (bt_ 12 2047) HT_ (fun K hK=> ?_);refine gs_ Try.func71 #[.agg #[.int .i64 ((rd_T79 y50 t44).f4.f0), .int .i64 ((rd_T79 y50 t44).f4.f1), .int .i64 ((rd_T79 y50 t44).f4.f2)], .agg #[.int .i64 ((rd_T79 y50 t44).f2.f0), .int .i64 ((rd_T79 y50 t44).f2.f1), .int .i64 ((rd_T79 y50 t44).f2.f2)]] ?_
       with_reducible refine (r10_Le.calls ((rd_T79 y50 t44).f4.f0) ((rd_T79 y50 t44).f4.f1) ((rd_T79 y50 t44).f4.f2) ((rd_T79 y50 t44).f2.f0) ((rd_T79 y50 t44).f2.f1) ((rd_T79 y50 t44).f2.f2) false _ A63.out).mono ?_
       rintro e w79 ⟨rfl,hb⟩;have HS_:=And.intro hb hHeld;refine ⟨_,rfl, ?_⟩;replace HO_11:=ob_ HO_11 hb;replace HO_12:=ob_ HO_12 hb;replace BK1:=bb_ BK1 hb;replace HB:=am_ (below_step (zl1_ HB GE1) hb);(try clear hb);refine hK.out _ _ (hk_ HS_) (fun hHeld=> ?_);clear hK K;refine no_ (N:=some 127) ?_;refine ru_ 11 HT_ ?_;refine done_ (done_of HT_.out (by kernel_rfl)) ?_;try go_wp2_with (first|((with_reducible refine gate_callee (f:=101) rfl ?_);refine gl_ (some 129) Try.func101 #[.int .i64 12] ?_;(with_reducible refine (r10_no.calls 12 t54 t57 _ A72.out).mono ?_);rintro e w80 ⟨v55,rfl,ho0,hb⟩;refine ⟨_,rfl, ?_⟩;replace HO_11:=ob_ HO_11 hb;have HO56:=am_ (Kd.R_lower (Kd.R_new' ho0 (Kd.R_lt (zr_ HO_12))) (below_size (zl1_ HB GE1)));replace HO_12:=am_ (Kd.R_elder' (zr_ HO_12) (Kd.R_base ho0) hb);replace BK1:=bb_ BK1 hb;replace HB:=am_ (below_step (zl1_ HB GE1) hb);(try clear hb ho0);obtain ⟨Ao81,co81,eo81⟩:=Kd.R_slice HO56.out;subst eo81;obtain ⟨hcz82_0,hcz82_1⟩:=x2_ BK1;have hfz82_0:=blk_frozen BK1.out 0;have hfz82_1:=blk_frozen BK1.out 1))
       refine bodyPost_ret (results_cell_row rfl _ _ gb1 73 #[.slice Ao81 t54.length co81, .int .i64 t57] (0,0) _ rfl (zw_ BK1) Try.underlying73 rfl (by kernel_rfl)) rfl ?_;exact ⟨_,by first|rfl|(simp [errW_none,errW_some]<;>rfl)|(simp [*,errW_none,errW_some]<;>rfl),zy_ HO56 BK1,zl1_ HB GE1⟩
def r10_Below.l0:Nat→List (S79)→ByteArray→List ByteArray→Int→Option (List ByteArray)
 |0,_,_,_,_=>none
 |k+1,x0,x1,x5,x6=>if x6<(x0.length:Int) then (if 0≤x6 then (if ((rd_T79 x0 x6).f1).toList=x1.toList then (if x5.length<8796093022208 then (r10_Below.l0 k x0 x1 (x5++ [(rd_T79 x0 x6).f0]) (wrap64 (x6+1))) else (none)) else (r10_Below.l0 k x0 x1 x5 (wrap64 (x6+1)))) else (none)) else (some x5)
def r10_Below.f (k:Nat) (l0:List (S79)) (a1:ByteArray):Option (List ByteArray):=r10_Below.l0 k l0 a1 ([]:List ByteArray) 0
theorem r10_Below.mono_l: ∀k,(∀y0 y1 y2 y3,LeO (r10_Below.l0 k y0 y1 y2 y3) (r10_Below.l0 (k+1) y0 y1 y2 y3))
 |0=>fun _ _ _ _ r h=>by simp [r10_Below.l0] at h
 |k+1=>by
  have ih0:=r10_Below.mono_l k;intro y0 y1 y2 y3;unfold r10_Below.l0
  repeat' with_reducible first|apply ih0|apply LeO.refl|apply LeO.none|apply LeO.ite|refine LeO.bind ?_ fun _=> ?_
theorem r10_Below.mono: ∀a0 a1 k,LeO (r10_Below.f k a0 a1) (r10_Below.f (k+1) a0 a1):=by
 intro a0 a1 k;have ih0:=r10_Below.mono_l k;unfold r10_Below.f
 repeat' with_reducible first|apply ih0|apply LeO.refl|apply LeO.none|apply LeO.ite|refine LeO.bind ?_ fun _=> ?_
set_option maxHeartbeats 8000000 in
set_option maxRecDepth 100000 in
theorem r10_Below.calls (k:Nat) (A0:Option Addr) (c0:Nat) (l0:List (S79)) (a1:ByteArray) (r:List ByteArray) (w:World) (hr0:Kd.C k79 w A0 l0.length l0) (hc0:l0.length≤c0) (h:r10_Below.f k l0 a1=some r):
  Calls Try.prog 136 #[.slice A0 l0.length c0, .string a1] w fun e w'=> ∃v0_:Value,e= .returned (v0_)∧Kd.R Kd.string 9 w' w.heap.size (fun _=>True) v0_ r∧Below w.heap.size w w':=by
 have HR0:=Aside0.mk hr0;have HC0:=Aside0.mk hc0;clear hr0 hc0;have HB:=am_ (Below.refl w.heap.size w);have H:(r10_Below.l0 k l0 a1 ([]:List ByteArray) 0)=some r:=h;clear h;have H':=Aside0.mk H;clear H;go_enter Try.func136,Try.ntmps136;go_wp2
 go_loopg [5,6] k (fun kq v5 v6 w'=> ∃(x5_1:List ByteArray) (x6_1:Int),v6= .int .i64 x6_1∧Aside0 (r10_Below.l0 kq l0 a1 x5_1 x6_1=some r)∧Aside0 (kq≤k)∧Aside0 (Kd.R Kd.string 9 w' w.heap.size (fun _=>True) v5 x5_1)∧Aside0 (Below w.heap.size w w'))
 case atStart=>exact ⟨(([]:List ByteArray)),(0),rf_,H',⟨Nat.le_refl _⟩,⟨by first|exact Kd.R_nil _ _ _ _ _|exact Kd.N_nil _ _ _ _ _|exact Kd.V_nil _ _ _ _ _|exact Kd.Q_nil _ _ _ _ _|exact Kd.S_nil _ _ _ _ _⟩,⟨zl0_ HB⟩⟩
 case round=>
  clear H';obtain ⟨x5_1,x6_1,rfl,HA,HK1,HO_5,HB⟩:=hrel
  cases gk with
  |zero=>exact absurd HA.out (by simp [r10_Below.l0])
  |succ k1=>
   have H:=HA.out;clear HA;simp only [r10_Below.l0] at H;by_cases c3:x6_1<(l0.length:Int);rotate_left
   ·rw [if_neg c3] at H;have c3b0:=decide_eq_false c3;clear c3;obtain rfl:=Option.some.inj H;go_wp2
    go_ret
    exact ⟨_,by first|rfl|(simp [errW_none,errW_some]<;>rfl)|(simp [*,errW_none,errW_some]<;>rfl),zr_ HO_5,zl0_ HB⟩

   rw [if_pos c3] at H;have c3b0:=decide_eq_true c3;clear c3;replace H:=zif_ H;obtain ⟨c4,H⟩:=H;have c4b0:=decide_eq_true c4;clear c4;by_cases c5:((rd_T79 l0 x6_1).f1).toList=a1.toList;rotate_left
   ·rw [if_neg c5] at H;have c5b0:=beq_eq_false_iff_ne.mpr c5;have c5b1:=bne_iff_ne.mpr c5;have H':=Aside0.mk H;clear H;obtain ⟨p1,q1,ad1,e1,hx1_0,hx1_1,hx1_2,hx1_3,hx1_4,hx1_5,hx1_6,hx1_7,hx1_8,hx1_9,hx1_10,hx1_11⟩:=zat_ (at_T79 HR0.out x6_1);cases e1;replace hx1_0:=zx12_ HB hx1_0 hx1_1 hx1_2 hx1_3 hx1_4 hx1_5 hx1_6 hx1_7 hx1_8 hx1_9 hx1_10 hx1_11;clear hx1_1 hx1_2 hx1_3 hx1_4 hx1_5 hx1_6 hx1_7 hx1_8 hx1_9 hx1_10 hx1_11;obtain ⟨hx1_0,hx1_1,hx1_2,hx1_3,hx1_4,hx1_5,hx1_6,hx1_7,hx1_8,hx1_9,hx1_10,hx1_11⟩:=hx1_0;go_wp2
    go_roundg k1
    case measure=>have:=HK1.out;omega
    case rel=>exact ⟨(x5_1),(wrap64 (x6_1+1)),rf_,H',⟨by have:=HK1.out;omega⟩,am_ (zr_ HO_5),⟨zl0_ HB⟩⟩
   rw [if_pos c5] at H;have c5b0:=beq_iff_eq.mpr c5;have c5b1:=bne_eq_false_iff_eq.mpr c5;clear c5;replace H:=zif_ H;obtain ⟨c6,H⟩:=H;have LMc6:=Aside0.mk c6;clear c6;obtain ⟨y3,hy3⟩: ∃y_:List ByteArray,y_=(x5_1++ [(rd_T79 l0 x6_1).f0]):=⟨_,rfl⟩;(first|replace H:=zsb_ hy3 H|rw [←hy3] at H);have Ny3:=Aside0.mk hy3;clear hy3;have H':=Aside0.mk H;clear H;obtain ⟨p1,q1,ad1,e1,hx1_0,hx1_1,hx1_2,hx1_3,hx1_4,hx1_5,hx1_6,hx1_7,hx1_8,hx1_9,hx1_10,hx1_11⟩:=zat_ (at_T79 HR0.out x6_1);cases e1;replace hx1_0:=zx12_ HB hx1_0 hx1_1 hx1_2 hx1_3 hx1_4 hx1_5 hx1_6 hx1_7 hx1_8 hx1_9 hx1_10 hx1_11;clear hx1_1 hx1_2 hx1_3 hx1_4 hx1_5 hx1_6 hx1_7 hx1_8 hx1_9 hx1_10 hx1_11;obtain ⟨hx1_0,hx1_1,hx1_2,hx1_3,hx1_4,hx1_5,hx1_6,hx1_7,hx1_8,hx1_9,hx1_10,hx1_11⟩:=hx1_0;obtain ⟨p2,q2,ad2,e2,hx2_0,hx2_1,hx2_2,hx2_3,hx2_4,hx2_5,hx2_6,hx2_7,hx2_8,hx2_9,hx2_10,hx2_11⟩:=zat_ (at_T79 HR0.out x6_1);obtain rfl:ad1=ad2:=(by injection e2);replace hx2_0:=zx12_ HB hx2_0 hx2_1 hx2_2 hx2_3 hx2_4 hx2_5 hx2_6 hx2_7 hx2_8 hx2_9 hx2_10 hx2_11;clear hx2_1 hx2_2 hx2_3 hx2_4 hx2_5 hx2_6 hx2_7 hx2_8 hx2_9 hx2_10 hx2_11;obtain ⟨hx2_0,hx2_1,hx2_2,hx2_3,hx2_4,hx2_5,hx2_6,hx2_7,hx2_8,hx2_9,hx2_10,hx2_11⟩:=hx2_0
   go_wp2_with (first|((with_reducible refine gate_builtin (b:= .append) (xs:=#[.tmp 20, .tmp 26]) rfl ?_);at_builtin;refine Kd.R_append Kd.string (w0:=w) w.heap.size rfl (.tmp 20) (.tmp 26) 85 9 (.string ⟨#[]⟩) 16 rfl Try.underlying85 info9 rfl (by decide) (by omega) u5 x5_1 ((rd_T79 l0 x6_1).f0) [.string ((rd_T79 l0 x6_1).f0)] (fun _=>True) (fun _=>False) rfl rfl ?aP (fun _ hk=>hk.elim) ?aF ?aO ?aB ?aS ?aL ?_;(case aP=>exact rfl);(case aB=>exact (zl0_ HB));(case aF=>exact (fun _ _=>trivial));(case aO=>exact (zr_ HO_5));(case aS=>exact (below_size (zl0_ HB)));(case aL=>have:=LMc6.out;omega);intro v4 w7 ho hb hg hat;rw [←Ny3.out] at ho;have n0_:=am_ (hb);have n1_:=am_ (ho);clear HB;clear HO_5;have HB:=n0_;have HO5:=n1_;clear n0_ n1_;clear ho hb hg hat))
   go_roundg k1
   case measure=>have:=HK1.out;omega
   case rel=>exact ⟨(y3),(wrap64 (x6_1+1)),rf_,H',⟨by have:=HK1.out;omega⟩,am_ (zr_ HO5),⟨zl0_ HB⟩⟩
attribute [local go_sem high] eqA37
def r10_Delete.j0:Nat→List (S79)→Int→Bool→Option ((List (S79))×Int)
 |0,_,_,_=>none
 |k+1,x0,x8,x34=>if x34=true then ((r10_no.f 13).bind fun bt12=>(some (bt12.1,bt12.2))) else (if 0≤x8 then (if x8≤(x0.length:Int) then ((r10_copied.f (x0.take (x8:Int).toNat)).bind fun t20=>(if 0≤(wrap64 (x8+1)) then (if (wrap64 (x8+1))≤(x0.length:Int) then ((some (x0.drop ((wrap64 (x8+1)):Int).toNat:List (S79))).bind fun y23=>(if t20.length+y23.length<1256584717458 then (some ((t20++y23),0)) else (none))) else (none)) else (none))) else (none)) else (none))
def r10_Delete.f (k:Nat) (l0:List (S79)) (a1:ByteArray) (a2:Int):Option ((List (S79))×Int):=(r10_old.f k l0 a1 a2).bind fun t2=>(if t2=0 then ((r10_Find.f k l0 a1).bind fun t7=>((r10_Below.f k l0 a1).bind fun t8=>(if (t8.length:Int)>0 then (r10_Delete.j0 k l0 t7 true) else (if 0≤t7 then (if t7<(l0.length:Int) then (r10_Delete.j0 k l0 t7 (!(((rd_T79 l0 t7).f3.f0)==0)||(!(((rd_T79 l0 t7).f3.f1)==0)||(!(((rd_T79 l0 t7).f3.f2)==0))))) else (none)) else (none))))) else ((r10_no.f t2).bind fun bt3=>(some (bt3.1,bt3.2))))
theorem r10_Delete.mono_l: ∀k,(∀y0 y1 y2,LeO (r10_Delete.j0 k y0 y1 y2) (r10_Delete.j0 (k+1) y0 y1 y2))
 |0=>fun _ _ _ r h=>by simp [r10_Delete.j0] at h
 |k+1=>by
  have ih0:=r10_Delete.mono_l k;intro y0 y1 y2;unfold r10_Delete.j0
  repeat' with_reducible first|apply ih0|apply r10_Below.mono|apply r10_Find.mono|apply r10_old.mono|apply LeO.refl|apply LeO.none|apply LeO.ite|refine LeO.bind ?_ fun _=> ?_
theorem r10_Delete.mono: ∀a0 a1 a2 k,LeO (r10_Delete.f k a0 a1 a2) (r10_Delete.f (k+1) a0 a1 a2):=by
 intro a0 a1 a2 k;have ih0:=r10_Delete.mono_l k;unfold r10_Delete.f
 repeat' with_reducible first|apply ih0|apply r10_Below.mono|apply r10_Find.mono|apply r10_old.mono|apply LeO.refl|apply LeO.none|apply LeO.ite|refine LeO.bind ?_ fun _=> ?_
set_option maxHeartbeats 8000000 in
set_option maxRecDepth 100000 in
theorem r10_Delete.calls (k:Nat) (A0:Option Addr) (c0:Nat) (l0:List (S79)) (a1:ByteArray) (a2:Int) (r1:List (S79)) (r2:Int) (w:World) (hr0:Kd.C k79 w A0 l0.length l0) (hc0:l0.length≤c0) (h:r10_Delete.f k l0 a1 a2=some (r1,r2)):
  Calls Try.prog 100 #[.slice A0 l0.length c0, .string a1, .int .i64 a2] w fun e w'=> ∃v0_:Value,e= .returned (.agg #[v0_, .int .i64 r2])∧Kd.R k79 79 w' w.heap.size (fun _=>True) v0_ r1∧Below w.heap.size w w':=by
 have hu73:=Try.underlying73;have hu37:=Try.underlying37;have HR0:=Aside0.mk hr0;have HC0:=Aside0.mk hc0;clear hr0 hc0;have HB:=am_ (Below.refl w.heap.size w);have H:((r10_old.f k l0 a1 a2).bind fun t2=>(if t2=0 then ((r10_Find.f k l0 a1).bind fun t7=>((r10_Below.f k l0 a1).bind fun t8=>(if (t8.length:Int)>0 then (r10_Delete.j0 k l0 t7 true) else (if 0≤t7 then (if t7<(l0.length:Int) then (r10_Delete.j0 k l0 t7 (!(((rd_T79 l0 t7).f3.f0)==0)||(!(((rd_T79 l0 t7).f3.f1)==0)||(!(((rd_T79 l0 t7).f3.f2)==0))))) else (none)) else (none))))) else ((r10_no.f t2).bind fun bt3=>(some (bt3.1,bt3.2)))))=some (r1,r2):=h;clear h;replace H:=zbd_ H;obtain ⟨t2,A4,H⟩:=H;try dsimp only at H
 by_cases c5:t2=0;rotate_left
 ·rw [if_neg c5] at H;have c5b0:=beq_eq_false_iff_ne.mpr c5;have c5b1:=bne_iff_ne.mpr c5;replace H:=zbd_ H;obtain ⟨⟨t3,t6⟩,A35,H⟩:=H;try dsimp only at H
  simp only [Option.some.injEq,Prod.mk.injEq] at H;obtain ⟨rfl,rfl⟩:=H;go_enter Try.func100,Try.ntmps100;go_wp2_with (first|((with_reducible refine gate_dst (N:=6) rfl ?_);refine bx_ (N:=6) (cs:=#[.slice none 0 0, .int .i64 0]) (t:=73) ?_;intro gb1 hg w36 hbox hb;have BK1:=am_ (hbox);have GE1:=am_ ((zg0_ HB hg:w.heap.size≤gb1));replace HB:=am_ (below_step (zl0_ HB) hb);clear hb hbox hg)|((with_reducible refine gate_callee (f:=133) rfl ?_);refine gl_ (some 13) Try.func133 #[.slice A0 l0.length c0, .string a1, .int .i64 a2] ?_;(with_reducible refine (r10_old.calls k _ _ l0 a1 a2 t2 _ ?side1 ?side2 A4.out).mono ?_);(case side1=>exact zc_ (Kd.C_below HR0.out HB.out));(case side2=>exact HC0.out);rintro e w' ⟨rfl,⟨nd,rfl⟩⟩;refine ⟨_,rfl, ?_⟩;(try (rw [drewN_self w36];generalize hq_:World.drewN w36 _=w36;replace BK1:=am_ (qb_ hq_ BK1.out);replace HB:=am_ (ql_ hq_ HB.out);clear hq_)))|((with_reducible refine gate_callee (f:=101) rfl ?_);refine gl_ (some 17) Try.func101 #[.int .i64 t2] ?_;(with_reducible refine (r10_no.calls t2 t3 t6 _ A35.out).mono ?_);rintro e w37 ⟨v4,rfl,ho0,hb⟩;refine ⟨_,rfl, ?_⟩;have HO5:=am_ (Kd.R_lower ho0 (below_size (zl1_ HB GE1)));replace BK1:=bb_ BK1 hb;replace HB:=am_ (below_step (zl1_ HB GE1) hb);(try clear hb ho0);obtain ⟨Ao38,co38,eo38⟩:=Kd.R_slice HO5.out;subst eo38;obtain ⟨hcz39_0,hcz39_1⟩:=x2_ BK1;have hfz39_0:=blk_frozen BK1.out 0;have hfz39_1:=blk_frozen BK1.out 1))
  refine bodyPost_ret (results_cell_row rfl _ _ gb1 73 #[.slice Ao38 t3.length co38, .int .i64 t6] (0,0) _ rfl (zw_ BK1) Try.underlying73 rfl (by kernel_rfl)) rfl ?_;exact ⟨_,by first|rfl|(simp [errW_none,errW_some]<;>rfl)|(simp [*,errW_none,errW_some]<;>rfl),zy_ HO5 BK1,zl1_ HB GE1⟩

 rw [if_pos c5] at H;have c5b0:=beq_iff_eq.mpr c5;have c5b1:=bne_eq_false_iff_eq.mpr c5;clear c5;replace H:=zbd_ H;obtain ⟨t7,A6,H⟩:=H;try dsimp only at H
 have HC7:=Aside0.mk H;clear H;go_enter Try.func100,Try.ntmps100;go_upto_region 5 with (first|((with_reducible refine gate_dst (N:=6) rfl ?_);refine bx_ (N:=6) (cs:=#[.slice none 0 0, .int .i64 0]) (t:=73) ?_;intro gb1 hg w8 hbox hb;have BK1:=am_ (hbox);have GE1:=am_ ((zg0_ HB hg:w.heap.size≤gb1));replace HB:=am_ (below_step (zl0_ HB) hb);clear hb hbox hg)|((with_reducible refine gate_callee (f:=133) rfl ?_);refine gl_ (some 13) Try.func133 #[.slice A0 l0.length c0, .string a1, .int .i64 a2] ?_;(with_reducible refine (r10_old.calls k _ _ l0 a1 a2 t2 _ ?side1 ?side2 A4.out).mono ?_);(case side1=>exact zc_ (Kd.C_below HR0.out HB.out));(case side2=>exact HC0.out);rintro e w' ⟨rfl,⟨nd,rfl⟩⟩;refine ⟨_,rfl, ?_⟩)|((with_reducible refine gate_callee (f:=52) rfl ?_);refine gl_ (some 20) Try.func52 #[.slice A0 l0.length c0, .string a1] ?_;(with_reducible refine (r10_Find.calls k _ _ l0 a1 t7 _ ?side1 ?side2 A6.out).mono ?_);(case side1=>repeat (first|exact (Kd.C_below HR0.out (zl1_ HB GE1))|(with_reducible refine Kd.C_alloc ?_ _)|(with_reducible refine Kd.C_drewN ?_ _)|(with_reducible refine Kd.C_drew ?_)));(case side2=>exact HC0.out);rintro e w' ⟨rfl,⟨nd,rfl⟩⟩;refine ⟨_,rfl, ?_⟩))
 (try simp only [Act.put,List.setIfInBounds_toArray,List.set_cons_zero,List.set_cons_succ]);go_cut [34] (fun v34 wc=> ∃(kq:Nat) (x34_6:Bool),v34= .bool x34_6∧Aside0 (r10_Delete.j0 kq l0 t7 x34_6=some (r1,r2))∧Aside0 (kq≤k)∧Aside0 (wc.heap[gb1]?=some (.cells #[(.slice none 0 0), .int .i64 0] 73 (0,0)))∧Aside0 (Below w.heap.size w wc))
 case first=>
  have H:=HC7.out;clear HC7;replace H:=zbd_ H;obtain ⟨t8,A9,H⟩:=H;try dsimp only at H
  by_cases c10:(t8.length:Int)>0
  ·rw [if_pos c10] at H;have c10b0:decide (0<(t8.length:Int))=true:=decide_eq_true c10;have c10b1:decide (0<t8.length)=true:=decide_eq_true (by omega);clear c10;(first|rw [c10b0]|(simp only [i64_w,i32_w];rw [c10b0])|skip);have H':=Aside0.mk H;clear H;go_wp2_with (first|((with_reducible refine gate_callee (f:=136) rfl ?_);refine gl_ (some 23) Try.func136 #[.slice A0 l0.length c0, .string a1] ?_;(with_reducible refine (r10_Below.calls k _ _ l0 a1 t8 _ ?side1 ?side2 A9.out).mono ?_);(case side1=>exact zc_ (Kd.C_below HR0.out HB.out));(case side2=>exact HC0.out);rintro e w11 ⟨v9,rfl,ho0,hb⟩;refine ⟨_,rfl, ?_⟩;have HO10:=am_ (Kd.R_lower ho0 (below_size (zl1_ HB GE1)));replace BK1:=bb_ BK1 hb;replace HB:=am_ (below_step (zl1_ HB GE1) hb);(try clear hb ho0);obtain ⟨Ao12,co12,eo12⟩:=Kd.R_slice HO10.out;subst eo12))
   go_meet
   case rel=>exact ⟨_,(true),rf_,H',⟨by first|omega|exact Nat.le_refl _⟩,am_ (zb_ BK1),⟨zl1_ HB GE1⟩⟩
  rw [if_neg c10] at H;have c10b0:decide (0<(t8.length:Int))=false:=decide_eq_false c10;have c10b1:decide (0<t8.length)=false:=decide_eq_false (by omega);clear c10;(first|rw [c10b0]|(simp only [i64_w,i32_w];rw [c10b0])|skip);replace H:=zif_ H;obtain ⟨c13,H⟩:=H;have c13b0:=decide_eq_true c13;clear c13;replace H:=zif_ H;obtain ⟨c14,H⟩:=H;have c14b0:=decide_eq_true c14;clear c14;have H':=Aside0.mk H;clear H
  go_wp2_with (first|((with_reducible refine gate_callee (f:=136) rfl ?_);refine gl_ (some 23) Try.func136 #[.slice A0 l0.length c0, .string a1] ?_;(with_reducible refine (r10_Below.calls k _ _ l0 a1 t8 _ ?side1 ?side2 A9.out).mono ?_);(case side1=>exact zc_ (Kd.C_below HR0.out HB.out));(case side2=>exact HC0.out);rintro e w15 ⟨v9,rfl,ho0,hb⟩;refine ⟨_,rfl, ?_⟩;have HO10:=am_ (Kd.R_lower ho0 (below_size (zl1_ HB GE1)));replace BK1:=bb_ BK1 hb;replace HB:=am_ (below_step (zl1_ HB GE1) hb);(try clear hb ho0);obtain ⟨Ao16,co16,eo16⟩:=Kd.R_slice HO10.out;subst eo16;have p11:0≤(t7:Int):=of_decide_eq_true zq_;have q11:t7<(l0.length:Int):=of_decide_eq_true zq_;obtain ⟨ad11,e11,hx11_0,hx11_1,hx11_2,hx11_3,hx11_4,hx11_5,hx11_6,hx11_7,hx11_8,hx11_9,hx11_10,hx11_11⟩:=at_T79 HR0.out t7 p11 q11;cases e11;replace hx11_0:=zx12_ HB hx11_0 hx11_1 hx11_2 hx11_3 hx11_4 hx11_5 hx11_6 hx11_7 hx11_8 hx11_9 hx11_10 hx11_11;clear hx11_1 hx11_2 hx11_3 hx11_4 hx11_5 hx11_6 hx11_7 hx11_8 hx11_9 hx11_10 hx11_11;obtain ⟨hx11_0,hx11_1,hx11_2,hx11_3,hx11_4,hx11_5,hx11_6,hx11_7,hx11_8,hx11_9,hx11_10,hx11_11⟩:=hx11_0;replace p11:=eq_true p11;replace q11:=eq_true q11))
  go_meet
  case rel=>exact ⟨_,((!(((rd_T79 l0 t7).f3.f0)==0)||(!(((rd_T79 l0 t7).f3.f1)==0)||(!(((rd_T79 l0 t7).f3.f2)==0))))),rf_,H',⟨by first|omega|exact Nat.le_refl _⟩,am_ (zb_ BK1),⟨zl1_ HB GE1⟩⟩
 case rest=>
  clear HC7;obtain ⟨kq,x34_6,rfl,HA,HJ6,BK1,HB⟩:=hcut
  cases kq with
  |zero=>exact absurd HA.out (by simp [r10_Delete.j0])
  |succ kj6=>
   have H:=HA.out;clear HA;simp only [r10_Delete.j0] at H;by_cases c17:x34_6=true
   ·subst c17;rw [if_pos rfl] at H;replace H:=zbd_ H;obtain ⟨⟨t12,t15⟩,A18,H⟩:=H;try dsimp only at H
    simp only [Option.some.injEq,Prod.mk.injEq] at H;obtain ⟨rfl,rfl⟩:=H;go_wp2_with (first|((with_reducible refine gate_callee (f:=101) rfl ?_);refine gl_ (some 35) Try.func101 #[.int .i64 13] ?_;(with_reducible refine (r10_no.calls 13 t12 t15 _ A18.out).mono ?_);rintro e w19 ⟨v13,rfl,ho0,hb⟩;refine ⟨_,rfl, ?_⟩;have HO14:=am_ (Kd.R_lower ho0 (below_size (zl1_ HB GE1)));replace BK1:=bb_ BK1 hb;replace HB:=am_ (below_step (zl1_ HB GE1) hb);(try clear hb ho0);obtain ⟨Ao20,co20,eo20⟩:=Kd.R_slice HO14.out;subst eo20;obtain ⟨hcz21_0,hcz21_1⟩:=x2_ BK1;have hfz21_0:=blk_frozen BK1.out 0;have hfz21_1:=blk_frozen BK1.out 1))
    refine bodyPost_ret (results_cell_row rfl _ _ gb1 73 #[.slice Ao20 t12.length co20, .int .i64 t15] (0,0) _ rfl (zw_ BK1) Try.underlying73 rfl (by kernel_rfl)) rfl ?_;exact ⟨_,by first|rfl|(simp [errW_none,errW_some]<;>rfl)|(simp [*,errW_none,errW_some]<;>rfl),zy_ HO14 BK1,zl1_ HB GE1⟩
   replace c17:=Bool.eq_false_iff.mpr c17;subst c17;rw [if_neg (show¬(false=true) by decide)] at H;replace H:=zif_ H;obtain ⟨c22,H⟩:=H;have c22b0:=eq_true c22;have c22b1:=decide_eq_true c22;clear c22;replace H:=zif_ H;obtain ⟨c23,H⟩:=H;have c23b0:=eq_true c23;have c23b1:=decide_eq_true c23;clear c23;obtain ⟨y16,hy16⟩: ∃y_:List (S79),y_=(l0.take (t7:Int).toNat):=⟨_,rfl⟩;(first|replace H:=zsb_ hy16 H|rw [←hy16] at H);have Ny16:=Aside0.mk hy16;clear hy16;replace H:=zbd_ H;obtain ⟨t20,A24,H⟩:=H;try dsimp only at H
   obtain ⟨ji25,hji25⟩: ∃j_:Int,(wrap64 (t7+1))=j_:=⟨_,rfl⟩;replace H:(if 0≤(ji25) then (if (ji25)≤(l0.length:Int) then ((some (l0.drop ((ji25):Int).toNat:List (S79))).bind fun y23=>(if t20.length+y23.length<1256584717458 then (some ((t20++y23),0)) else (none))) else (none)) else (none))=some (r1,r2):=by first|(rw [hji25] at H;exact H)|(simp only [hji25] at H ⊢;exact H)
   (try rw [hji25] at A24);have hji25w:(IntKind.i64.wrap (t7+1))=ji25:=(i64_w _).trans hji25;replace H:=zif_ H;obtain ⟨c26,H⟩:=H;have c26b0:=eq_true c26;have c26b1:=decide_eq_true c26;clear c26;replace H:=zif_ H;obtain ⟨c27,H⟩:=H;have c27b0:=eq_true c27;have c27b1:=decide_eq_true c27;clear c27;obtain ⟨y23,hy23⟩: ∃y_:List (S79),y_=(l0.drop ((ji25):Int).toNat):=⟨_,rfl⟩;(first|replace H:=zsb_ hy23 H|rw [←hy23] at H);have Ny23:=Aside0.mk hy23;clear hy23;replace H:=zif_ H;obtain ⟨c28,H⟩:=H;have LMc28:=Aside0.mk c28;clear c28;obtain ⟨y27,hy27⟩: ∃y_:List (S79),y_=(t20++y23):=⟨_,rfl⟩;(first|replace H:=zsb_ hy27 H|rw [←hy27] at H);have Ny27:=Aside0.mk hy27;clear hy27;simp only [Option.some.injEq,Prod.mk.injEq] at H;obtain ⟨rfl,rfl⟩:=H;have q29:(t7:Int)≤((l0.length:Int):Int):=of_decide_eq_true zq_;obtain ⟨i029,hi029,_,hsz29,_⟩:=info_parts info79;have hroom29:l0.length≤c0:=HC0.out;have hC29:Kd.C k79 _ A0 l0.length l0:=HR0.out;have hcut29:=cut_to (P:=Try.prog) 46 79 .i64 Try.underlying46 hi029 A0 l0.length c0 t7 (of_decide_eq_true zq_) q29 hroom29;have hr29:=Kd.C_take (m:=(t7:Int).toNat) hC29 (by omega);have hy29:y16.length=(t7:Int).toNat:=(by rw [Ny16.out,List.length_take];omega);rw [←Ny16.out] at hr29;rw [←hy29] at hcut29;have HR19:=Aside0.mk hr29;have HC19:=am_ (show y16.length≤c0 from by omega);clear hr29 hC29 hroom29 hi029 hsz29;have KY29:=Aside0.mk hy29;clear hy29;replace q29:=eq_true q29
   go_wp2_with (first|((with_reducible refine gate_callee (f:=119) rfl ?_);refine gl_ (some 39) Try.func119 #[.slice A0 y16.length c0] ?_;(with_reducible refine (r10_copied.calls _ _ y16 t20 _ ?side1 ?side2 A24.out).mono ?_);(case side1=>exact zc_ (Kd.C_below HR19.out HB.out));(case side2=>exact HC19.out);rintro e w30 ⟨v21,rfl,ho0,hb⟩;refine ⟨_,rfl, ?_⟩;have HO22:=am_ (Kd.R_lower ho0 (below_size (zl1_ HB GE1)));replace BK1:=bb_ BK1 hb;replace HB:=am_ (below_step (zl1_ HB GE1) hb);(try clear hb ho0);have q31:((ji25):Int)≤((l0.length:Int):Int):=of_decide_eq_true zq_;obtain ⟨i031,hi031,_,hsz31,_⟩:=info_parts info79;have hroom31:l0.length≤c0:=HC0.out;have hC31:Kd.C k79 _ A0 l0.length l0:=HR0.out;have q031:(0:Int)≤((ji25):Int):=of_decide_eq_true zq_;have hcut31:=cut_from (P:=Try.prog) 46 79 .i64 Try.underlying46 hi031 12 hsz31 A0 l0.length c0 (ji25) q031 q31;have hr31:=Kd.C_drop (m:=((ji25):Int).toNat) (c:=c0) hC31 (by omega) hroom31;obtain ⟨A31,hA31⟩: ∃A1,A1=(if c0=((ji25):Int).toNat then A0 else (A0:Option Addr).map (·.add (((ji25):Int).toNat*12))):=⟨_,rfl⟩;obtain ⟨c31,hc31⟩: ∃c1,c1=c0 - ((ji25):Int).toNat:=⟨_,rfl⟩;have hy31:y23.length=l0.length - ((ji25):Int).toNat:=(by rw [Ny23.out,List.length_drop]<;>omega);rw [show (l0).drop ((ji25):Int).toNat=y23 from Ny23.out.symm] at hr31;replace hr31:Kd.C k79 _ A31 y23.length y23:=(by rw [hA31];exact hr31);rw [←hy31,←hA31,←hc31] at hcut31;have HR26:=Aside0.mk hr31;have HC26:=am_ (show y23.length≤c31 from by rw [hy31,hc31];exact Nat.sub_le_sub_right hroom31 _);clear hr31 hC31 hroom31 hi031 hsz31 hc31;have KY31:=Aside0.mk hy31;have KA31:=Aside0.mk hA31;clear hy31 hA31;replace q31:=eq_true q31)|((with_reducible refine gate_builtin (b:= .append) (xs:=#[.tmp 40, .tmp 44]) rfl ?_);at_builtin;refine Kd.R_append_rows k79 (w0:=w) w.heap.size rfl (.tmp 40) (.tmp 44) 46 79 (.agg #[(.string ⟨#[]⟩),(.string ⟨#[]⟩),(.int .i64 0),(.int .i64 0),(.int .i64 0),(.int .i64 0),(.int .i64 0),(.int .i64 0),(.int .i64 0),(.int .i64 0),(.int .i64 0),(.int .i64 0)]) 112 rfl Try.underlying46 info79 rfl (by decide) (by omega) v21 t20 y23 _ _ _ (fun _=>True) (fun _=>False) rfl rfl ?aO ?aR (fun _ _ h=>h) (fun _ h=>h.elim) ?aF ?aB ?aS ?aL ?_;(case aR=>repeat (first|exact (Kd.C_below HR26.out HB.out)|(with_reducible refine Kd.C_alloc ?_ _)|(with_reducible refine Kd.C_drewN ?_ _)|(with_reducible refine Kd.C_drew ?_)));(case aB=>exact (zl1_ HB GE1));(case aF=>exact (fun _ _=>trivial));(case aO=>exact (zr_ HO22));(case aS=>exact (below_size (zl1_ HB GE1)));(case aL=>have:=LMc28.out;omega);intro v28 w32 ho hb hg hat;rw [←Ny27.out] at ho;have n0_:=am_ (blk_grown (zb_ BK1) hg (Kd.R_ne HO22.out BK1.out (by decide)));have n1_:=am_ (hb);have n2_:=am_ (ho);clear BK1;clear HB;clear HO22;have BK1:=n0_;have HB:=n1_;have HO29:=n2_;clear n0_ n1_ n2_;clear ho hb hg hat;obtain ⟨Ao33,co33,eo33⟩:=Kd.R_slice HO29.out;subst eo33;obtain ⟨hcz34_0,hcz34_1⟩:=x2_ BK1;have hfz34_0:=blk_frozen BK1.out 0;have hfz34_1:=blk_frozen BK1.out 1))
   refine bodyPost_ret (results_cell_row rfl _ _ gb1 73 #[.slice Ao33 y27.length co33, .int .i64 0] (0,0) _ rfl (zw_ BK1) Try.underlying73 rfl (by kernel_rfl)) rfl ?_;exact ⟨_,by first|rfl|(simp [errW_none,errW_some]<;>rfl)|(simp only [←hji25];first|rfl|(simp [errW_none,errW_some]<;>rfl))|(simp [*,errW_none,errW_some]<;>rfl),zy_ HO29 BK1,zl1_ HB GE1⟩
def r10_Do.f (k:Nat) (l0:List (S79)) (a1_0:Int) (a1_1:ByteArray) (a1_2:ByteArray) (a1_3:Int) (a1_4:Int) (a1_5:Int) (a2:Int):Option ((List (S79))×Int):=if a1_0=1 then ((r10_Create.f k l0 a1_1 a1_2 a1_3 a1_4 a1_5).bind fun bt3=>(some (bt3.1,bt3.2))) else (if a1_0=2 then ((r10_Limit.f k l0 a1_1 a1_3 a1_4 a1_5 a2).bind fun bt7=>(some (bt7.1,bt7.2))) else (if a1_0=3 then ((r10_Move.f k l0 a1_1 a1_2 a2).bind fun bt11=>(some (bt11.1,bt11.2))) else (if a1_0=4 then ((r10_Delete.f k l0 a1_1 a2).bind fun bt15=>(some (bt15.1,bt15.2))) else ((r10_no.f 1).bind fun bt19=>(some (bt19.1,bt19.2))))))
theorem r10_Do.mono: ∀a0 a1 a2 a3 a4 a5 a6 a7 k,LeO (r10_Do.f k a0 a1 a2 a3 a4 a5 a6 a7) (r10_Do.f (k+1) a0 a1 a2 a3 a4 a5 a6 a7):=by
 intro a0 a1 a2 a3 a4 a5 a6 a7 k;unfold r10_Do.f
 repeat' with_reducible first|apply r10_Create.mono|apply r10_Delete.mono|apply r10_Limit.mono|apply r10_Move.mono|apply LeO.refl|apply LeO.none|apply LeO.ite|refine LeO.bind ?_ fun _=> ?_
set_option maxHeartbeats 8000000 in
set_option maxRecDepth 100000 in
theorem r10_Do.calls (k:Nat) (A0:Option Addr) (c0:Nat) (l0:List (S79)) (a1_0:Int) (a1_1:ByteArray) (a1_2:ByteArray) (a1_3:Int) (a1_4:Int) (a1_5:Int) (a2:Int) (r1:List (S79)) (r2:Int) (w:World) (hr0:Kd.C k79 w A0 l0.length l0) (hc0:l0.length≤c0) (h:r10_Do.f k l0 a1_0 a1_1 a1_2 a1_3 a1_4 a1_5 a2=some (r1,r2)):
  Calls Try.prog 51 #[.slice A0 l0.length c0, .agg #[.int .i64 a1_0, .string a1_1, .string a1_2, .int .i64 a1_3, .int .i64 a1_4, .int .i64 a1_5], .int .i64 a2] w fun e w'=> ∃v0_:Value,e= .returned (.agg #[v0_, .int .i64 r2])∧Kd.R k79 79 w' w.heap.size (fun _=>True) v0_ r1∧Below w.heap.size w w':=by
 have hu76:=Try.underlying76;have hu73:=Try.underlying73;have hu37:=Try.underlying37;have HR0:=Aside0.mk hr0;have HC0:=Aside0.mk hc0;clear hr0 hc0;have HB:=am_ (Below.refl w.heap.size w);have H:(if a1_0=1 then ((r10_Create.f k l0 a1_1 a1_2 a1_3 a1_4 a1_5).bind fun bt3=>(some (bt3.1,bt3.2))) else (if a1_0=2 then ((r10_Limit.f k l0 a1_1 a1_3 a1_4 a1_5 a2).bind fun bt7=>(some (bt7.1,bt7.2))) else (if a1_0=3 then ((r10_Move.f k l0 a1_1 a1_2 a2).bind fun bt11=>(some (bt11.1,bt11.2))) else (if a1_0=4 then ((r10_Delete.f k l0 a1_1 a2).bind fun bt15=>(some (bt15.1,bt15.2))) else ((r10_no.f 1).bind fun bt19=>(some (bt19.1,bt19.2)))))))=some (r1,r2):=h;clear h;by_cases c4:a1_0=1
 ·rw [if_pos c4] at H;have c4b0:=beq_iff_eq.mpr c4;have c4b1:=bne_eq_false_iff_eq.mpr c4;clear c4;replace H:=zbd_ H;obtain ⟨⟨t3,t6⟩,A5,H⟩:=H;try dsimp only at H
  simp only [Option.some.injEq,Prod.mk.injEq] at H;obtain ⟨rfl,rfl⟩:=H;go_enter Try.func51,Try.ntmps51
  go_wp2_with (first|((with_reducible refine gate_dst (N:=4) rfl ?_);refine bx_ (N:=4) (cs:=#[.int .i64 a1_0, .string a1_1, .string a1_2, .int .i64 a1_3, .int .i64 a1_4, .int .i64 a1_5]) (t:=76) ?_;intro gb1 hg w6 hbox hb;have BK1:=am_ (hbox);have GE1:=am_ ((zg0_ HB hg:w.heap.size≤gb1));replace HB:=am_ (below_step (zl0_ HB) hb);clear hb hbox hg)|((with_reducible refine gate_dst (N:=6) rfl ?_);refine bx_ (N:=6) (cs:=#[.slice none 0 0, .int .i64 0]) (t:=73) ?_;intro gb2 hg w7 hbox hb;have BK2:=am_ (hbox);have GE2:=am_ ((zg1_ HB GE1 hg:w.heap.size≤gb2));replace HB:=am_ (below_step (zl1_ HB GE1) hb);have NB1_2:=am_ ((zn_ BK1 hg:gb1≠gb2));have NB2_1:=am_ ((zm_ BK1 hg:gb2≠gb1));replace BK1:=bb_ BK1 hb;clear hb hbox hg;have hnb8:=NB1_2.out;have hnc8:=NB2_1.out;obtain ⟨hcz9_0,hcz9_1,hcz9_2,hcz9_3,hcz9_4,hcz9_5⟩:=x6_ BK1;have hfz9_0:=blk_frozen BK1.out 0;have hfz9_1:=blk_frozen BK1.out 1;have hfz9_2:=blk_frozen BK1.out 2;have hfz9_3:=blk_frozen BK1.out 3;have hfz9_4:=blk_frozen BK1.out 4;have hfz9_5:=blk_frozen BK1.out 5)|((with_reducible refine gate_callee (f:=83) rfl ?_);refine gl_ (some 18) Try.func83 #[.slice A0 l0.length c0, .string a1_1, .string a1_2, .agg #[.int .i64 a1_3, .int .i64 a1_4, .int .i64 a1_5]] ?_;(with_reducible refine (r10_Create.calls k _ _ l0 a1_1 a1_2 a1_3 a1_4 a1_5 t3 t6 _ ?side1 ?side2 A5.out).mono ?_);(case side1=>exact zc_ (Kd.C_below HR0.out HB.out));(case side2=>exact HC0.out);rintro e w10 ⟨v4,rfl,ho0,hb⟩;refine ⟨_,rfl, ?_⟩;have HO5:=am_ (Kd.R_lower ho0 (below_size (zl2_ HB GE1 GE2)));replace BK1:=bb_ BK1 hb;replace BK2:=bb_ BK2 hb;replace HB:=am_ (below_step (zl2_ HB GE1 GE2) hb);(try clear hb ho0);obtain ⟨Ao11,co11,eo11⟩:=Kd.R_slice HO5.out;subst eo11;obtain ⟨hcz12_0,hcz12_1⟩:=x2_ BK2;have hfz12_0:=blk_frozen BK2.out 0;have hfz12_1:=blk_frozen BK2.out 1))
  refine bodyPost_ret (results_cell_row rfl _ _ gb2 73 #[.slice Ao11 t3.length co11, .int .i64 t6] (0,0) _ rfl (zw_ BK2) Try.underlying73 rfl (by kernel_rfl)) rfl ?_;exact ⟨_,by first|rfl|(simp [errW_none,errW_some]<;>rfl)|(simp [*,errW_none,errW_some]<;>rfl),zy_ HO5 BK2,zl2_ HB GE1 GE2⟩
 rw [if_neg c4] at H;have c4b0:=beq_eq_false_iff_ne.mpr c4;have c4b1:=bne_iff_ne.mpr c4;by_cases c13:a1_0=2
 ·rw [if_pos c13] at H;have c13b0:=beq_iff_eq.mpr c13;have c13b1:=bne_eq_false_iff_eq.mpr c13;clear c13;replace H:=zbd_ H;obtain ⟨⟨t7,t10⟩,A14,H⟩:=H;try dsimp only at H
  simp only [Option.some.injEq,Prod.mk.injEq] at H;obtain ⟨rfl,rfl⟩:=H;go_enter Try.func51,Try.ntmps51
  go_wp2_with (first|((with_reducible refine gate_dst (N:=4) rfl ?_);refine bx_ (N:=4) (cs:=#[.int .i64 a1_0, .string a1_1, .string a1_2, .int .i64 a1_3, .int .i64 a1_4, .int .i64 a1_5]) (t:=76) ?_;intro gb1 hg w15 hbox hb;have BK1:=am_ (hbox);have GE1:=am_ ((zg0_ HB hg:w.heap.size≤gb1));replace HB:=am_ (below_step (zl0_ HB) hb);clear hb hbox hg)|((with_reducible refine gate_dst (N:=6) rfl ?_);refine bx_ (N:=6) (cs:=#[.slice none 0 0, .int .i64 0]) (t:=73) ?_;intro gb2 hg w16 hbox hb;have BK2:=am_ (hbox);have GE2:=am_ ((zg1_ HB GE1 hg:w.heap.size≤gb2));replace HB:=am_ (below_step (zl1_ HB GE1) hb);have NB1_2:=am_ ((zn_ BK1 hg:gb1≠gb2));have NB2_1:=am_ ((zm_ BK1 hg:gb2≠gb1));replace BK1:=bb_ BK1 hb;clear hb hbox hg;have hnb17:=NB1_2.out;have hnc17:=NB2_1.out;obtain ⟨hcz18_0,hcz18_1,hcz18_2,hcz18_3,hcz18_4,hcz18_5⟩:=x6_ BK1;have hfz18_0:=blk_frozen BK1.out 0;have hfz18_1:=blk_frozen BK1.out 1;have hfz18_2:=blk_frozen BK1.out 2;have hfz18_3:=blk_frozen BK1.out 3;have hfz18_4:=blk_frozen BK1.out 4;have hfz18_5:=blk_frozen BK1.out 5)|((with_reducible refine gate_callee (f:=98) rfl ?_);refine gl_ (some 27) Try.func98 #[.slice A0 l0.length c0, .string a1_1, .agg #[.int .i64 a1_3, .int .i64 a1_4, .int .i64 a1_5], .int .i64 a2] ?_;(with_reducible refine (r10_Limit.calls k _ _ l0 a1_1 a1_3 a1_4 a1_5 a2 t7 t10 _ ?side1 ?side2 A14.out).mono ?_);(case side1=>exact zc_ (Kd.C_below HR0.out HB.out));(case side2=>exact HC0.out);rintro e w19 ⟨v8,rfl,ho0,hb⟩;refine ⟨_,rfl, ?_⟩;have HO9:=am_ (Kd.R_lower ho0 (below_size (zl2_ HB GE1 GE2)));replace BK1:=bb_ BK1 hb;replace BK2:=bb_ BK2 hb;replace HB:=am_ (below_step (zl2_ HB GE1 GE2) hb);(try clear hb ho0);obtain ⟨Ao20,co20,eo20⟩:=Kd.R_slice HO9.out;subst eo20;obtain ⟨hcz21_0,hcz21_1⟩:=x2_ BK2;have hfz21_0:=blk_frozen BK2.out 0;have hfz21_1:=blk_frozen BK2.out 1))
  refine bodyPost_ret (results_cell_row rfl _ _ gb2 73 #[.slice Ao20 t7.length co20, .int .i64 t10] (0,0) _ rfl (zw_ BK2) Try.underlying73 rfl (by kernel_rfl)) rfl ?_;exact ⟨_,by first|rfl|(simp [errW_none,errW_some]<;>rfl)|(simp [*,errW_none,errW_some]<;>rfl),zy_ HO9 BK2,zl2_ HB GE1 GE2⟩
 rw [if_neg c13] at H;have c13b0:=beq_eq_false_iff_ne.mpr c13;have c13b1:=bne_iff_ne.mpr c13;by_cases c22:a1_0=3
 ·rw [if_pos c22] at H;have c22b0:=beq_iff_eq.mpr c22;have c22b1:=bne_eq_false_iff_eq.mpr c22;clear c22;replace H:=zbd_ H;obtain ⟨⟨t11,t14⟩,A23,H⟩:=H;try dsimp only at H
  simp only [Option.some.injEq,Prod.mk.injEq] at H;obtain ⟨rfl,rfl⟩:=H;go_enter Try.func51,Try.ntmps51
  go_wp2_with (first|((with_reducible refine gate_dst (N:=4) rfl ?_);refine bx_ (N:=4) (cs:=#[.int .i64 a1_0, .string a1_1, .string a1_2, .int .i64 a1_3, .int .i64 a1_4, .int .i64 a1_5]) (t:=76) ?_;intro gb1 hg w24 hbox hb;have BK1:=am_ (hbox);have GE1:=am_ ((zg0_ HB hg:w.heap.size≤gb1));replace HB:=am_ (below_step (zl0_ HB) hb);clear hb hbox hg)|((with_reducible refine gate_dst (N:=6) rfl ?_);refine bx_ (N:=6) (cs:=#[.slice none 0 0, .int .i64 0]) (t:=73) ?_;intro gb2 hg w25 hbox hb;have BK2:=am_ (hbox);have GE2:=am_ ((zg1_ HB GE1 hg:w.heap.size≤gb2));replace HB:=am_ (below_step (zl1_ HB GE1) hb);have NB1_2:=am_ ((zn_ BK1 hg:gb1≠gb2));have NB2_1:=am_ ((zm_ BK1 hg:gb2≠gb1));replace BK1:=bb_ BK1 hb;clear hb hbox hg;have hnb26:=NB1_2.out;have hnc26:=NB2_1.out;obtain ⟨hcz27_0,hcz27_1,hcz27_2,hcz27_3,hcz27_4,hcz27_5⟩:=x6_ BK1;have hfz27_0:=blk_frozen BK1.out 0;have hfz27_1:=blk_frozen BK1.out 1;have hfz27_2:=blk_frozen BK1.out 2;have hfz27_3:=blk_frozen BK1.out 3;have hfz27_4:=blk_frozen BK1.out 4;have hfz27_5:=blk_frozen BK1.out 5)|((with_reducible refine gate_callee (f:=99) rfl ?_);refine gl_ (some 36) Try.func99 #[.slice A0 l0.length c0, .string a1_1, .string a1_2, .int .i64 a2] ?_;(with_reducible refine (r10_Move.calls k _ _ l0 a1_1 a1_2 a2 t11 t14 _ ?side1 ?side2 A23.out).mono ?_);(case side1=>exact zc_ (Kd.C_below HR0.out HB.out));(case side2=>exact HC0.out);rintro e w28 ⟨v12,rfl,ho0,hb⟩;refine ⟨_,rfl, ?_⟩;have HO13:=am_ (Kd.R_lower ho0 (below_size (zl2_ HB GE1 GE2)));replace BK1:=bb_ BK1 hb;replace BK2:=bb_ BK2 hb;replace HB:=am_ (below_step (zl2_ HB GE1 GE2) hb);(try clear hb ho0);obtain ⟨Ao29,co29,eo29⟩:=Kd.R_slice HO13.out;subst eo29;obtain ⟨hcz30_0,hcz30_1⟩:=x2_ BK2;have hfz30_0:=blk_frozen BK2.out 0;have hfz30_1:=blk_frozen BK2.out 1))
  refine bodyPost_ret (results_cell_row rfl _ _ gb2 73 #[.slice Ao29 t11.length co29, .int .i64 t14] (0,0) _ rfl (zw_ BK2) Try.underlying73 rfl (by kernel_rfl)) rfl ?_;exact ⟨_,by first|rfl|(simp [errW_none,errW_some]<;>rfl)|(simp [*,errW_none,errW_some]<;>rfl),zy_ HO13 BK2,zl2_ HB GE1 GE2⟩
 rw [if_neg c22] at H;have c22b0:=beq_eq_false_iff_ne.mpr c22;have c22b1:=bne_iff_ne.mpr c22;by_cases c31:a1_0=4
 ·rw [if_pos c31] at H;have c31b0:=beq_iff_eq.mpr c31;have c31b1:=bne_eq_false_iff_eq.mpr c31;clear c31;replace H:=zbd_ H;obtain ⟨⟨t15,t18⟩,A32,H⟩:=H;try dsimp only at H
  simp only [Option.some.injEq,Prod.mk.injEq] at H;obtain ⟨rfl,rfl⟩:=H;go_enter Try.func51,Try.ntmps51
  go_wp2_with (first|((with_reducible refine gate_dst (N:=4) rfl ?_);refine bx_ (N:=4) (cs:=#[.int .i64 a1_0, .string a1_1, .string a1_2, .int .i64 a1_3, .int .i64 a1_4, .int .i64 a1_5]) (t:=76) ?_;intro gb1 hg w33 hbox hb;have BK1:=am_ (hbox);have GE1:=am_ ((zg0_ HB hg:w.heap.size≤gb1));replace HB:=am_ (below_step (zl0_ HB) hb);clear hb hbox hg)|((with_reducible refine gate_dst (N:=6) rfl ?_);refine bx_ (N:=6) (cs:=#[.slice none 0 0, .int .i64 0]) (t:=73) ?_;intro gb2 hg w34 hbox hb;have BK2:=am_ (hbox);have GE2:=am_ ((zg1_ HB GE1 hg:w.heap.size≤gb2));replace HB:=am_ (below_step (zl1_ HB GE1) hb);have NB1_2:=am_ ((zn_ BK1 hg:gb1≠gb2));have NB2_1:=am_ ((zm_ BK1 hg:gb2≠gb1));replace BK1:=bb_ BK1 hb;clear hb hbox hg;have hnb35:=NB1_2.out;have hnc35:=NB2_1.out;obtain ⟨hcz36_0,hcz36_1,hcz36_2,hcz36_3,hcz36_4,hcz36_5⟩:=x6_ BK1;have hfz36_0:=blk_frozen BK1.out 0;have hfz36_1:=blk_frozen BK1.out 1;have hfz36_2:=blk_frozen BK1.out 2;have hfz36_3:=blk_frozen BK1.out 3;have hfz36_4:=blk_frozen BK1.out 4;have hfz36_5:=blk_frozen BK1.out 5)|((with_reducible refine gate_callee (f:=100) rfl ?_);refine gl_ (some 43) Try.func100 #[.slice A0 l0.length c0, .string a1_1, .int .i64 a2] ?_;(with_reducible refine (r10_Delete.calls k _ _ l0 a1_1 a2 t15 t18 _ ?side1 ?side2 A32.out).mono ?_);(case side1=>exact zc_ (Kd.C_below HR0.out HB.out));(case side2=>exact HC0.out);rintro e w37 ⟨v16,rfl,ho0,hb⟩;refine ⟨_,rfl, ?_⟩;have HO17:=am_ (Kd.R_lower ho0 (below_size (zl2_ HB GE1 GE2)));replace BK1:=bb_ BK1 hb;replace BK2:=bb_ BK2 hb;replace HB:=am_ (below_step (zl2_ HB GE1 GE2) hb);(try clear hb ho0);obtain ⟨Ao38,co38,eo38⟩:=Kd.R_slice HO17.out;subst eo38;obtain ⟨hcz39_0,hcz39_1⟩:=x2_ BK2;have hfz39_0:=blk_frozen BK2.out 0;have hfz39_1:=blk_frozen BK2.out 1))
  refine bodyPost_ret (results_cell_row rfl _ _ gb2 73 #[.slice Ao38 t15.length co38, .int .i64 t18] (0,0) _ rfl (zw_ BK2) Try.underlying73 rfl (by kernel_rfl)) rfl ?_;exact ⟨_,by first|rfl|(simp [errW_none,errW_some]<;>rfl)|(simp [*,errW_none,errW_some]<;>rfl),zy_ HO17 BK2,zl2_ HB GE1 GE2⟩
 rw [if_neg c31] at H;have c31b0:=beq_eq_false_iff_ne.mpr c31;have c31b1:=bne_iff_ne.mpr c31;replace H:=zbd_ H;obtain ⟨⟨t19,t22⟩,A40,H⟩:=H;try dsimp only at H
 simp only [Option.some.injEq,Prod.mk.injEq] at H;obtain ⟨rfl,rfl⟩:=H;go_enter Try.func51,Try.ntmps51
 go_wp2_with (first|((with_reducible refine gate_dst (N:=4) rfl ?_);refine bx_ (N:=4) (cs:=#[.int .i64 a1_0, .string a1_1, .string a1_2, .int .i64 a1_3, .int .i64 a1_4, .int .i64 a1_5]) (t:=76) ?_;intro gb1 hg w41 hbox hb;have BK1:=am_ (hbox);have GE1:=am_ ((zg0_ HB hg:w.heap.size≤gb1));replace HB:=am_ (below_step (zl0_ HB) hb);clear hb hbox hg)|((with_reducible refine gate_dst (N:=6) rfl ?_);refine bx_ (N:=6) (cs:=#[.slice none 0 0, .int .i64 0]) (t:=73) ?_;intro gb2 hg w42 hbox hb;have BK2:=am_ (hbox);have GE2:=am_ ((zg1_ HB GE1 hg:w.heap.size≤gb2));replace HB:=am_ (below_step (zl1_ HB GE1) hb);have NB1_2:=am_ ((zn_ BK1 hg:gb1≠gb2));have NB2_1:=am_ ((zm_ BK1 hg:gb2≠gb1));replace BK1:=bb_ BK1 hb;clear hb hbox hg;have hnb43:=NB1_2.out;have hnc43:=NB2_1.out;obtain ⟨hcz44_0,hcz44_1,hcz44_2,hcz44_3,hcz44_4,hcz44_5⟩:=x6_ BK1;have hfz44_0:=blk_frozen BK1.out 0;have hfz44_1:=blk_frozen BK1.out 1;have hfz44_2:=blk_frozen BK1.out 2;have hfz44_3:=blk_frozen BK1.out 3;have hfz44_4:=blk_frozen BK1.out 4;have hfz44_5:=blk_frozen BK1.out 5)|((with_reducible refine gate_callee (f:=101) rfl ?_);refine gl_ (some 44) Try.func101 #[.int .i64 1] ?_;(with_reducible refine (r10_no.calls 1 t19 t22 _ A40.out).mono ?_);rintro e w45 ⟨v20,rfl,ho0,hb⟩;refine ⟨_,rfl, ?_⟩;have HO21:=am_ (Kd.R_lower ho0 (below_size (zl2_ HB GE1 GE2)));replace BK1:=bb_ BK1 hb;replace BK2:=bb_ BK2 hb;replace HB:=am_ (below_step (zl2_ HB GE1 GE2) hb);(try clear hb ho0);obtain ⟨Ao46,co46,eo46⟩:=Kd.R_slice HO21.out;subst eo46;obtain ⟨hcz47_0,hcz47_1⟩:=x2_ BK2;have hfz47_0:=blk_frozen BK2.out 0;have hfz47_1:=blk_frozen BK2.out 1))
 refine bodyPost_ret (results_cell_row rfl _ _ gb2 73 #[.slice Ao46 t19.length co46, .int .i64 t22] (0,0) _ rfl (zw_ BK2) Try.underlying73 rfl (by kernel_rfl)) rfl ?_;exact ⟨_,by first|rfl|(simp [errW_none,errW_some]<;>rfl)|(simp [*,errW_none,errW_some]<;>rfl),zy_ HO21 BK2,zl2_ HB GE1 GE2⟩

mutual
def law17_Turned.l0:Nat→List (S79)→List Int→Int→Option ((List (S79)))
 |0,_,_,_=>none
 |k+1,x0,x1,x5=>if (wrap64 (x5+2))<(x1.length:Int) then (law17_Turned.j1 k x0 x1 x5 (decide (x5<30))) else (law17_Turned.j1 k x0 x1 x5 false)
def law17_Turned.j1:Nat→List (S79)→List Int→Int→Bool→Option ((List (S79)))
 |0,_,_,_,_=>none
 |k+1,x0,x1,x5,x15=>if x15=true then (if 0≤x5 then (if x5<(x1.length:Int) then (if 0≤(wrap64 (x5+1)) then (if (wrap64 (x5+1))<(x1.length:Int) then (if 0≤(wrap64 (x5+2)) then (if (wrap64 (x5+2))<(x1.length:Int) then ((law15_Step.f k (rd x1 x5) (rd x1 (wrap64 (x5+1))) (rd x1 (wrap64 (x5+2)))).bind fun bt4=>((r10_Do.f k x0 bt4.1 bt4.2.1 bt4.2.2.1 bt4.2.2.2.1 bt4.2.2.2.2.1 bt4.2.2.2.2.2 (-1)).bind fun bt10=>(if bt10.2=0 then (law17_Turned.l0 k bt10.1 x1 (wrap64 (x5+3))) else (law17_Turned.l0 k x0 x1 (wrap64 (x5+3)))))) else (none)) else (none)) else (none)) else (none)) else (none)) else (none)) else (some x0)
end
def law17_Turned.f (k:Nat) (l0:List (S79)) (l1:List Int):Option ((List (S79))):=law17_Turned.l0 k l0 l1 0
theorem law17_Turned.mono_l: ∀k,(∀y0 y1 y2,LeO (law17_Turned.l0 k y0 y1 y2) (law17_Turned.l0 (k+1) y0 y1 y2))∧(∀y0 y1 y2 y3,LeO (law17_Turned.j1 k y0 y1 y2 y3) (law17_Turned.j1 (k+1) y0 y1 y2 y3))
 |0=>⟨fun _ _ _ r h=>by simp [law17_Turned.l0] at h,fun _ _ _ _ r h=>by simp [law17_Turned.j1] at h⟩
 |k+1=>by
  obtain ⟨ih0,ih1⟩:=law17_Turned.mono_l k;refine ⟨?_, ?_⟩<;>(intros;first|unfold law17_Turned.l0|unfold law17_Turned.j1)<;>repeat' with_reducible first|apply ih0|apply ih1|apply law15_Step.mono|apply r10_Do.mono|apply LeO.refl|apply LeO.none|apply LeO.ite|refine LeO.bind ?_ fun _=> ?_
theorem law17_Turned.mono: ∀a0 a1 k,LeO (law17_Turned.f k a0 a1) (law17_Turned.f (k+1) a0 a1):=by
 intro a0 a1 k;obtain ⟨ih0,ih1⟩:=law17_Turned.mono_l k;unfold law17_Turned.f
 repeat' with_reducible first|apply ih0|apply ih1|apply law15_Step.mono|apply r10_Do.mono|apply LeO.refl|apply LeO.none|apply LeO.ite|refine LeO.bind ?_ fun _=> ?_
def law17_Turned.T4:Bool×List (List Nat×List Nat):=(true,[([],[]),([],[]),([],[]),([1,2],[1,2]),([3],[3]),([],[]),([],[]),([6],[6]),([5,7],[5,7]),([8],[8]),([],[]),([],[]),([11],[11]),([10,12],[10,12]),([13],[13]),([4,9,14],[4,9,14]),([0,15,15],[0,15]),([],[]),([17,16,16,0,1,2,3,4,5,6,7,8,9,10,11,12,13,14,15,16,17],[16,17])])
def law17_Turned.B4:List Nat:=[0,0,0,6,14,0,0,64,224,480,0,0,2048,7168,15360,32766,65535,0,262143]
theorem law17_Turned.tab4:rtab .any (opsOf Try.f65 4)=law17_Turned.T4:=by kernel_rfl
theorem law17_Turned.bits4:waitsOk law17_Turned.T4.2 law17_Turned.B4=true:=by kernel_rfl
set_option maxHeartbeats 8000000 in
set_option maxRecDepth 100000 in
theorem law17_Turned.calls (k:Nat) (P0_:Nat→Prop) (A0:Option Addr) (c0:Nat) (l0:List (S79)) (A1:Option Addr) (c1:Nat) (l1:List Int) (r:List (S79)) (w:World) (hs0:Kd.V k79 79 w w.heap.size (fun k_=>P0_ k_) (.slice A0 l0.length c0) l0) (hr1:Kd.C (Kd.int .u8) w A1 l1.length l1) (hc1:l1.length≤c1) (h:law17_Turned.f k l0 l1=some r):
  Calls Try.prog 65 #[.slice A0 l0.length c0, .slice A1 l1.length c1] w fun e w'=> ∃v0_:Value,e= .returned (v0_)∧Kd.V k79 79 w' w.heap.size (fun k_=>(P0_ k_∨w.heap.size≤k_)) v0_ r∧Below w.heap.size w w':=by
 have hu73:=Try.underlying73;have HO0:=am_ (show Kd.V k79 79 w w.heap.size (fun k_=>(P0_ k_∨w.heap.size≤k_)) (.slice A0 l0.length c0) l0 from Kd.V_mono hs0 (fun k_ hk=> .inl hk));have HR1:=Aside0.mk hr1;have HC1:=Aside0.mk hc1;clear hr1 hc1;have HB:=am_ (Below.refl w.heap.size w);have H:(law17_Turned.l0 k l0 l1 0)=some r:=h;clear h;have H':=Aside0.mk H;clear H;go_enter Try.func65,Try.ntmps65;go_wp2
 go_loopg [0,5] k (fun kq v0 v5 w'=> ∃(x0_1:List (S79)) (x5_1:Int),v5= .int .i64 x5_1∧Aside0 (law17_Turned.l0 kq x0_1 l1 x5_1=some r)∧Aside0 (kq≤k)∧Aside0 (Kd.V k79 79 w' w.heap.size (fun k_=>(P0_ k_∨w.heap.size≤k_)) v0 x0_1)∧Aside0 (Below w.heap.size w w'))
 case atStart=>exact ⟨(l0),(0),rf_,H',⟨Nat.le_refl _⟩,⟨by (with_reducible repeat (first|apply Kd.V_alloc|apply Kd.V_drewN|apply Kd.V_drew));exact HO0.out⟩,⟨zl0_ HB⟩⟩
 case round=>
  clear H';obtain ⟨x0_1,x5_1,rfl,HA,HK1,HO_0,HB⟩:=hrel
  cases gk with
  |zero=>exact absurd HA.out (by simp [law17_Turned.l0])
  |succ k1=>
   have H:=HA.out;clear HA;simp only [law17_Turned.l0] at H;have HC3:=Aside0.mk H;clear H;go_upto_region 2 with (fail)
   go_cut [15] (fun v15 wc=> ∃(kq:Nat) (x15_2:Bool),v15= .bool x15_2∧Aside0 (law17_Turned.j1 kq x0_1 l1 x5_1 x15_2=some r)∧Aside0 (kq≤k1)∧Aside0 (Kd.V k79 79 wc w.heap.size (fun k_=>(P0_ k_∨w.heap.size≤k_)) u0 x0_1)∧Aside0 (Below w.heap.size w wc))
   case first=>
    have H:=HC3.out;clear HC3;by_cases c4:(wrap64 (x5_1+2))<(l1.length:Int)
    ·rw [if_pos c4] at H;have c4b0:=decide_eq_true c4;clear c4;(first|rw [c4b0]|(simp only [i64_w,i32_w];rw [c4b0])|skip);have H':=Aside0.mk H;clear H;go_wp2
     go_meet
     case rel=>exact ⟨_,(decide (x5_1<30)),rf_,H',⟨by have:=HK1.out;first|omega|exact Nat.le_refl _⟩,⟨by (with_reducible repeat (first|apply Kd.V_alloc|apply Kd.V_drewN|apply Kd.V_drew));exact HO_0.out⟩,⟨zl0_ HB⟩⟩
    rw [if_neg c4] at H;have c4b0:=decide_eq_false c4;clear c4;(first|rw [c4b0]|(simp only [i64_w,i32_w];rw [c4b0])|skip);have H':=Aside0.mk H;clear H;go_wp2
    go_meet
    case rel=>exact ⟨_,(false),rf_,H',⟨by have:=HK1.out;first|omega|exact Nat.le_refl _⟩,⟨by (with_reducible repeat (first|apply Kd.V_alloc|apply Kd.V_drewN|apply Kd.V_drew));exact HO_0.out⟩,⟨zl0_ HB⟩⟩
   case rest=>
    clear HC3;obtain ⟨kq,x15_2,rfl,HA,HJ2,HO_0,HB⟩:=hcut
    cases kq with
    |zero=>exact absurd HA.out (by simp [law17_Turned.j1])
    |succ kj2=>
     have H:=HA.out;clear HA;simp only [law17_Turned.j1] at H;by_cases c5:x15_2=true;rotate_left
     ·replace c5:=Bool.eq_false_iff.mpr c5;subst c5;rw [if_neg (show¬(false=true) by decide)] at H;obtain rfl:=Option.some.inj H;go_wp2
      go_ret
      exact ⟨_,by first|rfl|(simp [errW_none,errW_some]<;>rfl)|(simp [*,errW_none,errW_some]<;>rfl),by (with_reducible repeat (first|apply Kd.V_alloc|apply Kd.V_drewN|apply Kd.V_drew));exact HO_0.out,zl0_ HB⟩

     subst c5;rw [if_pos rfl] at H;replace H:=zif_ H;obtain ⟨c6,H⟩:=H;have c6b0:=decide_eq_true c6;clear c6;replace H:=zif_ H;obtain ⟨c7,H⟩:=H;have c7b0:=decide_eq_true c7;clear c7;obtain ⟨ji8,hji8⟩: ∃j_:Int,(wrap64 (x5_1+1))=j_:=⟨_,rfl⟩;replace H:(if 0≤(ji8) then (if (ji8)<(l1.length:Int) then (if 0≤(wrap64 (x5_1+2)) then (if (wrap64 (x5_1+2))<(l1.length:Int) then ((law15_Step.f kj2 (rd l1 x5_1) (rd l1 (ji8)) (rd l1 (wrap64 (x5_1+2)))).bind fun bt4=>((r10_Do.f kj2 x0_1 bt4.1 bt4.2.1 bt4.2.2.1 bt4.2.2.2.1 bt4.2.2.2.2.1 bt4.2.2.2.2.2 (-1)).bind fun bt10=>(if bt10.2=0 then (law17_Turned.l0 kj2 bt10.1 l1 (wrap64 (x5_1+3))) else (law17_Turned.l0 kj2 x0_1 l1 (wrap64 (x5_1+3)))))) else (none)) else (none)) else (none)) else (none))=some r:=by first|(rw [hji8] at H;exact H)|(simp only [hji8] at H ⊢;exact H)
     have hji8w:(IntKind.i64.wrap (x5_1+1))=ji8:=(i64_w _).trans hji8;replace H:=zif_ H;obtain ⟨c9,H⟩:=H;have c9b0:=decide_eq_true c9;clear c9;replace H:=zif_ H;obtain ⟨c10,H⟩:=H;have c10b0:=decide_eq_true c10;clear c10;obtain ⟨ji11,hji11⟩: ∃j_:Int,(wrap64 (x5_1+2))=j_:=⟨_,rfl⟩;replace H:(if 0≤(ji11) then (if (ji11)<(l1.length:Int) then ((law15_Step.f kj2 (rd l1 x5_1) (rd l1 (ji8)) (rd l1 (ji11))).bind fun bt4=>((r10_Do.f kj2 x0_1 bt4.1 bt4.2.1 bt4.2.2.1 bt4.2.2.2.1 bt4.2.2.2.2.1 bt4.2.2.2.2.2 (-1)).bind fun bt10=>(if bt10.2=0 then (law17_Turned.l0 kj2 bt10.1 l1 (wrap64 (x5_1+3))) else (law17_Turned.l0 kj2 x0_1 l1 (wrap64 (x5_1+3)))))) else (none)) else (none))=some r:=by first|(rw [hji11] at H;exact H)|(simp only [hji11] at H ⊢;exact H)
     have hji11w:(IntKind.i64.wrap (x5_1+2))=ji11:=(i64_w _).trans hji11;replace H:=zif_ H;obtain ⟨c12,H⟩:=H;have c12b0:=decide_eq_true c12;clear c12;replace H:=zif_ H;obtain ⟨c13,H⟩:=H;have c13b0:=decide_eq_true c13;clear c13;replace H:=zbd_ H;obtain ⟨⟨t4,t5,t6,t7,t8,t9⟩,A14,H⟩:=H;try dsimp only at H
     replace H:=zbd_ H;obtain ⟨⟨t10,t13⟩,A15,H⟩:=H;try dsimp only at H
     by_cases c16:t13=0
     ·rw [if_pos c16] at H;have c16b0:=beq_iff_eq.mpr c16;have c16b1:=bne_eq_false_iff_eq.mpr c16;clear c16;have H':=Aside0.mk H;clear H;obtain ⟨Ao17,co17,eo17⟩:=Kd.V_slice HO_0.out;subst eo17;try go_wp2
      replace HO_0:=am_ (Kd.V_drew HO_0.out);replace HB:=am_ (below_drew1 HB.out);have p1:0≤(x5_1:Int):=of_decide_eq_true zq_;have q1:x5_1<(l1.length:Int):=of_decide_eq_true zq_;obtain ⟨ad1,e1,hx1_0⟩:=Kd.at_int HR1.out x5_1 p1 q1;have hw1_0:=hx1_0;cases e1;replace hx1_0:=zx_ HB hx1_0;replace p1:=eq_true p1;replace q1:=eq_true q1;have p2:0≤((ji8):Int):=of_decide_eq_true zq_;have q2:(ji8)<(l1.length:Int):=of_decide_eq_true zq_;obtain ⟨ad2,e2,hx2_0⟩:=Kd.at_int HR1.out (ji8) p2 q2;have hw2_0:=hx2_0;obtain rfl:ad1=ad2:=(by injection e2);replace hx2_0:=zx_ HB hx2_0;replace p2:=eq_true p2;replace q2:=eq_true q2;have p3:0≤((ji11):Int):=of_decide_eq_true zq_;have q3:(ji11)<(l1.length:Int):=of_decide_eq_true zq_;obtain ⟨ad3,e3,hx3_0⟩:=Kd.at_int HR1.out (ji11) p3 q3;have hw3_0:=hx3_0;obtain rfl:ad1=ad3:=(by injection e3);replace hx3_0:=zx_ HB hx3_0;replace p3:=eq_true p3;replace q3:=eq_true q3;refine start_ (n:=19) (S:=fun w'=>w'.cell? (ad1.add (x5_1).toNat)=some (.int .u8 (rd l1 x5_1))∧w'.cell? (ad1.add ((ji8)).toNat)=some (.int .u8 (rd l1 (ji8)))∧w'.cell? (ad1.add ((ji11)).toNat)=some (.int .u8 (rd l1 (ji11)))) (ds:=[]) (bt_ 19 0) (by kernel_rfl) rfl rfl ⟨(zx_ HB hw1_0:),(zx_ HB hw2_0:),(zx_ HB hw3_0:)⟩ (fun hHeld=> ?_);refine with_tabW law17_Turned.tab4 law17_Turned.bits4 (fun HT_ HW_=> ?_);generalize wc.drew=w18 at HO_0 HB hx1_0 hx2_0 hx3_0 hHeld ⊢;refine ru_ 0 HT_ ?_;refine ru_ 1 HT_ ?_;refine ru_ 2 HT_ ?_;refine ru_ 3 HT_ ?_;refine ru_ 5 HT_ ?_;refine ru_ 6 HT_ ?_
      refine ru_ 7 HT_ ?_;refine ru_ 8 HT_ ?_;refine ru_ 10 HT_ ?_;refine ru_ 11 HT_ ?_;refine ru_ 12 HT_ ?_;refine ru_ 13 HT_ ?_;refine rk_ 4 HT_ HW_ hHeld ?_;refine rk_ 9 HT_ HW_ hHeld ?_;refine rk_ 14 HT_ HW_ hHeld ?_;refine join_ (σ:=Value×Nat) 1 (bt_ 19 262143) (fun s_=> [(33, .agg #[.int .i64 t4, .string t5, .string t6, .int .i64 t7, .int .i64 t8, .int .i64 t9]),(34, .agg #[s_.1, .int .i64 t13]),(6, .pointer (some ⟨s_.2,0,none⟩))]) (fun s_ w'=>(w'.cell? (ad1.add (x5_1).toNat)=some (.int .u8 (rd l1 x5_1))∧w'.cell? (ad1.add ((ji8)).toNat)=some (.int .u8 (rd l1 (ji8)))∧w'.cell? (ad1.add ((ji11)).toNat)=some (.int .u8 (rd l1 (ji11))))∧(Kd.R k79 79 w' w.heap.size (fun k_=>(w.heap.size≤k_)) s_.1 t10)∧(Kd.V k79 79 w' w.heap.size (fun k_=>(P0_ k_∨w.heap.size≤k_)∧some k_≠(s_.1:Value).ownBlock∧k_≠s_.2) (.slice Ao17 x0_1.length co17) x0_1)∧(w'.heap[s_.2]?=some (.cells #[.slice none 0 0, .int .i64 0] 73 (0,0)))∧(w.heap.size≤s_.2)∧(w.heap.size≤s_.2)∧(Below w.heap.size w w')) ?_ ?_;rotate_left
      ·intro hCont;refine two_ (i:=15) (j:=17) (Ni:=some 33) (Nj:=some 6) (bt_ 19 65535) (bt_ 19 163839) rfl rfl rfl rfl (two_of HT_.out (by kernel_rfl)) (by decide) (by decide) (fun K hK=> ?_) (fun K hK=> ?_);rotate_left
       ·skip
        refine box_step ?hg (N:=6) ?hd (cs:=#[.slice none 0 0, .int .i64 0]) (t:=73) ?hr ?_;(case hd=>rfl);(case hg=>rfl);(case hr=>first|(go_simp;done)|(go_simp;rfl));intro gb14 hg w19 hbox hb;replace HO_0:=am_ (Kd.V_below (Kd.V_elderB (by (with_reducible repeat (first|apply Kd.V_alloc|apply Kd.V_drewN|apply Kd.V_drew));exact HO_0.out) gb14 (Nat.le_of_eq hg.symm)) hb);have BK14:=am_ (hbox);have GW14:=am_ ((zg0_ HB hg:w.heap.size≤gb14));have GE14:=am_ ((zg0_ HB hg:w.heap.size≤gb14));replace HB:=am_ (below_step (zl0_ HB) hb);clear hb hbox hg;refine hK.out _ _ ⟨(zx_ HB hw1_0:),(zx_ HB hw2_0:),(zx_ HB hw3_0:)⟩ (fun hHeld=> ?_);clear hK K;refine no_ (N:=some 6) ?_;refine on_ (i:=15) (N:=some 33) (bt_ 19 196607) HT_ (fun K hK=> ?_);refine goes_ Try.func109 (by kernel_rfl) rfl #[.int .u8 (rd l1 x5_1), .int .u8 (rd l1 (ji8)), .int .u8 (rd l1 (ji11))] (by rfl) rfl rfl (by (try simp only [List.map_toArray,List.map_cons,List.map_nil]);first|done|(simp only [hji11,hji8];rfl)|rfl|(simp only [List.length_drop,List.length_take];rfl)) ?_
        with_reducible refine (law15_Step.calls kj2 (rd l1 x5_1) (rd l1 (ji8)) (rd l1 (ji11)) t4 t5 t6 t7 t8 t9 _ A14.out).mono ?_
        rintro e w20 ⟨rfl,hb⟩;refine ⟨_,rfl, ?_⟩;replace HO_0:=am_ (Kd.V_below (by (with_reducible repeat (first|apply Kd.V_alloc|apply Kd.V_drewN|apply Kd.V_drew));exact HO_0.out) hb);replace BK14:=bb_ BK14 hb;replace HB:=am_ (below_step (zl1_ HB GE14) hb);(try clear hb);refine hK.out _ _ ⟨(zx_ HB hw1_0:),(zx_ HB hw2_0:),(zx_ HB hw3_0:)⟩ (fun hHeld=> ?_);clear hK K;refine no_ (N:=some 33) ?_;refine on_ (i:=16) (N:=some 34) (bt_ 19 262143) HT_ (fun K hK=> ?_);refine gs_ Try.func51 #[.slice Ao17 x0_1.length co17, .agg #[.int .i64 t4, .string t5, .string t6, .int .i64 t7, .int .i64 t8, .int .i64 t9], .int .i64 (-1)] ?_
        with_reducible refine (r10_Do.calls kj2 _ _ x0_1 t4 t5 t6 t7 t8 t9 (-1) t10 t13 _ ?side1 ?side2 A15.out).mono ?_
        (case side1=>exact zc_ (Kd.V_reads' HO_0.out).2.2);(case side2=>exact (Kd.V_reads' HO_0.out).2.1);rintro e w21 ⟨v11,rfl,ho0,hb⟩;refine ⟨_,rfl, ?_⟩;replace HO_0:=am_ (Kd.V_elder' (by (with_reducible repeat (first|apply Kd.V_alloc|apply Kd.V_drewN|apply Kd.V_drew));exact HO_0.out) (Kd.R_base ho0) hb);have HO12:=am_ (Kd.R_lower (Kd.R_newM (M:=fun k_=>(w.heap.size≤k_)) ho0 (below_size (zl1_ HB GE14)) (fun k_ h_=>h_)) (below_size (zl1_ HB GE14)));replace BK14:=bb_ BK14 hb;replace HB:=am_ (below_step (zl1_ HB GE14) hb);(try clear hb);(try clear ho0);refine hK.out _ _ ⟨(zx_ HB hw1_0:),(zx_ HB hw2_0:),(zx_ HB hw3_0:)⟩ (fun hHeld=> ?_);clear hK K;refine no_ (N:=some 34) ?_;exact norm_ (by simp only [putAll,Act.put,List.setIfInBounds_toArray,List.set_cons_zero,List.set_cons_succ]) (hCont (v11,gb14) _ ⟨hHeld,(by refine zt_ ?_;exact Kd.R_mono HO12.out (fun _ hk=>hk.1)),(by (with_reducible repeat (first|apply Kd.V_alloc|apply Kd.V_drewN|apply Kd.V_drew));exact Kd.V_mono HO_0.out (fun _ hk=>⟨hk.1.1,⟨hk.2,hk.1.2⟩⟩)),(zb_ BK14),GW14.out,GE14.out,(zl1_ HB GE14)⟩)
       skip
       refine goes_ Try.func109 (by kernel_rfl) rfl #[.int .u8 (rd l1 x5_1), .int .u8 (rd l1 (ji8)), .int .u8 (rd l1 (ji11))] (by rfl) rfl rfl (by (try simp only [List.map_toArray,List.map_cons,List.map_nil]);first|done|(simp only [hji11,hji8];rfl)|rfl|(simp only [List.length_drop,List.length_take];rfl)) ?_
       with_reducible refine (law15_Step.calls kj2 (rd l1 x5_1) (rd l1 (ji8)) (rd l1 (ji11)) t4 t5 t6 t7 t8 t9 _ A14.out).mono ?_
       rintro e w19 ⟨rfl,hb⟩;refine ⟨_,rfl, ?_⟩;replace HO_0:=am_ (Kd.V_below (by (with_reducible repeat (first|apply Kd.V_alloc|apply Kd.V_drewN|apply Kd.V_drew));exact HO_0.out) hb);replace HB:=am_ (below_step (zl0_ HB) hb);(try clear hb);refine hK.out _ _ ⟨(zx_ HB hw1_0:),(zx_ HB hw2_0:),(zx_ HB hw3_0:)⟩ (fun hHeld=> ?_);clear hK K;refine no_ (N:=some 33) ?_;refine two_ (i:=16) (j:=17) (Ni:=some 34) (Nj:=some 6) (bt_ 19 131071) (bt_ 19 196607) rfl rfl rfl rfl (two_of HT_.out (by kernel_rfl)) (by decide) (by decide) (fun K hK=> ?_) (fun K hK=> ?_)
       ·skip
        refine gs_ Try.func51 #[.slice Ao17 x0_1.length co17, .agg #[.int .i64 t4, .string t5, .string t6, .int .i64 t7, .int .i64 t8, .int .i64 t9], .int .i64 (-1)] ?_
        with_reducible refine (r10_Do.calls kj2 _ _ x0_1 t4 t5 t6 t7 t8 t9 (-1) t10 t13 _ ?side1 ?side2 A15.out).mono ?_
        (case side1=>exact zc_ (Kd.V_reads' HO_0.out).2.2);(case side2=>exact (Kd.V_reads' HO_0.out).2.1);rintro e w20 ⟨v11,rfl,ho0,hb⟩;refine ⟨_,rfl, ?_⟩;replace HO_0:=am_ (Kd.V_elder' (by (with_reducible repeat (first|apply Kd.V_alloc|apply Kd.V_drewN|apply Kd.V_drew));exact HO_0.out) (Kd.R_base ho0) hb);have HO12:=am_ (Kd.R_lower (Kd.R_newM (M:=fun k_=>(w.heap.size≤k_)) ho0 (below_size (zl0_ HB)) (fun k_ h_=>h_)) (below_size (zl0_ HB)));replace HB:=am_ (below_step (zl0_ HB) hb);(try clear hb);(try clear ho0);refine hK.out _ _ ⟨(zx_ HB hw1_0:),(zx_ HB hw2_0:),(zx_ HB hw3_0:)⟩ (fun hHeld=> ?_);clear hK K;refine no_ (N:=some 34) ?_;refine on_ (i:=17) (N:=some 6) (bt_ 19 262143) HT_ (fun K hK=> ?_);refine box_step ?hg (N:=6) ?hd (cs:=#[.slice none 0 0, .int .i64 0]) (t:=73) ?hr ?_;(case hd=>rfl);(case hg=>rfl);(case hr=>first|(go_simp;done)|(go_simp;rfl));intro gb14 hg w21 hbox hb;replace HO_0:=am_ (Kd.V_below (Kd.V_elderB (by (with_reducible repeat (first|apply Kd.V_alloc|apply Kd.V_drewN|apply Kd.V_drew));exact HO_0.out) gb14 (Nat.le_of_eq hg.symm)) hb);replace HO12:=ob_ HO12 hb;have BK14:=am_ (hbox);have GW14:=am_ ((zg0_ HB hg:w.heap.size≤gb14));have GE14:=am_ ((zg0_ HB hg:w.heap.size≤gb14));replace HB:=am_ (below_step (zl0_ HB) hb);clear hb hbox hg;refine hK.out _ _ ⟨(zx_ HB hw1_0:),(zx_ HB hw2_0:),(zx_ HB hw3_0:)⟩ (fun hHeld=> ?_);clear hK K;refine no_ (N:=some 6) ?_
        exact norm_ (by simp only [putAll,Act.put,List.setIfInBounds_toArray,List.set_cons_zero,List.set_cons_succ]) (hCont (v11,gb14) _ ⟨hHeld,(by refine zt_ ?_;exact Kd.R_mono HO12.out (fun _ hk=>hk.1)),(by (with_reducible repeat (first|apply Kd.V_alloc|apply Kd.V_drewN|apply Kd.V_drew));exact Kd.V_mono HO_0.out (fun _ hk=>⟨hk.1.1,⟨hk.1.2,hk.2⟩⟩)),(zb_ BK14),GW14.out,GE14.out,(zl1_ HB GE14)⟩)
       skip
       refine box_step ?hg (N:=6) ?hd (cs:=#[.slice none 0 0, .int .i64 0]) (t:=73) ?hr ?_;(case hd=>rfl);(case hg=>rfl);(case hr=>first|(go_simp;done)|(go_simp;rfl));intro gb14 hg w20 hbox hb;replace HO_0:=am_ (Kd.V_below (Kd.V_elderB (by (with_reducible repeat (first|apply Kd.V_alloc|apply Kd.V_drewN|apply Kd.V_drew));exact HO_0.out) gb14 (Nat.le_of_eq hg.symm)) hb);have BK14:=am_ (hbox);have GW14:=am_ ((zg0_ HB hg:w.heap.size≤gb14));have GE14:=am_ ((zg0_ HB hg:w.heap.size≤gb14));replace HB:=am_ (below_step (zl0_ HB) hb);clear hb hbox hg;refine hK.out _ _ ⟨(zx_ HB hw1_0:),(zx_ HB hw2_0:),(zx_ HB hw3_0:)⟩ (fun hHeld=> ?_);clear hK K;refine no_ (N:=some 6) ?_;refine on_ (i:=16) (N:=some 34) (bt_ 19 262143) HT_ (fun K hK=> ?_);refine gs_ Try.func51 #[.slice Ao17 x0_1.length co17, .agg #[.int .i64 t4, .string t5, .string t6, .int .i64 t7, .int .i64 t8, .int .i64 t9], .int .i64 (-1)] ?_
       with_reducible refine (r10_Do.calls kj2 _ _ x0_1 t4 t5 t6 t7 t8 t9 (-1) t10 t13 _ ?side1 ?side2 A15.out).mono ?_
       (case side1=>exact zc_ (Kd.V_reads' HO_0.out).2.2);(case side2=>exact (Kd.V_reads' HO_0.out).2.1);rintro e w21 ⟨v11,rfl,ho0,hb⟩;refine ⟨_,rfl, ?_⟩;replace HO_0:=am_ (Kd.V_elder' (by (with_reducible repeat (first|apply Kd.V_alloc|apply Kd.V_drewN|apply Kd.V_drew));exact HO_0.out) (Kd.R_base ho0) hb);have HO12:=am_ (Kd.R_lower (Kd.R_newM (M:=fun k_=>(w.heap.size≤k_)) ho0 (below_size (zl1_ HB GE14)) (fun k_ h_=>h_)) (below_size (zl1_ HB GE14)));replace BK14:=bb_ BK14 hb;replace HB:=am_ (below_step (zl1_ HB GE14) hb);(try clear hb);(try clear ho0);refine hK.out _ _ ⟨(zx_ HB hw1_0:),(zx_ HB hw2_0:),(zx_ HB hw3_0:)⟩ (fun hHeld=> ?_);clear hK K;refine no_ (N:=some 34) ?_;exact norm_ (by simp only [putAll,Act.put,List.setIfInBounds_toArray,List.set_cons_zero,List.set_cons_succ]) (hCont (v11,gb14) _ ⟨hHeld,(by refine zt_ ?_;exact Kd.R_mono HO12.out (fun _ hk=>hk.1)),(by (with_reducible repeat (first|apply Kd.V_alloc|apply Kd.V_drewN|apply Kd.V_drew));exact Kd.V_mono HO_0.out (fun _ hk=>⟨hk.1.1,⟨hk.2,hk.1.2⟩⟩)),(zb_ BK14),GW14.out,GE14.out,(zl1_ HB GE14)⟩)
      rintro ⟨v11,gb14⟩ w22 ⟨hS_,h0_,h1_,h2_,h3_,h4_,h5_⟩;have n0_:Aside0 (Kd.R k79 79 w22 w.heap.size (fun k_=>(w.heap.size≤k_)) v11 t10):=⟨h0_⟩;have n1_:Aside0 (Kd.V k79 79 w22 w.heap.size (fun k_=>(P0_ k_∨w.heap.size≤k_)∧some k_≠(v11:Value).ownBlock∧k_≠gb14) (.slice Ao17 x0_1.length co17) x0_1):=⟨h1_⟩;have n2_:Aside0 (w22.heap[gb14]?=some (.cells #[.slice none 0 0, .int .i64 0] 73 (0,0))):=⟨h2_⟩;have n3_:Aside0 (w.heap.size≤gb14):=⟨h3_⟩;have n4_:Aside0 (w.heap.size≤gb14):=⟨h4_⟩;have n5_:Aside0 (Below w.heap.size w w22):=⟨h5_⟩;clear HO_0 HB h0_ h1_ h2_ h3_ h4_ h5_;have HO12:=n0_;have HO_0:=n1_;have BK14:=n2_;have GW14:=n3_;have GE14:=n4_;have HB:=n5_;clear n0_ n1_ n2_ n3_ n4_ n5_;have hHeld:w22.cell? (ad1.add (x5_1).toNat)=some (.int .u8 (rd l1 x5_1))∧w22.cell? (ad1.add ((ji8)).toNat)=some (.int .u8 (rd l1 (ji8)))∧w22.cell? (ad1.add ((ji11)).toNat)=some (.int .u8 (rd l1 (ji11))):=hS_;obtain ⟨Ao23,co23,eo23⟩:=Kd.R_slice HO12.out;(first|subst eo23|cases eo23);refine norm_ (a':= ?_) ?_ ?_;rotate_left
      ·simp only [putAll,Act.put,List.setIfInBounds_toArray,List.set_cons_zero,List.set_cons_succ]
       rfl
      refine on_ (i:=18) (N:=none) (bt_ 19 524287) HT_ (fun K hK=> ?_);have hs24:w22.cell? ⟨gb14,0,none⟩=some (.slice none 0 0):=zz_ BK14 0;have hfs24:=blk_frozen BK14.out 0;have hs25:w22.cell? ⟨gb14,1,none⟩=some (.int .i64 0):=zz_ BK14 1;have hfs25:=blk_frozen BK14.out 1;refine skip_ (w1:= ?_) (by rfl) rfl ?_ ?_;rotate_left
      ·go_simp
       rfl
      refine hK.out _ _ ⟨((cell_far (p:=⟨gb14,_,none⟩) (ze_ hw1_0 GW14) _).trans (((cell_far (p:=⟨gb14,_,none⟩) (ze_ hw1_0 GW14) _).trans (hHeld.1)))),((cell_far (p:=⟨gb14,_,none⟩) (ze_ hw2_0 GW14) _).trans (((cell_far (p:=⟨gb14,_,none⟩) (ze_ hw2_0 GW14) _).trans (hHeld.2.1)))),((cell_far (p:=⟨gb14,_,none⟩) (ze_ hw3_0 GW14) _).trans (((cell_far (p:=⟨gb14,_,none⟩) (ze_ hw3_0 GW14) _).trans (hHeld.2.2))))⟩ (fun hHeld=> ?_);clear hK K;refine done_ (done_of HT_.out (by kernel_rfl)) ?_;obtain ⟨hcz26_0,hcz26_1,hfz26_0,hfz26_1⟩:=y2_ BK14;try go_wp2
      go_roundg kj2
      case measure=>have:=HK1.out;have:=HJ2.out;omega
      case rel=>exact ⟨(t10),(wrap64 (x5_1+3)),rf_,H',⟨by have:=HK1.out;have:=HJ2.out;omega⟩,⟨Kd.V_mono (Kd.R_V (by refine zt_ ?_;exact zv2_ HO12 BK14)) (fun k_ hk=>by first|exact ⟨(.inr (hk.1)),hk.2⟩|exact (.inr (hk)))⟩,⟨zl1_ HB GE14⟩⟩
     rw [if_neg c16] at H;have c16b0:=beq_eq_false_iff_ne.mpr c16;have c16b1:=bne_iff_ne.mpr c16;have H':=Aside0.mk H;clear H;obtain ⟨Ao27,co27,eo27⟩:=Kd.V_slice HO_0.out;subst eo27;try go_wp2
     replace HO_0:=am_ (Kd.V_drew HO_0.out);replace HB:=am_ (below_drew1 HB.out);have p1:0≤(x5_1:Int):=of_decide_eq_true zq_;have q1:x5_1<(l1.length:Int):=of_decide_eq_true zq_;obtain ⟨ad1,e1,hx1_0⟩:=Kd.at_int HR1.out x5_1 p1 q1;have hw1_0:=hx1_0;cases e1;replace hx1_0:=zx_ HB hx1_0;replace p1:=eq_true p1;replace q1:=eq_true q1;have p2:0≤((ji8):Int):=of_decide_eq_true zq_;have q2:(ji8)<(l1.length:Int):=of_decide_eq_true zq_;obtain ⟨ad2,e2,hx2_0⟩:=Kd.at_int HR1.out (ji8) p2 q2;have hw2_0:=hx2_0;obtain rfl:ad1=ad2:=(by injection e2);replace hx2_0:=zx_ HB hx2_0;replace p2:=eq_true p2;replace q2:=eq_true q2;have p3:0≤((ji11):Int):=of_decide_eq_true zq_;have q3:(ji11)<(l1.length:Int):=of_decide_eq_true zq_;obtain ⟨ad3,e3,hx3_0⟩:=Kd.at_int HR1.out (ji11) p3 q3;have hw3_0:=hx3_0;obtain rfl:ad1=ad3:=(by injection e3);replace hx3_0:=zx_ HB hx3_0;replace p3:=eq_true p3;replace q3:=eq_true q3;refine start_ (n:=19) (S:=fun w'=>w'.cell? (ad1.add (x5_1).toNat)=some (.int .u8 (rd l1 x5_1))∧w'.cell? (ad1.add ((ji8)).toNat)=some (.int .u8 (rd l1 (ji8)))∧w'.cell? (ad1.add ((ji11)).toNat)=some (.int .u8 (rd l1 (ji11)))) (ds:=[]) (bt_ 19 0) (by kernel_rfl) rfl rfl ⟨(zx_ HB hw1_0:),(zx_ HB hw2_0:),(zx_ HB hw3_0:)⟩ (fun hHeld=> ?_);refine with_tabW law17_Turned.tab4 law17_Turned.bits4 (fun HT_ HW_=> ?_);generalize wc.drew=w28 at HO_0 HB hx1_0 hx2_0 hx3_0 hHeld ⊢;refine ru_ 0 HT_ ?_;refine ru_ 1 HT_ ?_;refine ru_ 2 HT_ ?_;refine ru_ 3 HT_ ?_;refine ru_ 5 HT_ ?_;refine ru_ 6 HT_ ?_
     refine ru_ 7 HT_ ?_;refine ru_ 8 HT_ ?_;refine ru_ 10 HT_ ?_;refine ru_ 11 HT_ ?_;refine ru_ 12 HT_ ?_;refine ru_ 13 HT_ ?_;refine rk_ 4 HT_ HW_ hHeld ?_;refine rk_ 9 HT_ HW_ hHeld ?_;refine rk_ 14 HT_ HW_ hHeld ?_;refine join_ (σ:=Value×Nat) 1 (bt_ 19 262143) (fun s_=> [(33, .agg #[.int .i64 t4, .string t5, .string t6, .int .i64 t7, .int .i64 t8, .int .i64 t9]),(34, .agg #[s_.1, .int .i64 t13]),(6, .pointer (some ⟨s_.2,0,none⟩))]) (fun s_ w'=>(w'.cell? (ad1.add (x5_1).toNat)=some (.int .u8 (rd l1 x5_1))∧w'.cell? (ad1.add ((ji8)).toNat)=some (.int .u8 (rd l1 (ji8)))∧w'.cell? (ad1.add ((ji11)).toNat)=some (.int .u8 (rd l1 (ji11))))∧(Kd.R k79 79 w' w.heap.size (fun k_=>(w.heap.size≤k_)) s_.1 t10)∧(Kd.V k79 79 w' w.heap.size (fun k_=>(P0_ k_∨w.heap.size≤k_)∧some k_≠(s_.1:Value).ownBlock∧k_≠s_.2) (.slice Ao27 x0_1.length co27) x0_1)∧(w'.heap[s_.2]?=some (.cells #[.slice none 0 0, .int .i64 0] 73 (0,0)))∧(w.heap.size≤s_.2)∧(w.heap.size≤s_.2)∧(Below w.heap.size w w')) ?_ ?_;rotate_left
     ·intro hCont;refine two_ (i:=15) (j:=17) (Ni:=some 33) (Nj:=some 6) (bt_ 19 65535) (bt_ 19 163839) rfl rfl rfl rfl (two_of HT_.out (by kernel_rfl)) (by decide) (by decide) (fun K hK=> ?_) (fun K hK=> ?_);rotate_left
      ·skip
       refine box_step ?hg (N:=6) ?hd (cs:=#[.slice none 0 0, .int .i64 0]) (t:=73) ?hr ?_;(case hd=>rfl);(case hg=>rfl);(case hr=>first|(go_simp;done)|(go_simp;rfl));intro gb14 hg w29 hbox hb;replace HO_0:=am_ (Kd.V_below (Kd.V_elderB (by (with_reducible repeat (first|apply Kd.V_alloc|apply Kd.V_drewN|apply Kd.V_drew));exact HO_0.out) gb14 (Nat.le_of_eq hg.symm)) hb);have BK14:=am_ (hbox);have GW14:=am_ ((zg0_ HB hg:w.heap.size≤gb14));have GE14:=am_ ((zg0_ HB hg:w.heap.size≤gb14));replace HB:=am_ (below_step (zl0_ HB) hb);clear hb hbox hg;refine hK.out _ _ ⟨(zx_ HB hw1_0:),(zx_ HB hw2_0:),(zx_ HB hw3_0:)⟩ (fun hHeld=> ?_);clear hK K;refine no_ (N:=some 6) ?_;refine on_ (i:=15) (N:=some 33) (bt_ 19 196607) HT_ (fun K hK=> ?_);refine goes_ Try.func109 (by kernel_rfl) rfl #[.int .u8 (rd l1 x5_1), .int .u8 (rd l1 (ji8)), .int .u8 (rd l1 (ji11))] (by rfl) rfl rfl (by (try simp only [List.map_toArray,List.map_cons,List.map_nil]);first|done|(simp only [hji11,hji8];rfl)|rfl|(simp only [List.length_drop,List.length_take];rfl)) ?_
       with_reducible refine (law15_Step.calls kj2 (rd l1 x5_1) (rd l1 (ji8)) (rd l1 (ji11)) t4 t5 t6 t7 t8 t9 _ A14.out).mono ?_
       rintro e w30 ⟨rfl,hb⟩;refine ⟨_,rfl, ?_⟩;replace HO_0:=am_ (Kd.V_below (by (with_reducible repeat (first|apply Kd.V_alloc|apply Kd.V_drewN|apply Kd.V_drew));exact HO_0.out) hb);replace BK14:=bb_ BK14 hb;replace HB:=am_ (below_step (zl1_ HB GE14) hb);(try clear hb);refine hK.out _ _ ⟨(zx_ HB hw1_0:),(zx_ HB hw2_0:),(zx_ HB hw3_0:)⟩ (fun hHeld=> ?_);clear hK K;refine no_ (N:=some 33) ?_;refine on_ (i:=16) (N:=some 34) (bt_ 19 262143) HT_ (fun K hK=> ?_);refine gs_ Try.func51 #[.slice Ao27 x0_1.length co27, .agg #[.int .i64 t4, .string t5, .string t6, .int .i64 t7, .int .i64 t8, .int .i64 t9], .int .i64 (-1)] ?_
       with_reducible refine (r10_Do.calls kj2 _ _ x0_1 t4 t5 t6 t7 t8 t9 (-1) t10 t13 _ ?side1 ?side2 A15.out).mono ?_
       (case side1=>exact zc_ (Kd.V_reads' HO_0.out).2.2);(case side2=>exact (Kd.V_reads' HO_0.out).2.1);rintro e w31 ⟨v11,rfl,ho0,hb⟩;refine ⟨_,rfl, ?_⟩;replace HO_0:=am_ (Kd.V_elder' (by (with_reducible repeat (first|apply Kd.V_alloc|apply Kd.V_drewN|apply Kd.V_drew));exact HO_0.out) (Kd.R_base ho0) hb);have HO12:=am_ (Kd.R_lower (Kd.R_newM (M:=fun k_=>(w.heap.size≤k_)) ho0 (below_size (zl1_ HB GE14)) (fun k_ h_=>h_)) (below_size (zl1_ HB GE14)));replace BK14:=bb_ BK14 hb;replace HB:=am_ (below_step (zl1_ HB GE14) hb);(try clear hb);(try clear ho0);refine hK.out _ _ ⟨(zx_ HB hw1_0:),(zx_ HB hw2_0:),(zx_ HB hw3_0:)⟩ (fun hHeld=> ?_);clear hK K;refine no_ (N:=some 34) ?_;exact norm_ (by simp only [putAll,Act.put,List.setIfInBounds_toArray,List.set_cons_zero,List.set_cons_succ]) (hCont (v11,gb14) _ ⟨hHeld,(by refine zt_ ?_;exact Kd.R_mono HO12.out (fun _ hk=>hk.1)),(by (with_reducible repeat (first|apply Kd.V_alloc|apply Kd.V_drewN|apply Kd.V_drew));exact Kd.V_mono HO_0.out (fun _ hk=>⟨hk.1.1,⟨hk.2,hk.1.2⟩⟩)),(zb_ BK14),GW14.out,GE14.out,(zl1_ HB GE14)⟩)
      skip
      refine goes_ Try.func109 (by kernel_rfl) rfl #[.int .u8 (rd l1 x5_1), .int .u8 (rd l1 (ji8)), .int .u8 (rd l1 (ji11))] (by rfl) rfl rfl (by (try simp only [List.map_toArray,List.map_cons,List.map_nil]);first|done|(simp only [hji11,hji8];rfl)|rfl|(simp only [List.length_drop,List.length_take];rfl)) ?_
      with_reducible refine (law15_Step.calls kj2 (rd l1 x5_1) (rd l1 (ji8)) (rd l1 (ji11)) t4 t5 t6 t7 t8 t9 _ A14.out).mono ?_
      rintro e w29 ⟨rfl,hb⟩;refine ⟨_,rfl, ?_⟩;replace HO_0:=am_ (Kd.V_below (by (with_reducible repeat (first|apply Kd.V_alloc|apply Kd.V_drewN|apply Kd.V_drew));exact HO_0.out) hb);replace HB:=am_ (below_step (zl0_ HB) hb);(try clear hb);refine hK.out _ _ ⟨(zx_ HB hw1_0:),(zx_ HB hw2_0:),(zx_ HB hw3_0:)⟩ (fun hHeld=> ?_);clear hK K;refine no_ (N:=some 33) ?_;refine two_ (i:=16) (j:=17) (Ni:=some 34) (Nj:=some 6) (bt_ 19 131071) (bt_ 19 196607) rfl rfl rfl rfl (two_of HT_.out (by kernel_rfl)) (by decide) (by decide) (fun K hK=> ?_) (fun K hK=> ?_)
      ·skip
       refine gs_ Try.func51 #[.slice Ao27 x0_1.length co27, .agg #[.int .i64 t4, .string t5, .string t6, .int .i64 t7, .int .i64 t8, .int .i64 t9], .int .i64 (-1)] ?_
       with_reducible refine (r10_Do.calls kj2 _ _ x0_1 t4 t5 t6 t7 t8 t9 (-1) t10 t13 _ ?side1 ?side2 A15.out).mono ?_
       (case side1=>exact zc_ (Kd.V_reads' HO_0.out).2.2);(case side2=>exact (Kd.V_reads' HO_0.out).2.1);rintro e w30 ⟨v11,rfl,ho0,hb⟩;refine ⟨_,rfl, ?_⟩;replace HO_0:=am_ (Kd.V_elder' (by (with_reducible repeat (first|apply Kd.V_alloc|apply Kd.V_drewN|apply Kd.V_drew));exact HO_0.out) (Kd.R_base ho0) hb);have HO12:=am_ (Kd.R_lower (Kd.R_newM (M:=fun k_=>(w.heap.size≤k_)) ho0 (below_size (zl0_ HB)) (fun k_ h_=>h_)) (below_size (zl0_ HB)));replace HB:=am_ (below_step (zl0_ HB) hb);(try clear hb);(try clear ho0);refine hK.out _ _ ⟨(zx_ HB hw1_0:),(zx_ HB hw2_0:),(zx_ HB hw3_0:)⟩ (fun hHeld=> ?_);clear hK K;refine no_ (N:=some 34) ?_;refine on_ (i:=17) (N:=some 6) (bt_ 19 262143) HT_ (fun K hK=> ?_);refine box_step ?hg (N:=6) ?hd (cs:=#[.slice none 0 0, .int .i64 0]) (t:=73) ?hr ?_;(case hd=>rfl);(case hg=>rfl);(case hr=>first|(go_simp;done)|(go_simp;rfl));intro gb14 hg w31 hbox hb;replace HO_0:=am_ (Kd.V_below (Kd.V_elderB (by (with_reducible repeat (first|apply Kd.V_alloc|apply Kd.V_drewN|apply Kd.V_drew));exact HO_0.out) gb14 (Nat.le_of_eq hg.symm)) hb);replace HO12:=ob_ HO12 hb;have BK14:=am_ (hbox);have GW14:=am_ ((zg0_ HB hg:w.heap.size≤gb14));have GE14:=am_ ((zg0_ HB hg:w.heap.size≤gb14));replace HB:=am_ (below_step (zl0_ HB) hb);clear hb hbox hg;refine hK.out _ _ ⟨(zx_ HB hw1_0:),(zx_ HB hw2_0:),(zx_ HB hw3_0:)⟩ (fun hHeld=> ?_);clear hK K;refine no_ (N:=some 6) ?_
       exact norm_ (by simp only [putAll,Act.put,List.setIfInBounds_toArray,List.set_cons_zero,List.set_cons_succ]) (hCont (v11,gb14) _ ⟨hHeld,(by refine zt_ ?_;exact Kd.R_mono HO12.out (fun _ hk=>hk.1)),(by (with_reducible repeat (first|apply Kd.V_alloc|apply Kd.V_drewN|apply Kd.V_drew));exact Kd.V_mono HO_0.out (fun _ hk=>⟨hk.1.1,⟨hk.1.2,hk.2⟩⟩)),(zb_ BK14),GW14.out,GE14.out,(zl1_ HB GE14)⟩)
      skip
      refine box_step ?hg (N:=6) ?hd (cs:=#[.slice none 0 0, .int .i64 0]) (t:=73) ?hr ?_;(case hd=>rfl);(case hg=>rfl);(case hr=>first|(go_simp;done)|(go_simp;rfl));intro gb14 hg w30 hbox hb;replace HO_0:=am_ (Kd.V_below (Kd.V_elderB (by (with_reducible repeat (first|apply Kd.V_alloc|apply Kd.V_drewN|apply Kd.V_drew));exact HO_0.out) gb14 (Nat.le_of_eq hg.symm)) hb);have BK14:=am_ (hbox);have GW14:=am_ ((zg0_ HB hg:w.heap.size≤gb14));have GE14:=am_ ((zg0_ HB hg:w.heap.size≤gb14));replace HB:=am_ (below_step (zl0_ HB) hb);clear hb hbox hg;refine hK.out _ _ ⟨(zx_ HB hw1_0:),(zx_ HB hw2_0:),(zx_ HB hw3_0:)⟩ (fun hHeld=> ?_);clear hK K;refine no_ (N:=some 6) ?_;refine on_ (i:=16) (N:=some 34) (bt_ 19 262143) HT_ (fun K hK=> ?_);refine gs_ Try.func51 #[.slice Ao27 x0_1.length co27, .agg #[.int .i64 t4, .string t5, .string t6, .int .i64 t7, .int .i64 t8, .int .i64 t9], .int .i64 (-1)] ?_
      with_reducible refine (r10_Do.calls kj2 _ _ x0_1 t4 t5 t6 t7 t8 t9 (-1) t10 t13 _ ?side1 ?side2 A15.out).mono ?_
      (case side1=>exact zc_ (Kd.V_reads' HO_0.out).2.2);(case side2=>exact (Kd.V_reads' HO_0.out).2.1);rintro e w31 ⟨v11,rfl,ho0,hb⟩;refine ⟨_,rfl, ?_⟩;replace HO_0:=am_ (Kd.V_elder' (by (with_reducible repeat (first|apply Kd.V_alloc|apply Kd.V_drewN|apply Kd.V_drew));exact HO_0.out) (Kd.R_base ho0) hb);have HO12:=am_ (Kd.R_lower (Kd.R_newM (M:=fun k_=>(w.heap.size≤k_)) ho0 (below_size (zl1_ HB GE14)) (fun k_ h_=>h_)) (below_size (zl1_ HB GE14)));replace BK14:=bb_ BK14 hb;replace HB:=am_ (below_step (zl1_ HB GE14) hb);(try clear hb);(try clear ho0);refine hK.out _ _ ⟨(zx_ HB hw1_0:),(zx_ HB hw2_0:),(zx_ HB hw3_0:)⟩ (fun hHeld=> ?_);clear hK K;refine no_ (N:=some 34) ?_;exact norm_ (by simp only [putAll,Act.put,List.setIfInBounds_toArray,List.set_cons_zero,List.set_cons_succ]) (hCont (v11,gb14) _ ⟨hHeld,(by refine zt_ ?_;exact Kd.R_mono HO12.out (fun _ hk=>hk.1)),(by (with_reducible repeat (first|apply Kd.V_alloc|apply Kd.V_drewN|apply Kd.V_drew));exact Kd.V_mono HO_0.out (fun _ hk=>⟨hk.1.1,⟨hk.2,hk.1.2⟩⟩)),(zb_ BK14),GW14.out,GE14.out,(zl1_ HB GE14)⟩)
     rintro ⟨v11,gb14⟩ w32 ⟨hS_,h0_,h1_,h2_,h3_,h4_,h5_⟩;have n0_:Aside0 (Kd.R k79 79 w32 w.heap.size (fun k_=>(w.heap.size≤k_)) v11 t10):=⟨h0_⟩;have n1_:Aside0 (Kd.V k79 79 w32 w.heap.size (fun k_=>(P0_ k_∨w.heap.size≤k_)∧some k_≠(v11:Value).ownBlock∧k_≠gb14) (.slice Ao27 x0_1.length co27) x0_1):=⟨h1_⟩;have n2_:Aside0 (w32.heap[gb14]?=some (.cells #[.slice none 0 0, .int .i64 0] 73 (0,0))):=⟨h2_⟩;have n3_:Aside0 (w.heap.size≤gb14):=⟨h3_⟩;have n4_:Aside0 (w.heap.size≤gb14):=⟨h4_⟩;have n5_:Aside0 (Below w.heap.size w w32):=⟨h5_⟩;clear HO_0 HB h0_ h1_ h2_ h3_ h4_ h5_;have HO12:=n0_;have HO_0:=n1_;have BK14:=n2_;have GW14:=n3_;have GE14:=n4_;have HB:=n5_;clear n0_ n1_ n2_ n3_ n4_ n5_;have hHeld:w32.cell? (ad1.add (x5_1).toNat)=some (.int .u8 (rd l1 x5_1))∧w32.cell? (ad1.add ((ji8)).toNat)=some (.int .u8 (rd l1 (ji8)))∧w32.cell? (ad1.add ((ji11)).toNat)=some (.int .u8 (rd l1 (ji11))):=hS_;obtain ⟨Ao33,co33,eo33⟩:=Kd.R_slice HO12.out;(first|subst eo33|cases eo33);refine norm_ (a':= ?_) ?_ ?_;rotate_left
     ·simp only [putAll,Act.put,List.setIfInBounds_toArray,List.set_cons_zero,List.set_cons_succ]
      rfl
     refine on_ (i:=18) (N:=none) (bt_ 19 524287) HT_ (fun K hK=> ?_);have hs34:w32.cell? ⟨gb14,0,none⟩=some (.slice none 0 0):=zz_ BK14 0;have hfs34:=blk_frozen BK14.out 0;have hs35:w32.cell? ⟨gb14,1,none⟩=some (.int .i64 0):=zz_ BK14 1;have hfs35:=blk_frozen BK14.out 1;refine skip_ (w1:= ?_) (by rfl) rfl ?_ ?_;rotate_left
     ·go_simp
      rfl
     refine hK.out _ _ ⟨((cell_far (p:=⟨gb14,_,none⟩) (ze_ hw1_0 GW14) _).trans (((cell_far (p:=⟨gb14,_,none⟩) (ze_ hw1_0 GW14) _).trans (hHeld.1)))),((cell_far (p:=⟨gb14,_,none⟩) (ze_ hw2_0 GW14) _).trans (((cell_far (p:=⟨gb14,_,none⟩) (ze_ hw2_0 GW14) _).trans (hHeld.2.1)))),((cell_far (p:=⟨gb14,_,none⟩) (ze_ hw3_0 GW14) _).trans (((cell_far (p:=⟨gb14,_,none⟩) (ze_ hw3_0 GW14) _).trans (hHeld.2.2))))⟩ (fun hHeld=> ?_);clear hK K;refine done_ (done_of HT_.out (by kernel_rfl)) ?_;obtain ⟨hcz36_0,hcz36_1,hfz36_0,hfz36_1⟩:=y2_ BK14;try go_wp2
     go_roundg kj2
     case measure=>have:=HK1.out;have:=HJ2.out;omega
     case rel=>exact ⟨(x0_1),(wrap64 (x5_1+3)),rf_,H',⟨by have:=HK1.out;have:=HJ2.out;omega⟩,⟨by (with_reducible repeat (first|apply Kd.V_alloc|apply Kd.V_drewN|apply Kd.V_drew));exact Kd.V_mono (Kd.V_far (p:=⟨gb14,1,none⟩) (Kd.V_far (p:=⟨gb14,0,none⟩) (Kd.V_mono HO_0.out (fun k_ hk=>(⟨hk,hk.2.2⟩:_∧k_≠gb14))) (fun _ hk=>hk.2) (.slice Ao33 t10.length co33)) (fun _ hk=>hk.2) (.int .i64 t13)) (fun _ hk=>hk.1.1)⟩,⟨zl1_ HB GE14⟩⟩
def law23_ApplyAgain.j0:Nat→List Int→List Int→List Int→Int→Bool→Option (Bool)
 |0,_,_,_,_,_=>none
 |k+1,x0,x1,x2,x3,x24=>if x24=true then ((law23_awake.f k).bind fun t1=>(some t1)) else ((law16_Make.f k x0 x2 x3).bind fun bt2=>((law12_Make.f k x0).bind fun t10=>((law17_Turned.f k t10 x1).bind fun t13=>((apply_Try.f k t13 bt2.1 bt2.2.1 bt2.2.2).bind fun bt16=>((law1_Num.f bt16.2.2.2.2).bind fun t28=>(if t28=0 then ((apply_Try.f k bt16.1 bt2.1 bt2.2.1 bt2.2.2).bind fun bt30=>((law1_Num.f bt30.2.2.2.2).bind fun t42=>(if t42=0 then ((r10_SameItems.f k bt16.1 bt30.1).bind fun t43=>(if t43=true then ((r16_SameWork.f k bt16.2.1 bt16.2.2.1 bt16.2.2.2.1 bt30.2.1 bt30.2.2.1 bt30.2.2.2.1).bind fun t44=>(if t44=true then (if bt16.2.2.2.1=(wrap64 (bt2.2.2+1)) then ((law23_awake.f k).bind fun t45=>(some t45)) else (if (bt16.2.2.1.length:Int)=0 then (if bt16.2.2.2.1=0 then (if bt2.2.2=(wrap64 ((bt2.2.1.length:Int) - 1)) then ((law23_awake.f k).bind fun t46=>(some t46)) else (none)) else (none)) else (none))) else (none))) else (none))) else (none)))) else (if (bt16.1.length:Int)=0 then ((law23_awake.f k).bind fun t29=>(some t29)) else (none))))))))
def law23_ApplyAgain.f (k:Nat) (l0:List Int) (l1:List Int) (l2:List Int) (a3:Int):Option (Bool):=if (l0.length:Int)>60 then (law23_ApplyAgain.j0 k l0 l1 l2 a3 true) else (law23_ApplyAgain.j0 k l0 l1 l2 a3 (decide ((l2.length:Int)>60)))
theorem law23_ApplyAgain.mono_l: ∀k,(∀y0 y1 y2 y3 y4,LeO (law23_ApplyAgain.j0 k y0 y1 y2 y3 y4) (law23_ApplyAgain.j0 (k+1) y0 y1 y2 y3 y4))
 |0=>fun _ _ _ _ _ r h=>by simp [law23_ApplyAgain.j0] at h
 |k+1=>by
  have ih0:=law23_ApplyAgain.mono_l k;intro y0 y1 y2 y3 y4;unfold law23_ApplyAgain.j0
  repeat' with_reducible first|apply ih0|apply apply_Try.mono|apply law12_Make.mono|apply law16_Make.mono|apply law17_Turned.mono|apply law23_awake.mono|apply r10_SameItems.mono|apply r16_SameWork.mono|apply LeO.refl|apply LeO.none|apply LeO.ite|refine LeO.bind ?_ fun _=> ?_
theorem law23_ApplyAgain.mono: ∀a0 a1 a2 a3 k,LeO (law23_ApplyAgain.f k a0 a1 a2 a3) (law23_ApplyAgain.f (k+1) a0 a1 a2 a3):=by
 intro a0 a1 a2 a3 k;have ih0:=law23_ApplyAgain.mono_l k;unfold law23_ApplyAgain.f
 repeat' with_reducible first|apply ih0|apply apply_Try.mono|apply law12_Make.mono|apply law16_Make.mono|apply law17_Turned.mono|apply law23_awake.mono|apply r10_SameItems.mono|apply r16_SameWork.mono|apply LeO.refl|apply LeO.none|apply LeO.ite|refine LeO.bind ?_ fun _=> ?_
set_option maxHeartbeats 80000000 in
set_option maxRecDepth 100000 in
theorem law23_ApplyAgain.calls (k:Nat) (A0:Option Addr) (c0:Nat) (l0:List Int) (A1:Option Addr) (c1:Nat) (l1:List Int) (A2:Option Addr) (c2:Nat) (l2:List Int) (a3:Int) (r:Bool) (w:World) (hr0:Kd.C (Kd.int .u8) w A0 l0.length l0) (hc0:l0.length≤c0) (hr1:Kd.C (Kd.int .u8) w A1 l1.length l1) (hc1:l1.length≤c1) (hr2:Kd.C (Kd.int .u8) w A2 l2.length l2) (hc2:l2.length≤c2) (h:law23_ApplyAgain.f k l0 l1 l2 a3=some r):
  Calls Try.prog 20 #[.slice A0 l0.length c0, .slice A1 l1.length c1, .slice A2 l2.length c2, .int .u8 a3] w fun e w'=>e= .returned (.bool r)∧Below w.heap.size w w':=by
 have hu63:=Try.underlying63;have HR0:=Aside0.mk hr0;have HC0:=Aside0.mk hc0;clear hr0 hc0;have HR1:=Aside0.mk hr1;have HC1:=Aside0.mk hc1;clear hr1 hc1;have HR2:=Aside0.mk hr2;have HC2:=Aside0.mk hc2;clear hr2 hc2;have HB:=am_ (Below.refl w.heap.size w);have H:(if (l0.length:Int)>60 then (law23_ApplyAgain.j0 k l0 l1 l2 a3 true) else (law23_ApplyAgain.j0 k l0 l1 l2 a3 (decide ((l2.length:Int)>60))))=some r:=h;clear h;have HC5:=Aside0.mk H;clear H;go_enter Try.func20,Try.ntmps20;go_upto_region 1 with (fail)
 go_cut [24] (fun v24 wc=> ∃(kq:Nat) (x24_4:Bool),v24= .bool x24_4∧Aside0 (law23_ApplyAgain.j0 kq l0 l1 l2 a3 x24_4=some r)∧Aside0 (kq≤k)∧Aside0 (Below w.heap.size w wc))
 case first=>
  have H:=HC5.out;clear HC5;by_cases c6:(l0.length:Int)>60
  ·rw [if_pos c6] at H;have c6b0:decide (60<(l0.length:Int))=true:=decide_eq_true c6;have c6b1:decide (60<l0.length)=true:=decide_eq_true (by omega);clear c6;(first|rw [c6b0]|(simp only [i64_w,i32_w];rw [c6b0])|skip);have H':=Aside0.mk H;clear H;go_wp2
   go_meet
   case rel=>exact ⟨_,(true),rf_,H',⟨by first|omega|exact Nat.le_refl _⟩,⟨zl0_ HB⟩⟩
  rw [if_neg c6] at H;have c6b0:decide (60<(l0.length:Int))=false:=decide_eq_false c6;have c6b1:decide (60<l0.length)=false:=decide_eq_false (by omega);clear c6;(first|rw [c6b0]|(simp only [i64_w,i32_w];rw [c6b0])|skip);have H':=Aside0.mk H;clear H;go_wp2
  go_meet
  case rel=>exact ⟨_,(decide ((l2.length:Int)>60)),rf_,H',⟨by first|omega|exact Nat.le_refl _⟩,⟨zl0_ HB⟩⟩
 case rest=>
  clear HC5;obtain ⟨kq,x24_4,rfl,HA,HJ4,HB⟩:=hcut
  cases kq with
  |zero=>exact absurd HA.out (by simp [law23_ApplyAgain.j0])
  |succ kj4=>
   have H:=HA.out;clear HA;simp only [law23_ApplyAgain.j0] at H;by_cases c7:x24_4=true
   ·subst c7;rw [if_pos rfl] at H;replace H:=zbd_ H;obtain ⟨t1,A8,H⟩:=H;try dsimp only at H
    obtain rfl:=Option.some.inj H;go_wp2_with (first|((with_reducible refine gate_callee (f:=58) rfl ?_);refine gl_ (some 25) Try.func58 #[] ?_;(with_reducible refine (law23_awake.calls kj4 t1 _ A8.out).mono ?_);rintro e w9 ⟨rfl,hb⟩;refine ⟨_,rfl, ?_⟩;replace HB:=am_ (below_step (zl0_ HB) hb);(try clear hb)))
    go_ret
    exact ⟨by first|rfl|(simp [errW_none,errW_some]<;>rfl)|(simp [*,errW_none,errW_some]<;>rfl),zl0_ HB⟩
   replace c7:=Bool.eq_false_iff.mpr c7;subst c7;rw [if_neg (show¬(false=true) by decide)] at H;replace H:=zbd_ H;obtain ⟨⟨t2,t5,t8⟩,A10,H⟩:=H;try dsimp only at H
   replace H:=zbd_ H;obtain ⟨t10,A11,H⟩:=H;try dsimp only at H
   replace H:=zbd_ H;obtain ⟨t13,A12,H⟩:=H;try dsimp only at H
   replace H:=zbd_ H;obtain ⟨⟨t16,t19,t22,t25,t26⟩,A13,H⟩:=H;try dsimp only at H
   replace H:=zbd_ H;obtain ⟨t28,A14,H⟩:=H;try dsimp only at H
   by_cases c15:t28=0;rotate_left
   ·rw [if_neg c15] at H;have c15b0:=beq_eq_false_iff_ne.mpr c15;have c15b1:=bne_iff_ne.mpr c15;by_cases c260:(t16.length:Int)=0;rotate_left
    ·rw [if_neg c260] at H;cases H
    rw [if_pos c260] at H;have c260b0:=beq_iff_eq.mpr c260;have c260b1:=bne_eq_false_iff_eq.mpr c260;clear c260;replace H:=zbd_ H;obtain ⟨t29,A261,H⟩:=H;try dsimp only at H
    obtain rfl:=Option.some.inj H
    go_wp2_with (first|((with_reducible refine gate_callee (f:=64) rfl ?_);refine gl_ (some 29) Try.func64 #[.slice A0 l0.length c0, .slice A2 l2.length c2, .int .u8 a3] ?_;(with_reducible refine (law16_Make.calls kj4 _ _ l0 _ _ l2 a3 t2 t5 t8 _ ?side1 ?side2 ?side3 ?side4 A10.out).mono ?_);(case side1=>exact zc_ (Kd.C_below HR0.out HB.out));(case side2=>exact HC0.out);(case side3=>exact zc_ (Kd.C_below HR2.out HB.out));(case side4=>exact HC2.out);rintro e w262 ⟨v3,v6,rfl,ho0,ho1,hb⟩;refine ⟨_,rfl, ?_⟩;have HO4:=am_ (Kd.R_lower ho0 (below_size (zl0_ HB)));have HO7:=am_ (Kd.R_lower ho1 (below_size (zl0_ HB)));replace HB:=am_ (below_step (zl0_ HB) hb);(try clear hb ho0 ho1))|((with_reducible refine gate_dst (N:=9) rfl ?_);(try (refine gate_guard (by rfl) ?_;dsimp only));refine bx_ (N:=9) (cs:=#[.slice none 0 0, .slice none 0 0, .int .i64 0]) (t:=63) ?_;intro gb9 hg w263 hbox hb;replace HO4:=ob_ HO4 hb;replace HO7:=ob_ HO7 hb;have BK9:=am_ (hbox);have GE9:=am_ ((zg0_ HB hg:w.heap.size≤gb9));replace HB:=am_ (below_step (zl0_ HB) hb);clear hb hbox hg;obtain ⟨Ao264,co264,eo264⟩:=Kd.R_slice HO4.out;subst eo264;obtain ⟨hcz265_0,hcz265_1,hcz265_2,hfz265_0,hfz265_1,hfz265_2⟩:=y3_ BK9;obtain ⟨Ao266,co266,eo266⟩:=Kd.R_slice HO7.out;subst eo266)|((with_reducible refine gate_callee (f:=38) rfl ?_);refine gl_ (some 31) Try.func38 #[.slice A0 l0.length c0] ?_;(with_reducible refine (law12_Make.calls kj4 _ _ l0 t10 _ ?side1 ?side2 A11.out).mono ?_);(case side1=>exact Kd.C_below HR0.out (zl1_ HB GE9));(case side2=>exact HC0.out);rintro e w267 ⟨v11,rfl,ho0,hb⟩;refine ⟨_,rfl, ?_⟩;replace HO4:=am_ (Kd.R_below (by refine zt_ ?_;exact (zv2_ HO4 BK9)) hb);replace HO7:=am_ (Kd.R_below (by refine zt_ ?_;exact (zv2_ HO7 BK9)) hb);have HO12:=am_ (Kd.R_lower ho0 (below_size (zl1_ HB GE9)));replace BK9:=am_ (blk_below (g:=gb9) (o:= .cells #[.slice Ao264 t2.length co264, .slice Ao266 t5.length co266, .int .i64 t8] 63 (0,0)) (zw_ BK9) hb);replace HB:=am_ (below_step (zl1_ HB GE9) hb);(try clear hb ho0);obtain ⟨Ao268,co268,eo268⟩:=Kd.R_slice HO12.out;subst eo268)|((with_reducible refine gate_callee (f:=65) rfl ?_);refine gl_ (some 33) Try.func65 #[.slice Ao268 t10.length co268, .slice A1 l1.length c1] ?_;(with_reducible refine (law17_Turned.calls kj4 (fun k_=>some k_=(.slice Ao268 t10.length co268:Value).ownBlock) _ _ t10 _ _ l1 t13 _ ?side1 ?side2 ?side3 A12.out).mono ?_);(case side1=>exact Kd.R_V (Kd.R_tight rfl (Kd.R_types (Kd.R_apart' (Kd.R_apart' (HO12.out) (Kd.R_typed HO4.out) (by decide)) (Kd.R_typed HO7.out) (by decide)) BK9.out (by decide))));(case side2=>exact zc_ (Kd.C_below HR1.out HB.out));(case side3=>exact HC1.out);rintro e w269 ⟨v14,rfl,ho0,hb⟩;refine ⟨_,rfl, ?_⟩;have HO15:=am_ (Kd.V_lower (Kd.V_mono (ok':=fun k_=>some k_≠(.slice Ao264 t2.length co264:Value).ownBlock∧some k_≠(.slice Ao266 t5.length co266:Value).ownBlock∧k_≠gb9) ho0 (fun k_ hk_=>⟨Or.elim hk_ (fun hs_=>((Kd.R_types (Kd.R_apart' (Kd.R_apart' (HO12.out) (Kd.R_typed HO4.out) (by decide)) (Kd.R_typed HO7.out) (by decide)) BK9.out (by decide)).1 k_ hs_.symm).1.1.2) (fun hn_=>(Kd.fresh' (Kd.R_lt (zr_ HO4)) k_ hn_)),Or.elim hk_ (fun hs_=>((Kd.R_types (Kd.R_apart' (Kd.R_apart' (HO12.out) (Kd.R_typed HO4.out) (by decide)) (Kd.R_typed HO7.out) (by decide)) BK9.out (by decide)).1 k_ hs_.symm).1.2) (fun hn_=>(Kd.fresh' (Kd.R_lt (zr_ HO7)) k_ hn_)),Or.elim hk_ (fun hs_=>((Kd.R_types (Kd.R_apart' (Kd.R_apart' (HO12.out) (Kd.R_typed HO4.out) (by decide)) (Kd.R_typed HO7.out) (by decide)) BK9.out (by decide)).1 k_ hs_.symm).2) (fun hn_=>(Kd.freshB (g:=gb9) (o:= .cells #[.slice Ao264 t2.length co264, .slice Ao266 t5.length co266, .int .i64 t8] 63 (0,0)) (zb_ BK9) k_ hn_))⟩)) (below_size (zl1_ HB GE9)));replace HO4:=ob_ HO4 hb;replace HO7:=ob_ HO7 hb;replace HO12:=ob_ HO12 hb;replace BK9:=bb_ BK9 hb;replace HB:=am_ (below_step (zl1_ HB GE9) hb);(try clear hb ho0);obtain ⟨hcz270_0,hcz270_1,hcz270_2,hfz270_0,hfz270_1,hfz270_2⟩:=y3_ BK9;obtain ⟨Ao271,co271,eo271⟩:=Kd.V_slice HO15.out;subst eo271)|((with_reducible refine gate_callee (f:=60) rfl ?_);refine gl_ (some 37) Try.func60 #[.slice Ao271 t13.length co271, .agg #[.slice Ao264 t2.length co264, .slice Ao266 t5.length co266, .int .i64 t8]] ?_;(with_reducible refine (apply_Try.calls kj4 _ _ t13 _ _ t2 _ _ t5 t8 t16 t19 t22 t25 t26 _ ?side1 ?side2 ?side3 ?side4 ?side5 ?side6 A13.out).mono ?_);(case side1=>exact zc_ (Kd.V_reads' HO15.out).2.2);(case side2=>exact (Kd.V_reads' HO15.out).2.1);(case side3=>exact zc_ (Kd.R_reads' HO4.out).2.2);(case side4=>exact (Kd.R_reads' HO4.out).2.1);(case side5=>exact zc_ (Kd.R_reads' HO7.out).2.2);(case side6=>exact (Kd.R_reads' HO7.out).2.1);rintro e w272 ⟨v17,v20,v23,rfl,ho0,ho1,ho2,hb⟩;refine ⟨_,rfl, ?_⟩;replace HO15:=am_ (Kd.V_mono (Kd.V_told (Kd.V_told (Kd.V_told (Kd.V_old (by (with_reducible repeat (first|apply Kd.V_alloc|apply Kd.V_drewN|apply Kd.V_drew));exact HO15.out) hb) (Kd.R_base ho0)) (Kd.R_base ho1)) (Kd.R_base ho2)) (fun _ h_=>h_.1));have HO18:=am_ (Kd.R_lower (Kd.R_new' ho0 (Kd.R_lt (zr_ HO12))) (below_size (zl1_ HB GE9)));replace HO12:=am_ (Kd.R_elder' (zr_ HO12) (Kd.R_base ho0) hb);have HO21:=am_ (Kd.R_lower (Kd.R_new' ho1 (Kd.R_lt (zr_ HO4))) (below_size (zl1_ HB GE9)));replace HO4:=am_ (Kd.R_elder' (zr_ HO4) (Kd.R_base ho1) hb);have HO24:=am_ (Kd.R_lower (Kd.R_new' ho2 (Kd.R_lt (zr_ HO7))) (below_size (zl1_ HB GE9)));replace HO7:=am_ (Kd.R_elder' (zr_ HO7) (Kd.R_base ho2) hb);replace BK9:=bb_ BK9 hb;replace HB:=am_ (below_step (zl1_ HB GE9) hb);(try clear hb ho0 ho1 ho2))|((with_reducible refine gate_dst (N:=12) rfl ?_);(try (refine gate_guard (by rfl) ?_;dsimp only));refine bx_ (N:=12) (cs:=#[.slice none 0 0, .slice none 0 0, .int .i64 0]) (t:=63) ?_;intro gb27 hg w273 hbox hb;replace HO4:=ob_ HO4 hb;replace HO7:=ob_ HO7 hb;replace HO12:=ob_ HO12 hb;replace HO15:=am_ (Kd.V_below (Kd.V_elderB (by (with_reducible repeat (first|apply Kd.V_alloc|apply Kd.V_drewN|apply Kd.V_drew));exact HO15.out) gb27 (Nat.le_of_eq hg.symm)) hb);replace HO18:=ob_ HO18 hb;replace HO21:=ob_ HO21 hb;replace HO24:=ob_ HO24 hb;have BK27:=am_ (hbox);have GE27:=am_ ((zg1_ HB GE9 hg:w.heap.size≤gb27));replace HB:=am_ (below_step (zl1_ HB GE9) hb);have NB9_27:=am_ ((zn_ BK9 hg:gb9≠gb27));have NB27_9:=am_ ((zm_ BK9 hg:gb27≠gb9));replace BK9:=bb_ BK9 hb;clear hb hbox hg;obtain ⟨Ao274,co274,eo274⟩:=Kd.R_slice HO21.out;subst eo274;have hnb275:=NB27_9.out;have hnc275:=NB9_27.out;obtain ⟨hcz276_0,hcz276_1,hcz276_2,hfz276_0,hfz276_1,hfz276_2⟩:=y3_ BK27;obtain ⟨Ao277,co277,eo277⟩:=Kd.R_slice HO24.out;subst eo277)|((with_reducible refine gate_callee (f:=25) rfl ?_);refine gl_ (some 42) Try.func25 #[.int .i64 t26] ?_;(with_reducible refine (law1_Num.calls t26 t28 _ A14.out).mono ?_);rintro e w' ⟨rfl,⟨nd,rfl⟩⟩;refine ⟨_,rfl, ?_⟩;obtain ⟨Ao278,co278,eo278⟩:=Kd.R_slice HO18.out;subst eo278)|(go_at_call 58;(with_reducible refine (law23_awake.calls kj4 t29 _ A261.out).mono ?_);rintro e w279 ⟨rfl,hb⟩;replace HO4:=am_ (Kd.R_below (by refine zt_ ?_;exact (zv2_ HO4 BK27)) hb);replace HO7:=am_ (Kd.R_below (by refine zt_ ?_;exact (zv2_ HO7 BK27)) hb);replace HO12:=am_ (Kd.R_below (by refine zt_ ?_;exact (zv2_ HO12 BK27)) hb);replace HO15:=am_ (Kd.V_below (by (with_reducible repeat (first|apply Kd.V_alloc|apply Kd.V_drewN|apply Kd.V_drew));exact (Kd.V_mono (Kd.V_far (p:=⟨gb27,2,none⟩) (Kd.V_far (p:=⟨gb27,1,none⟩) (Kd.V_far (p:=⟨gb27,0,none⟩) (Kd.V_mono HO15.out (fun k_ hk=>(⟨hk,hk.2⟩:_∧k_≠gb27))) (fun _ hk=>hk.2) (.slice Ao274 t19.length co274)) (fun _ hk=>hk.2) (.slice Ao277 t22.length co277)) (fun _ hk=>hk.2) (.int .i64 t25)) (fun _ h_=>h_.1))) hb);replace HO18:=am_ (Kd.R_below (by refine zt_ ?_;exact (zv2_ HO18 BK27)) hb);replace HO21:=am_ (Kd.R_below (by refine zt_ ?_;exact (zv2_ HO21 BK27)) hb);replace HO24:=am_ (Kd.R_below (by refine zt_ ?_;exact (zv2_ HO24 BK27)) hb);replace BK9:=am_ (blk_below (g:=gb9) (o:= .cells #[.slice Ao264 t2.length co264, .slice Ao266 t5.length co266, .int .i64 t8] 63 (0,0)) (zw_ BK9) hb);replace BK27:=am_ (blk_below (g:=gb27) (o:= .cells #[.slice Ao274 t19.length co274, .slice Ao277 t22.length co277, .int .i64 t25] 63 (0,0)) (zw_ BK27) hb);replace HB:=am_ (below_step (zl2_ HB GE9 GE27) hb);(try clear hb)))
    go_ret
    exact ⟨by first|rfl|(simp [errW_none,errW_some]<;>rfl)|(simp [*,errW_none,errW_some]<;>rfl),zl2_ HB GE9 GE27⟩
   rw [if_pos c15] at H;have c15b0:=beq_iff_eq.mpr c15;have c15b1:=bne_eq_false_iff_eq.mpr c15;clear c15;replace H:=zbd_ H;obtain ⟨⟨t30,t33,t36,t39,t40⟩,A16,H⟩:=H;try dsimp only at H
   replace H:=zbd_ H;obtain ⟨t42,A17,H⟩:=H;try dsimp only at H
   by_cases c18:t42=0;rotate_left
   ·rw [if_neg c18] at H;cases H
   rw [if_pos c18] at H;have c18b0:=beq_iff_eq.mpr c18;have c18b1:=bne_eq_false_iff_eq.mpr c18;clear c18;replace H:=zbd_ H;obtain ⟨t43,A19,H⟩:=H;try dsimp only at H
   by_cases c20:t43=true;rotate_left
   ·replace c20:=Bool.eq_false_iff.mpr c20;subst c20;have H1:(none)=some r:=by rw [if_neg (show¬(false=true) by decide)] at H;exact H
    cases H1
   subst c20;rw [if_pos rfl] at H;replace H:=zbd_ H;obtain ⟨t44,A21,H⟩:=H;try dsimp only at H
   by_cases c22:t44=true;rotate_left
   ·replace c22:=Bool.eq_false_iff.mpr c22;subst c22;have H1:(none)=some r:=by rw [if_neg (show¬(false=true) by decide)] at H;exact H
    cases H1
   subst c22;rw [if_pos rfl] at H;by_cases c23:t25=(wrap64 (t8+1))
   ·rw [if_pos c23] at H;have c23b0:=beq_iff_eq.mpr c23;have c23b1:=bne_eq_false_iff_eq.mpr c23;clear c23;replace H:=zbd_ H;obtain ⟨t45,A24,H⟩:=H;try dsimp only at H
    obtain rfl:=Option.some.inj H
    go_wp2_with (first|((with_reducible refine gate_callee (f:=64) rfl ?_);refine gl_ (some 29) Try.func64 #[.slice A0 l0.length c0, .slice A2 l2.length c2, .int .u8 a3] ?_;(with_reducible refine (law16_Make.calls kj4 _ _ l0 _ _ l2 a3 t2 t5 t8 _ ?side1 ?side2 ?side3 ?side4 A10.out).mono ?_);(case side1=>exact zc_ (Kd.C_below HR0.out HB.out));(case side2=>exact HC0.out);(case side3=>exact zc_ (Kd.C_below HR2.out HB.out));(case side4=>exact HC2.out);rintro e w25 ⟨v3,v6,rfl,ho0,ho1,hb⟩;refine ⟨_,rfl, ?_⟩;have HO4:=am_ (Kd.R_lower ho0 (below_size (zl0_ HB)));have HO7:=am_ (Kd.R_lower ho1 (below_size (zl0_ HB)));replace HB:=am_ (below_step (zl0_ HB) hb);(try clear hb ho0 ho1))|((with_reducible refine gate_dst (N:=9) rfl ?_);(try (refine gate_guard (by rfl) ?_;dsimp only));refine bx_ (N:=9) (cs:=#[.slice none 0 0, .slice none 0 0, .int .i64 0]) (t:=63) ?_;intro gb9 hg w26 hbox hb;replace HO4:=ob_ HO4 hb;replace HO7:=ob_ HO7 hb;have BK9:=am_ (hbox);have GE9:=am_ ((zg0_ HB hg:w.heap.size≤gb9));replace HB:=am_ (below_step (zl0_ HB) hb);clear hb hbox hg;obtain ⟨Ao27,co27,eo27⟩:=Kd.R_slice HO4.out;subst eo27;obtain ⟨hcz28_0,hcz28_1,hcz28_2,hfz28_0,hfz28_1,hfz28_2⟩:=y3_ BK9;obtain ⟨Ao29,co29,eo29⟩:=Kd.R_slice HO7.out;subst eo29)|((with_reducible refine gate_callee (f:=38) rfl ?_);refine gl_ (some 31) Try.func38 #[.slice A0 l0.length c0] ?_;(with_reducible refine (law12_Make.calls kj4 _ _ l0 t10 _ ?side1 ?side2 A11.out).mono ?_);(case side1=>exact Kd.C_below HR0.out (zl1_ HB GE9));(case side2=>exact HC0.out);rintro e w30 ⟨v11,rfl,ho0,hb⟩;refine ⟨_,rfl, ?_⟩;replace HO4:=am_ (Kd.R_below (by refine zt_ ?_;exact (zv2_ HO4 BK9)) hb);replace HO7:=am_ (Kd.R_below (by refine zt_ ?_;exact (zv2_ HO7 BK9)) hb);have HO12:=am_ (Kd.R_lower ho0 (below_size (zl1_ HB GE9)));replace BK9:=am_ (blk_below (g:=gb9) (o:= .cells #[.slice Ao27 t2.length co27, .slice Ao29 t5.length co29, .int .i64 t8] 63 (0,0)) (zw_ BK9) hb);replace HB:=am_ (below_step (zl1_ HB GE9) hb);(try clear hb ho0);obtain ⟨Ao31,co31,eo31⟩:=Kd.R_slice HO12.out;subst eo31)|((with_reducible refine gate_callee (f:=65) rfl ?_);refine gl_ (some 33) Try.func65 #[.slice Ao31 t10.length co31, .slice A1 l1.length c1] ?_;(with_reducible refine (law17_Turned.calls kj4 (fun k_=>some k_=(.slice Ao31 t10.length co31:Value).ownBlock) _ _ t10 _ _ l1 t13 _ ?side1 ?side2 ?side3 A12.out).mono ?_);(case side1=>exact Kd.R_V (Kd.R_tight rfl (Kd.R_types (Kd.R_apart' (Kd.R_apart' (HO12.out) (Kd.R_typed HO4.out) (by decide)) (Kd.R_typed HO7.out) (by decide)) BK9.out (by decide))));(case side2=>exact zc_ (Kd.C_below HR1.out HB.out));(case side3=>exact HC1.out);rintro e w32 ⟨v14,rfl,ho0,hb⟩;refine ⟨_,rfl, ?_⟩;have HO15:=am_ (Kd.V_lower (Kd.V_mono (ok':=fun k_=>some k_≠(.slice Ao27 t2.length co27:Value).ownBlock∧some k_≠(.slice Ao29 t5.length co29:Value).ownBlock∧k_≠gb9) ho0 (fun k_ hk_=>⟨Or.elim hk_ (fun hs_=>((Kd.R_types (Kd.R_apart' (Kd.R_apart' (HO12.out) (Kd.R_typed HO4.out) (by decide)) (Kd.R_typed HO7.out) (by decide)) BK9.out (by decide)).1 k_ hs_.symm).1.1.2) (fun hn_=>(Kd.fresh' (Kd.R_lt (zr_ HO4)) k_ hn_)),Or.elim hk_ (fun hs_=>((Kd.R_types (Kd.R_apart' (Kd.R_apart' (HO12.out) (Kd.R_typed HO4.out) (by decide)) (Kd.R_typed HO7.out) (by decide)) BK9.out (by decide)).1 k_ hs_.symm).1.2) (fun hn_=>(Kd.fresh' (Kd.R_lt (zr_ HO7)) k_ hn_)),Or.elim hk_ (fun hs_=>((Kd.R_types (Kd.R_apart' (Kd.R_apart' (HO12.out) (Kd.R_typed HO4.out) (by decide)) (Kd.R_typed HO7.out) (by decide)) BK9.out (by decide)).1 k_ hs_.symm).2) (fun hn_=>(Kd.freshB (g:=gb9) (o:= .cells #[.slice Ao27 t2.length co27, .slice Ao29 t5.length co29, .int .i64 t8] 63 (0,0)) (zb_ BK9) k_ hn_))⟩)) (below_size (zl1_ HB GE9)));replace HO4:=ob_ HO4 hb;replace HO7:=ob_ HO7 hb;replace HO12:=ob_ HO12 hb;replace BK9:=bb_ BK9 hb;replace HB:=am_ (below_step (zl1_ HB GE9) hb);(try clear hb ho0);obtain ⟨hcz33_0,hcz33_1,hcz33_2,hfz33_0,hfz33_1,hfz33_2⟩:=y3_ BK9;obtain ⟨Ao34,co34,eo34⟩:=Kd.V_slice HO15.out;subst eo34)|((with_reducible refine gate_callee (f:=60) rfl ?_);refine gl_ (some 37) Try.func60 #[.slice Ao34 t13.length co34, .agg #[.slice Ao27 t2.length co27, .slice Ao29 t5.length co29, .int .i64 t8]] ?_;(with_reducible refine (apply_Try.calls kj4 _ _ t13 _ _ t2 _ _ t5 t8 t16 t19 t22 t25 t26 _ ?side1 ?side2 ?side3 ?side4 ?side5 ?side6 A13.out).mono ?_);(case side1=>exact zc_ (Kd.V_reads' HO15.out).2.2);(case side2=>exact (Kd.V_reads' HO15.out).2.1);(case side3=>exact zc_ (Kd.R_reads' HO4.out).2.2);(case side4=>exact (Kd.R_reads' HO4.out).2.1);(case side5=>exact zc_ (Kd.R_reads' HO7.out).2.2);(case side6=>exact (Kd.R_reads' HO7.out).2.1);rintro e w35 ⟨v17,v20,v23,rfl,ho0,ho1,ho2,hb⟩;refine ⟨_,rfl, ?_⟩;replace HO15:=am_ (Kd.V_mono (Kd.V_told (Kd.V_told (Kd.V_told (Kd.V_old (by (with_reducible repeat (first|apply Kd.V_alloc|apply Kd.V_drewN|apply Kd.V_drew));exact HO15.out) hb) (Kd.R_base ho0)) (Kd.R_base ho1)) (Kd.R_base ho2)) (fun _ h_=>h_.1));have HO18:=am_ (Kd.R_lower (Kd.R_new' ho0 (Kd.R_lt (zr_ HO12))) (below_size (zl1_ HB GE9)));replace HO12:=am_ (Kd.R_elder' (zr_ HO12) (Kd.R_base ho0) hb);have HO21:=am_ (Kd.R_lower (Kd.R_new' ho1 (Kd.R_lt (zr_ HO4))) (below_size (zl1_ HB GE9)));replace HO4:=am_ (Kd.R_elder' (zr_ HO4) (Kd.R_base ho1) hb);have HO24:=am_ (Kd.R_lower (Kd.R_new' ho2 (Kd.R_lt (zr_ HO7))) (below_size (zl1_ HB GE9)));replace HO7:=am_ (Kd.R_elder' (zr_ HO7) (Kd.R_base ho2) hb);replace BK9:=bb_ BK9 hb;replace HB:=am_ (below_step (zl1_ HB GE9) hb);(try clear hb ho0 ho1 ho2))|((with_reducible refine gate_dst (N:=12) rfl ?_);(try (refine gate_guard (by rfl) ?_;dsimp only));refine bx_ (N:=12) (cs:=#[.slice none 0 0, .slice none 0 0, .int .i64 0]) (t:=63) ?_;intro gb27 hg w36 hbox hb;replace HO4:=ob_ HO4 hb;replace HO7:=ob_ HO7 hb;replace HO12:=ob_ HO12 hb;replace HO15:=am_ (Kd.V_below (Kd.V_elderB (by (with_reducible repeat (first|apply Kd.V_alloc|apply Kd.V_drewN|apply Kd.V_drew));exact HO15.out) gb27 (Nat.le_of_eq hg.symm)) hb);replace HO18:=ob_ HO18 hb;replace HO21:=ob_ HO21 hb;replace HO24:=ob_ HO24 hb;have BK27:=am_ (hbox);have GE27:=am_ ((zg1_ HB GE9 hg:w.heap.size≤gb27));replace HB:=am_ (below_step (zl1_ HB GE9) hb);have NB9_27:=am_ ((zn_ BK9 hg:gb9≠gb27));have NB27_9:=am_ ((zm_ BK9 hg:gb27≠gb9));replace BK9:=bb_ BK9 hb;clear hb hbox hg;obtain ⟨Ao37,co37,eo37⟩:=Kd.R_slice HO21.out;subst eo37;have hnb38:=NB27_9.out;have hnc38:=NB9_27.out;obtain ⟨hcz39_0,hcz39_1,hcz39_2,hfz39_0,hfz39_1,hfz39_2⟩:=y3_ BK27;obtain ⟨Ao40,co40,eo40⟩:=Kd.R_slice HO24.out;subst eo40)|((with_reducible refine gate_callee (f:=25) rfl ?_);refine gl_ (some 42) Try.func25 #[.int .i64 t26] ?_;(with_reducible refine (law1_Num.calls t26 t28 _ A14.out).mono ?_);rintro e w' ⟨rfl,⟨nd,rfl⟩⟩;refine ⟨_,rfl, ?_⟩;obtain ⟨hcz41_0,hcz41_1,hcz41_2,hfz41_0,hfz41_1,hfz41_2⟩:=y3_ BK9;obtain ⟨Ao42,co42,eo42⟩:=Kd.R_slice HO18.out;subst eo42)|((with_reducible refine gate_callee (f:=60) rfl ?_);refine gl_ (some 53) Try.func60 #[.slice Ao42 t16.length co42, .agg #[.slice Ao27 t2.length co27, .slice Ao29 t5.length co29, .int .i64 t8]] ?_;(with_reducible refine (apply_Try.calls kj4 _ _ t16 _ _ t2 _ _ t5 t8 t30 t33 t36 t39 t40 _ ?side1 ?side2 ?side3 ?side4 ?side5 ?side6 A16.out).mono ?_);(case side1=>refine (Kd.R_reads' (e:=79) (base:=w.heap.size) (ok:=fun k_=>(True∧some k_≠(.slice Ao31 t10.length co31:Value).ownBlock)) (n:=t16.length) (c:=co42) ?_).2.2;exact (by refine zt_ ?_;exact (zv2_ HO18 BK27)));(case side2=>exact (Kd.R_reads' HO18.out).2.1);(case side3=>refine (Kd.R_reads' (e:=84) (base:=w.heap.size) (ok:=fun k_=>(True∧some k_≠(.slice Ao37 t19.length co37:Value).ownBlock)) (n:=t2.length) (c:=co27) ?_).2.2;exact (by refine zt_ ?_;exact (zv2_ HO4 BK27)));(case side4=>exact (Kd.R_reads' HO4.out).2.1);(case side5=>refine (Kd.R_reads' (e:=76) (base:=w.heap.size) (ok:=fun k_=>(True∧some k_≠(.slice Ao40 t22.length co40:Value).ownBlock)) (n:=t5.length) (c:=co29) ?_).2.2;exact (by refine zt_ ?_;exact (zv2_ HO7 BK27)));(case side6=>exact (Kd.R_reads' HO7.out).2.1);rintro e w43 ⟨v31,v34,v37,rfl,ho0,ho1,ho2,hb⟩;refine ⟨_,rfl, ?_⟩;replace HO15:=am_ (Kd.V_mono (Kd.V_told (Kd.V_told (Kd.V_told (Kd.V_old (by (with_reducible repeat (first|apply Kd.V_alloc|apply Kd.V_drewN|apply Kd.V_drew));exact (Kd.V_mono (Kd.V_far (p:=⟨gb27,2,none⟩) (Kd.V_far (p:=⟨gb27,1,none⟩) (Kd.V_far (p:=⟨gb27,0,none⟩) (Kd.V_mono HO15.out (fun k_ hk=>(⟨hk,hk.2⟩:_∧k_≠gb27))) (fun _ hk=>hk.2) (.slice Ao37 t19.length co37)) (fun _ hk=>hk.2) (.slice Ao40 t22.length co40)) (fun _ hk=>hk.2) (.int .i64 t25)) (fun _ h_=>h_.1))) hb) (Kd.R_base ho0)) (Kd.R_base ho1)) (Kd.R_base ho2)) (fun _ h_=>h_.1));have HO32:=am_ (Kd.R_lower (Kd.R_new' (Kd.R_new' ho0 (Kd.R_lt (by refine zt_ ?_;exact (zv2_ HO12 BK27)))) (Kd.R_lt (by refine zt_ ?_;exact (zv2_ HO18 BK27)))) (below_size (zl2_ HB GE9 GE27)));replace HO12:=am_ (Kd.R_elder' (by refine zt_ ?_;exact (zv2_ HO12 BK27)) (Kd.R_base ho0) hb);replace HO18:=am_ (Kd.R_elder' (by refine zt_ ?_;exact (zv2_ HO18 BK27)) (Kd.R_base ho0) hb);have HO35:=am_ (Kd.R_lower (Kd.R_new' (Kd.R_new' ho1 (Kd.R_lt (by refine zt_ ?_;exact (zv2_ HO4 BK27)))) (Kd.R_lt (by refine zt_ ?_;exact (zv2_ HO21 BK27)))) (below_size (zl2_ HB GE9 GE27)));replace HO4:=am_ (Kd.R_elder' (by refine zt_ ?_;exact (zv2_ HO4 BK27)) (Kd.R_base ho1) hb);replace HO21:=am_ (Kd.R_elder' (by refine zt_ ?_;exact (zv2_ HO21 BK27)) (Kd.R_base ho1) hb);have HO38:=am_ (Kd.R_lower (Kd.R_new' (Kd.R_new' ho2 (Kd.R_lt (by refine zt_ ?_;exact (zv2_ HO7 BK27)))) (Kd.R_lt (by refine zt_ ?_;exact (zv2_ HO24 BK27)))) (below_size (zl2_ HB GE9 GE27)));replace HO7:=am_ (Kd.R_elder' (by refine zt_ ?_;exact (zv2_ HO7 BK27)) (Kd.R_base ho2) hb);replace HO24:=am_ (Kd.R_elder' (by refine zt_ ?_;exact (zv2_ HO24 BK27)) (Kd.R_base ho2) hb);replace BK9:=am_ (blk_below (g:=gb9) (o:= .cells #[.slice Ao27 t2.length co27, .slice Ao29 t5.length co29, .int .i64 t8] 63 (0,0)) (zw_ BK9) hb);replace BK27:=am_ (blk_below (g:=gb27) (o:= .cells #[.slice Ao37 t19.length co37, .slice Ao40 t22.length co40, .int .i64 t25] 63 (0,0)) (zw_ BK27) hb);replace HB:=am_ (below_step (zl2_ HB GE9 GE27) hb);(try clear hb ho0 ho1 ho2))|((with_reducible refine gate_dst (N:=15) rfl ?_);(try (refine gate_guard (by rfl) ?_;dsimp only));refine bx_ (N:=15) (cs:=#[.slice none 0 0, .slice none 0 0, .int .i64 0]) (t:=63) ?_;intro gb41 hg w44 hbox hb;replace HO4:=ob_ HO4 hb;replace HO7:=ob_ HO7 hb;replace HO12:=ob_ HO12 hb;replace HO15:=am_ (Kd.V_below (Kd.V_elderB (by (with_reducible repeat (first|apply Kd.V_alloc|apply Kd.V_drewN|apply Kd.V_drew));exact HO15.out) gb41 (Nat.le_of_eq hg.symm)) hb);replace HO18:=ob_ HO18 hb;replace HO21:=ob_ HO21 hb;replace HO24:=ob_ HO24 hb;replace HO32:=ob_ HO32 hb;replace HO35:=ob_ HO35 hb;replace HO38:=ob_ HO38 hb;have BK41:=am_ (hbox);have GE41:=am_ ((zg2_ HB GE9 GE27 hg:w.heap.size≤gb41));replace HB:=am_ (below_step (zl2_ HB GE9 GE27) hb);have NB9_41:=am_ ((zn_ BK9 hg:gb9≠gb41));have NB41_9:=am_ ((zm_ BK9 hg:gb41≠gb9));replace BK9:=bb_ BK9 hb;have NB27_41:=am_ ((zn_ BK27 hg:gb27≠gb41));have NB41_27:=am_ ((zm_ BK27 hg:gb41≠gb27));replace BK27:=bb_ BK27 hb;clear hb hbox hg;obtain ⟨Ao45,co45,eo45⟩:=Kd.R_slice HO35.out;subst eo45;have hnb46:=NB41_9.out;have hnc46:=NB9_41.out;have hnb47:=NB41_27.out;have hnc47:=NB27_41.out;obtain ⟨hcz48_0,hcz48_1,hcz48_2,hfz48_0,hfz48_1,hfz48_2⟩:=y3_ BK41;obtain ⟨Ao49,co49,eo49⟩:=Kd.R_slice HO38.out;subst eo49)|((with_reducible refine gate_callee (f:=25) rfl ?_);refine gl_ (some 58) Try.func25 #[.int .i64 t40] ?_;(with_reducible refine (law1_Num.calls t40 t42 _ A17.out).mono ?_);rintro e w' ⟨rfl,⟨nd,rfl⟩⟩;refine ⟨_,rfl, ?_⟩;obtain ⟨Ao50,co50,eo50⟩:=Kd.R_slice HO32.out;subst eo50)|(go_at_call 42;(with_reducible refine (r10_SameItems.calls kj4 _ _ t16 _ _ t30 true _ ?side1 ?side2 ?side3 ?side4 A19.out).mono ?_);(case side1=>refine (Kd.R_reads' (e:=79) (base:=w.heap.size) (ok:=fun k_=>((True∧some k_≠(.slice Ao31 t10.length co31:Value).ownBlock)∧some k_≠(.slice Ao50 t30.length co50:Value).ownBlock)) (n:=t16.length) (c:=co42) ?_).2.2;exact (by refine zt_ ?_;exact (zv2_ HO18 BK41)));(case side2=>exact (Kd.R_reads' HO18.out).2.1);(case side3=>refine (Kd.R_reads' (e:=79) (base:=w.heap.size) (ok:=fun k_=>((True∧some k_≠(.slice Ao31 t10.length co31:Value).ownBlock)∧some k_≠(.slice Ao42 t16.length co42:Value).ownBlock)) (n:=t30.length) (c:=co50) ?_).2.2;exact (by refine zt_ ?_;exact (zv2_ HO32 BK41)));(case side4=>exact (Kd.R_reads' HO32.out).2.1);rintro e w' ⟨rfl,⟨nd,rfl⟩⟩;obtain ⟨hcz51_0,hcz51_1,hcz51_2⟩:=x3_ BK27;have hfz51_0:=blk_frozen BK27.out 0;have hfz51_1:=blk_frozen BK27.out 1;have hfz51_2:=blk_frozen BK27.out 2)|(go_at_call 66;(with_reducible refine (r16_SameWork.calls kj4 _ _ t19 _ _ t22 t25 _ _ t33 _ _ t36 t39 true _ ?side1 ?side2 ?side3 ?side4 ?side5 ?side6 ?side7 ?side8 A21.out).mono ?_);(case side1=>refine (Kd.R_reads' (e:=84) (base:=w.heap.size) (ok:=fun k_=>((True∧some k_≠(.slice Ao27 t2.length co27:Value).ownBlock)∧some k_≠(.slice Ao45 t33.length co45:Value).ownBlock)) (n:=t19.length) (c:=co37) ?_).2.2;exact (by refine zt_ ?_;exact (zv2_ HO21 BK41)));(case side2=>exact (Kd.R_reads' HO21.out).2.1);(case side3=>refine (Kd.R_reads' (e:=76) (base:=w.heap.size) (ok:=fun k_=>((True∧some k_≠(.slice Ao29 t5.length co29:Value).ownBlock)∧some k_≠(.slice Ao49 t36.length co49:Value).ownBlock)) (n:=t22.length) (c:=co40) ?_).2.2;exact (by refine zt_ ?_;exact (zv2_ HO24 BK41)));(case side4=>exact (Kd.R_reads' HO24.out).2.1);(case side5=>refine (Kd.R_reads' (e:=84) (base:=w.heap.size) (ok:=fun k_=>((True∧some k_≠(.slice Ao27 t2.length co27:Value).ownBlock)∧some k_≠(.slice Ao37 t19.length co37:Value).ownBlock)) (n:=t33.length) (c:=co45) ?_).2.2;exact (by refine zt_ ?_;exact (zv2_ HO35 BK41)));(case side6=>exact (Kd.R_reads' HO35.out).2.1);(case side7=>refine (Kd.R_reads' (e:=76) (base:=w.heap.size) (ok:=fun k_=>((True∧some k_≠(.slice Ao29 t5.length co29:Value).ownBlock)∧some k_≠(.slice Ao40 t22.length co40:Value).ownBlock)) (n:=t36.length) (c:=co49) ?_).2.2;exact (by refine zt_ ?_;exact (zv2_ HO38 BK41)));(case side8=>exact (Kd.R_reads' HO38.out).2.1);rintro e w52 ⟨rfl,hb⟩;replace HO4:=am_ (Kd.R_below (by refine zt_ ?_;exact (zv2_ HO4 BK41)) hb);replace HO7:=am_ (Kd.R_below (by refine zt_ ?_;exact (zv2_ HO7 BK41)) hb);replace HO12:=am_ (Kd.R_below (by refine zt_ ?_;exact (zv2_ HO12 BK41)) hb);replace HO15:=am_ (Kd.V_below (by (with_reducible repeat (first|apply Kd.V_alloc|apply Kd.V_drewN|apply Kd.V_drew));exact (Kd.V_mono (Kd.V_far (p:=⟨gb41,2,none⟩) (Kd.V_far (p:=⟨gb41,1,none⟩) (Kd.V_far (p:=⟨gb41,0,none⟩) (Kd.V_mono HO15.out (fun k_ hk=>(⟨hk,hk.2⟩:_∧k_≠gb41))) (fun _ hk=>hk.2) (.slice Ao45 t33.length co45)) (fun _ hk=>hk.2) (.slice Ao49 t36.length co49)) (fun _ hk=>hk.2) (.int .i64 t39)) (fun _ h_=>h_.1))) hb);replace HO18:=am_ (Kd.R_below (by refine zt_ ?_;exact (zv2_ HO18 BK41)) hb);replace HO21:=am_ (Kd.R_below (by refine zt_ ?_;exact (zv2_ HO21 BK41)) hb);replace HO24:=am_ (Kd.R_below (by refine zt_ ?_;exact (zv2_ HO24 BK41)) hb);replace HO32:=am_ (Kd.R_below (by refine zt_ ?_;exact (zv2_ HO32 BK41)) hb);replace HO35:=am_ (Kd.R_below (by refine zt_ ?_;exact (zv2_ HO35 BK41)) hb);replace HO38:=am_ (Kd.R_below (by refine zt_ ?_;exact (zv2_ HO38 BK41)) hb);replace BK9:=am_ (blk_below (g:=gb9) (o:= .cells #[.slice Ao27 t2.length co27, .slice Ao29 t5.length co29, .int .i64 t8] 63 (0,0)) (zw_ BK9) hb);replace BK27:=am_ (blk_below (g:=gb27) (o:= .cells #[.slice Ao37 t19.length co37, .slice Ao40 t22.length co40, .int .i64 t25] 63 (0,0)) (zw_ BK27) hb);replace BK41:=am_ (blk_below (g:=gb41) (o:= .cells #[.slice Ao45 t33.length co45, .slice Ao49 t36.length co49, .int .i64 t39] 63 (0,0)) (zw_ BK41) hb);replace HB:=am_ (below_step (zl3_ HB GE9 GE27 GE41) hb);(try clear hb);obtain ⟨hcz53_0,hcz53_1,hcz53_2,hfz53_0,hfz53_1,hfz53_2⟩:=y3_ BK27;obtain ⟨hcz54_0,hcz54_1,hcz54_2⟩:=x3_ BK9;have hfz54_0:=blk_frozen BK9.out 0;have hfz54_1:=blk_frozen BK9.out 1;have hfz54_2:=blk_frozen BK9.out 2)|(go_at_call 58;(with_reducible refine (law23_awake.calls kj4 t45 _ A24.out).mono ?_);rintro e w55 ⟨rfl,hb⟩;replace HO4:=ob_ HO4 hb;replace HO7:=ob_ HO7 hb;replace HO12:=ob_ HO12 hb;replace HO15:=am_ (Kd.V_below (by (with_reducible repeat (first|apply Kd.V_alloc|apply Kd.V_drewN|apply Kd.V_drew));exact HO15.out) hb);replace HO18:=ob_ HO18 hb;replace HO21:=ob_ HO21 hb;replace HO24:=ob_ HO24 hb;replace HO32:=ob_ HO32 hb;replace HO35:=ob_ HO35 hb;replace HO38:=ob_ HO38 hb;replace BK9:=bb_ BK9 hb;replace BK27:=bb_ BK27 hb;replace BK41:=bb_ BK41 hb;replace HB:=am_ (below_step (zl3_ HB GE9 GE27 GE41) hb);(try clear hb)))
    go_ret
    exact ⟨by first|rfl|(simp [errW_none,errW_some]<;>rfl)|(simp [*,errW_none,errW_some]<;>rfl),zl3_ HB GE9 GE27 GE41⟩
   rw [if_neg c23] at H;have c23b0:=beq_eq_false_iff_ne.mpr c23;have c23b1:=bne_iff_ne.mpr c23;by_cases c56:(t22.length:Int)=0;rotate_left
   ·rw [if_neg c56] at H;cases H
   rw [if_pos c56] at H;have c56b0:=beq_iff_eq.mpr c56;have c56b1:=bne_eq_false_iff_eq.mpr c56;clear c56;by_cases c57:t25=0;rotate_left
   ·rw [if_neg c57] at H;cases H
   rw [if_pos c57] at H;have c57b0:=beq_iff_eq.mpr c57;have c57b1:=bne_eq_false_iff_eq.mpr c57;clear c57;by_cases c58:t8=(wrap64 ((t5.length:Int) - 1));rotate_left
   ·rw [if_neg c58] at H;cases H
   rw [if_pos c58] at H;have c58b0:=beq_iff_eq.mpr c58;have c58b1:=bne_eq_false_iff_eq.mpr c58;clear c58;replace H:=zbd_ H;obtain ⟨t46,A59,H⟩:=H;try dsimp only at H
   obtain rfl:=Option.some.inj H
   go_wp2_with (first|((with_reducible refine gate_callee (f:=64) rfl ?_);refine gl_ (some 29) Try.func64 #[.slice A0 l0.length c0, .slice A2 l2.length c2, .int .u8 a3] ?_;(with_reducible refine (law16_Make.calls kj4 _ _ l0 _ _ l2 a3 t2 t5 t8 _ ?side1 ?side2 ?side3 ?side4 A10.out).mono ?_);(case side1=>exact zc_ (Kd.C_below HR0.out HB.out));(case side2=>exact HC0.out);(case side3=>exact zc_ (Kd.C_below HR2.out HB.out));(case side4=>exact HC2.out);rintro e w60 ⟨v3,v6,rfl,ho0,ho1,hb⟩;refine ⟨_,rfl, ?_⟩;have HO4:=am_ (Kd.R_lower ho0 (below_size (zl0_ HB)));have HO7:=am_ (Kd.R_lower ho1 (below_size (zl0_ HB)));replace HB:=am_ (below_step (zl0_ HB) hb);(try clear hb ho0 ho1))|((with_reducible refine gate_dst (N:=9) rfl ?_);(try (refine gate_guard (by rfl) ?_;dsimp only));refine bx_ (N:=9) (cs:=#[.slice none 0 0, .slice none 0 0, .int .i64 0]) (t:=63) ?_;intro gb9 hg w61 hbox hb;replace HO4:=ob_ HO4 hb;replace HO7:=ob_ HO7 hb;have BK9:=am_ (hbox);have GE9:=am_ ((zg0_ HB hg:w.heap.size≤gb9));replace HB:=am_ (below_step (zl0_ HB) hb);clear hb hbox hg;obtain ⟨Ao62,co62,eo62⟩:=Kd.R_slice HO4.out;subst eo62;obtain ⟨hcz63_0,hcz63_1,hcz63_2,hfz63_0,hfz63_1,hfz63_2⟩:=y3_ BK9;obtain ⟨Ao64,co64,eo64⟩:=Kd.R_slice HO7.out;subst eo64)|((with_reducible refine gate_callee (f:=38) rfl ?_);refine gl_ (some 31) Try.func38 #[.slice A0 l0.length c0] ?_;(with_reducible refine (law12_Make.calls kj4 _ _ l0 t10 _ ?side1 ?side2 A11.out).mono ?_);(case side1=>exact Kd.C_below HR0.out (zl1_ HB GE9));(case side2=>exact HC0.out);rintro e w65 ⟨v11,rfl,ho0,hb⟩;refine ⟨_,rfl, ?_⟩;replace HO4:=am_ (Kd.R_below (by refine zt_ ?_;exact (zv2_ HO4 BK9)) hb);replace HO7:=am_ (Kd.R_below (by refine zt_ ?_;exact (zv2_ HO7 BK9)) hb);have HO12:=am_ (Kd.R_lower ho0 (below_size (zl1_ HB GE9)));replace BK9:=am_ (blk_below (g:=gb9) (o:= .cells #[.slice Ao62 t2.length co62, .slice Ao64 t5.length co64, .int .i64 t8] 63 (0,0)) (zw_ BK9) hb);replace HB:=am_ (below_step (zl1_ HB GE9) hb);(try clear hb ho0);obtain ⟨Ao66,co66,eo66⟩:=Kd.R_slice HO12.out;subst eo66)|((with_reducible refine gate_callee (f:=65) rfl ?_);refine gl_ (some 33) Try.func65 #[.slice Ao66 t10.length co66, .slice A1 l1.length c1] ?_;(with_reducible refine (law17_Turned.calls kj4 (fun k_=>some k_=(.slice Ao66 t10.length co66:Value).ownBlock) _ _ t10 _ _ l1 t13 _ ?side1 ?side2 ?side3 A12.out).mono ?_);(case side1=>exact Kd.R_V (Kd.R_tight rfl (Kd.R_types (Kd.R_apart' (Kd.R_apart' (HO12.out) (Kd.R_typed HO4.out) (by decide)) (Kd.R_typed HO7.out) (by decide)) BK9.out (by decide))));(case side2=>exact zc_ (Kd.C_below HR1.out HB.out));(case side3=>exact HC1.out);rintro e w67 ⟨v14,rfl,ho0,hb⟩;refine ⟨_,rfl, ?_⟩;have HO15:=am_ (Kd.V_lower (Kd.V_mono (ok':=fun k_=>some k_≠(.slice Ao62 t2.length co62:Value).ownBlock∧some k_≠(.slice Ao64 t5.length co64:Value).ownBlock∧k_≠gb9) ho0 (fun k_ hk_=>⟨Or.elim hk_ (fun hs_=>((Kd.R_types (Kd.R_apart' (Kd.R_apart' (HO12.out) (Kd.R_typed HO4.out) (by decide)) (Kd.R_typed HO7.out) (by decide)) BK9.out (by decide)).1 k_ hs_.symm).1.1.2) (fun hn_=>(Kd.fresh' (Kd.R_lt (zr_ HO4)) k_ hn_)),Or.elim hk_ (fun hs_=>((Kd.R_types (Kd.R_apart' (Kd.R_apart' (HO12.out) (Kd.R_typed HO4.out) (by decide)) (Kd.R_typed HO7.out) (by decide)) BK9.out (by decide)).1 k_ hs_.symm).1.2) (fun hn_=>(Kd.fresh' (Kd.R_lt (zr_ HO7)) k_ hn_)),Or.elim hk_ (fun hs_=>((Kd.R_types (Kd.R_apart' (Kd.R_apart' (HO12.out) (Kd.R_typed HO4.out) (by decide)) (Kd.R_typed HO7.out) (by decide)) BK9.out (by decide)).1 k_ hs_.symm).2) (fun hn_=>(Kd.freshB (g:=gb9) (o:= .cells #[.slice Ao62 t2.length co62, .slice Ao64 t5.length co64, .int .i64 t8] 63 (0,0)) (zb_ BK9) k_ hn_))⟩)) (below_size (zl1_ HB GE9)));replace HO4:=ob_ HO4 hb;replace HO7:=ob_ HO7 hb;replace HO12:=ob_ HO12 hb;replace BK9:=bb_ BK9 hb;replace HB:=am_ (below_step (zl1_ HB GE9) hb);(try clear hb ho0);obtain ⟨hcz68_0,hcz68_1,hcz68_2,hfz68_0,hfz68_1,hfz68_2⟩:=y3_ BK9;obtain ⟨Ao69,co69,eo69⟩:=Kd.V_slice HO15.out;subst eo69)|((with_reducible refine gate_callee (f:=60) rfl ?_);refine gl_ (some 37) Try.func60 #[.slice Ao69 t13.length co69, .agg #[.slice Ao62 t2.length co62, .slice Ao64 t5.length co64, .int .i64 t8]] ?_;(with_reducible refine (apply_Try.calls kj4 _ _ t13 _ _ t2 _ _ t5 t8 t16 t19 t22 t25 t26 _ ?side1 ?side2 ?side3 ?side4 ?side5 ?side6 A13.out).mono ?_);(case side1=>exact zc_ (Kd.V_reads' HO15.out).2.2);(case side2=>exact (Kd.V_reads' HO15.out).2.1);(case side3=>exact zc_ (Kd.R_reads' HO4.out).2.2);(case side4=>exact (Kd.R_reads' HO4.out).2.1);(case side5=>exact zc_ (Kd.R_reads' HO7.out).2.2);(case side6=>exact (Kd.R_reads' HO7.out).2.1);rintro e w70 ⟨v17,v20,v23,rfl,ho0,ho1,ho2,hb⟩;refine ⟨_,rfl, ?_⟩;replace HO15:=am_ (Kd.V_mono (Kd.V_told (Kd.V_told (Kd.V_told (Kd.V_old (by (with_reducible repeat (first|apply Kd.V_alloc|apply Kd.V_drewN|apply Kd.V_drew));exact HO15.out) hb) (Kd.R_base ho0)) (Kd.R_base ho1)) (Kd.R_base ho2)) (fun _ h_=>h_.1));have HO18:=am_ (Kd.R_lower (Kd.R_new' ho0 (Kd.R_lt (zr_ HO12))) (below_size (zl1_ HB GE9)));replace HO12:=am_ (Kd.R_elder' (zr_ HO12) (Kd.R_base ho0) hb);have HO21:=am_ (Kd.R_lower (Kd.R_new' ho1 (Kd.R_lt (zr_ HO4))) (below_size (zl1_ HB GE9)));replace HO4:=am_ (Kd.R_elder' (zr_ HO4) (Kd.R_base ho1) hb);have HO24:=am_ (Kd.R_lower (Kd.R_new' ho2 (Kd.R_lt (zr_ HO7))) (below_size (zl1_ HB GE9)));replace HO7:=am_ (Kd.R_elder' (zr_ HO7) (Kd.R_base ho2) hb);replace BK9:=bb_ BK9 hb;replace HB:=am_ (below_step (zl1_ HB GE9) hb);(try clear hb ho0 ho1 ho2))|((with_reducible refine gate_dst (N:=12) rfl ?_);(try (refine gate_guard (by rfl) ?_;dsimp only));refine bx_ (N:=12) (cs:=#[.slice none 0 0, .slice none 0 0, .int .i64 0]) (t:=63) ?_;intro gb27 hg w71 hbox hb;replace HO4:=ob_ HO4 hb;replace HO7:=ob_ HO7 hb;replace HO12:=ob_ HO12 hb;replace HO15:=am_ (Kd.V_below (Kd.V_elderB (by (with_reducible repeat (first|apply Kd.V_alloc|apply Kd.V_drewN|apply Kd.V_drew));exact HO15.out) gb27 (Nat.le_of_eq hg.symm)) hb);replace HO18:=ob_ HO18 hb;replace HO21:=ob_ HO21 hb;replace HO24:=ob_ HO24 hb;have BK27:=am_ (hbox);have GE27:=am_ ((zg1_ HB GE9 hg:w.heap.size≤gb27));replace HB:=am_ (below_step (zl1_ HB GE9) hb);have NB9_27:=am_ ((zn_ BK9 hg:gb9≠gb27));have NB27_9:=am_ ((zm_ BK9 hg:gb27≠gb9));replace BK9:=bb_ BK9 hb;clear hb hbox hg;obtain ⟨Ao72,co72,eo72⟩:=Kd.R_slice HO21.out;subst eo72;have hnb73:=NB27_9.out;have hnc73:=NB9_27.out;obtain ⟨hcz74_0,hcz74_1,hcz74_2,hfz74_0,hfz74_1,hfz74_2⟩:=y3_ BK27;obtain ⟨Ao75,co75,eo75⟩:=Kd.R_slice HO24.out;subst eo75)|((with_reducible refine gate_callee (f:=25) rfl ?_);refine gl_ (some 42) Try.func25 #[.int .i64 t26] ?_;(with_reducible refine (law1_Num.calls t26 t28 _ A14.out).mono ?_);rintro e w' ⟨rfl,⟨nd,rfl⟩⟩;refine ⟨_,rfl, ?_⟩;obtain ⟨hcz76_0,hcz76_1,hcz76_2,hfz76_0,hfz76_1,hfz76_2⟩:=y3_ BK9;obtain ⟨Ao77,co77,eo77⟩:=Kd.R_slice HO18.out;subst eo77)|((with_reducible refine gate_callee (f:=60) rfl ?_);refine gl_ (some 53) Try.func60 #[.slice Ao77 t16.length co77, .agg #[.slice Ao62 t2.length co62, .slice Ao64 t5.length co64, .int .i64 t8]] ?_;(with_reducible refine (apply_Try.calls kj4 _ _ t16 _ _ t2 _ _ t5 t8 t30 t33 t36 t39 t40 _ ?side1 ?side2 ?side3 ?side4 ?side5 ?side6 A16.out).mono ?_);(case side1=>refine (Kd.R_reads' (e:=79) (base:=w.heap.size) (ok:=fun k_=>(True∧some k_≠(.slice Ao66 t10.length co66:Value).ownBlock)) (n:=t16.length) (c:=co77) ?_).2.2;exact (by refine zt_ ?_;exact (zv2_ HO18 BK27)));(case side2=>exact (Kd.R_reads' HO18.out).2.1);(case side3=>refine (Kd.R_reads' (e:=84) (base:=w.heap.size) (ok:=fun k_=>(True∧some k_≠(.slice Ao72 t19.length co72:Value).ownBlock)) (n:=t2.length) (c:=co62) ?_).2.2;exact (by refine zt_ ?_;exact (zv2_ HO4 BK27)));(case side4=>exact (Kd.R_reads' HO4.out).2.1);(case side5=>refine (Kd.R_reads' (e:=76) (base:=w.heap.size) (ok:=fun k_=>(True∧some k_≠(.slice Ao75 t22.length co75:Value).ownBlock)) (n:=t5.length) (c:=co64) ?_).2.2;exact (by refine zt_ ?_;exact (zv2_ HO7 BK27)));(case side6=>exact (Kd.R_reads' HO7.out).2.1);rintro e w78 ⟨v31,v34,v37,rfl,ho0,ho1,ho2,hb⟩;refine ⟨_,rfl, ?_⟩;replace HO15:=am_ (Kd.V_mono (Kd.V_told (Kd.V_told (Kd.V_told (Kd.V_old (by (with_reducible repeat (first|apply Kd.V_alloc|apply Kd.V_drewN|apply Kd.V_drew));exact (Kd.V_mono (Kd.V_far (p:=⟨gb27,2,none⟩) (Kd.V_far (p:=⟨gb27,1,none⟩) (Kd.V_far (p:=⟨gb27,0,none⟩) (Kd.V_mono HO15.out (fun k_ hk=>(⟨hk,hk.2⟩:_∧k_≠gb27))) (fun _ hk=>hk.2) (.slice Ao72 t19.length co72)) (fun _ hk=>hk.2) (.slice Ao75 t22.length co75)) (fun _ hk=>hk.2) (.int .i64 t25)) (fun _ h_=>h_.1))) hb) (Kd.R_base ho0)) (Kd.R_base ho1)) (Kd.R_base ho2)) (fun _ h_=>h_.1));have HO32:=am_ (Kd.R_lower (Kd.R_new' (Kd.R_new' ho0 (Kd.R_lt (by refine zt_ ?_;exact (zv2_ HO12 BK27)))) (Kd.R_lt (by refine zt_ ?_;exact (zv2_ HO18 BK27)))) (below_size (zl2_ HB GE9 GE27)));replace HO12:=am_ (Kd.R_elder' (by refine zt_ ?_;exact (zv2_ HO12 BK27)) (Kd.R_base ho0) hb);replace HO18:=am_ (Kd.R_elder' (by refine zt_ ?_;exact (zv2_ HO18 BK27)) (Kd.R_base ho0) hb);have HO35:=am_ (Kd.R_lower (Kd.R_new' (Kd.R_new' ho1 (Kd.R_lt (by refine zt_ ?_;exact (zv2_ HO4 BK27)))) (Kd.R_lt (by refine zt_ ?_;exact (zv2_ HO21 BK27)))) (below_size (zl2_ HB GE9 GE27)));replace HO4:=am_ (Kd.R_elder' (by refine zt_ ?_;exact (zv2_ HO4 BK27)) (Kd.R_base ho1) hb);replace HO21:=am_ (Kd.R_elder' (by refine zt_ ?_;exact (zv2_ HO21 BK27)) (Kd.R_base ho1) hb);have HO38:=am_ (Kd.R_lower (Kd.R_new' (Kd.R_new' ho2 (Kd.R_lt (by refine zt_ ?_;exact (zv2_ HO7 BK27)))) (Kd.R_lt (by refine zt_ ?_;exact (zv2_ HO24 BK27)))) (below_size (zl2_ HB GE9 GE27)));replace HO7:=am_ (Kd.R_elder' (by refine zt_ ?_;exact (zv2_ HO7 BK27)) (Kd.R_base ho2) hb);replace HO24:=am_ (Kd.R_elder' (by refine zt_ ?_;exact (zv2_ HO24 BK27)) (Kd.R_base ho2) hb);replace BK9:=am_ (blk_below (g:=gb9) (o:= .cells #[.slice Ao62 t2.length co62, .slice Ao64 t5.length co64, .int .i64 t8] 63 (0,0)) (zw_ BK9) hb);replace BK27:=am_ (blk_below (g:=gb27) (o:= .cells #[.slice Ao72 t19.length co72, .slice Ao75 t22.length co75, .int .i64 t25] 63 (0,0)) (zw_ BK27) hb);replace HB:=am_ (below_step (zl2_ HB GE9 GE27) hb);(try clear hb ho0 ho1 ho2))|((with_reducible refine gate_dst (N:=15) rfl ?_);(try (refine gate_guard (by rfl) ?_;dsimp only));refine bx_ (N:=15) (cs:=#[.slice none 0 0, .slice none 0 0, .int .i64 0]) (t:=63) ?_;intro gb41 hg w79 hbox hb;replace HO4:=ob_ HO4 hb;replace HO7:=ob_ HO7 hb;replace HO12:=ob_ HO12 hb;replace HO15:=am_ (Kd.V_below (Kd.V_elderB (by (with_reducible repeat (first|apply Kd.V_alloc|apply Kd.V_drewN|apply Kd.V_drew));exact HO15.out) gb41 (Nat.le_of_eq hg.symm)) hb);replace HO18:=ob_ HO18 hb;replace HO21:=ob_ HO21 hb;replace HO24:=ob_ HO24 hb;replace HO32:=ob_ HO32 hb;replace HO35:=ob_ HO35 hb;replace HO38:=ob_ HO38 hb;have BK41:=am_ (hbox);have GE41:=am_ ((zg2_ HB GE9 GE27 hg:w.heap.size≤gb41));replace HB:=am_ (below_step (zl2_ HB GE9 GE27) hb);have NB9_41:=am_ ((zn_ BK9 hg:gb9≠gb41));have NB41_9:=am_ ((zm_ BK9 hg:gb41≠gb9));replace BK9:=bb_ BK9 hb;have NB27_41:=am_ ((zn_ BK27 hg:gb27≠gb41));have NB41_27:=am_ ((zm_ BK27 hg:gb41≠gb27));replace BK27:=bb_ BK27 hb;clear hb hbox hg;obtain ⟨Ao80,co80,eo80⟩:=Kd.R_slice HO35.out;subst eo80;have hnb81:=NB41_9.out;have hnc81:=NB9_41.out;have hnb82:=NB41_27.out;have hnc82:=NB27_41.out;obtain ⟨hcz83_0,hcz83_1,hcz83_2,hfz83_0,hfz83_1,hfz83_2⟩:=y3_ BK41;obtain ⟨Ao84,co84,eo84⟩:=Kd.R_slice HO38.out;subst eo84)|((with_reducible refine gate_callee (f:=25) rfl ?_);refine gl_ (some 58) Try.func25 #[.int .i64 t40] ?_;(with_reducible refine (law1_Num.calls t40 t42 _ A17.out).mono ?_);rintro e w' ⟨rfl,⟨nd,rfl⟩⟩;refine ⟨_,rfl, ?_⟩;obtain ⟨Ao85,co85,eo85⟩:=Kd.R_slice HO32.out;subst eo85)|(go_at_call 42;(with_reducible refine (r10_SameItems.calls kj4 _ _ t16 _ _ t30 true _ ?side1 ?side2 ?side3 ?side4 A19.out).mono ?_);(case side1=>refine (Kd.R_reads' (e:=79) (base:=w.heap.size) (ok:=fun k_=>((True∧some k_≠(.slice Ao66 t10.length co66:Value).ownBlock)∧some k_≠(.slice Ao85 t30.length co85:Value).ownBlock)) (n:=t16.length) (c:=co77) ?_).2.2;exact (by refine zt_ ?_;exact (zv2_ HO18 BK41)));(case side2=>exact (Kd.R_reads' HO18.out).2.1);(case side3=>refine (Kd.R_reads' (e:=79) (base:=w.heap.size) (ok:=fun k_=>((True∧some k_≠(.slice Ao66 t10.length co66:Value).ownBlock)∧some k_≠(.slice Ao77 t16.length co77:Value).ownBlock)) (n:=t30.length) (c:=co85) ?_).2.2;exact (by refine zt_ ?_;exact (zv2_ HO32 BK41)));(case side4=>exact (Kd.R_reads' HO32.out).2.1);rintro e w' ⟨rfl,⟨nd,rfl⟩⟩;obtain ⟨hcz86_0,hcz86_1,hcz86_2⟩:=x3_ BK27;have hfz86_0:=blk_frozen BK27.out 0;have hfz86_1:=blk_frozen BK27.out 1;have hfz86_2:=blk_frozen BK27.out 2)|(go_at_call 66;(with_reducible refine (r16_SameWork.calls kj4 _ _ t19 _ _ t22 t25 _ _ t33 _ _ t36 t39 true _ ?side1 ?side2 ?side3 ?side4 ?side5 ?side6 ?side7 ?side8 A21.out).mono ?_);(case side1=>refine (Kd.R_reads' (e:=84) (base:=w.heap.size) (ok:=fun k_=>((True∧some k_≠(.slice Ao62 t2.length co62:Value).ownBlock)∧some k_≠(.slice Ao80 t33.length co80:Value).ownBlock)) (n:=t19.length) (c:=co72) ?_).2.2;exact (by refine zt_ ?_;exact (zv2_ HO21 BK41)));(case side2=>exact (Kd.R_reads' HO21.out).2.1);(case side3=>refine (Kd.R_reads' (e:=76) (base:=w.heap.size) (ok:=fun k_=>((True∧some k_≠(.slice Ao64 t5.length co64:Value).ownBlock)∧some k_≠(.slice Ao84 t36.length co84:Value).ownBlock)) (n:=t22.length) (c:=co75) ?_).2.2;exact (by refine zt_ ?_;exact (zv2_ HO24 BK41)));(case side4=>exact (Kd.R_reads' HO24.out).2.1);(case side5=>refine (Kd.R_reads' (e:=84) (base:=w.heap.size) (ok:=fun k_=>((True∧some k_≠(.slice Ao62 t2.length co62:Value).ownBlock)∧some k_≠(.slice Ao72 t19.length co72:Value).ownBlock)) (n:=t33.length) (c:=co80) ?_).2.2;exact (by refine zt_ ?_;exact (zv2_ HO35 BK41)));(case side6=>exact (Kd.R_reads' HO35.out).2.1);(case side7=>refine (Kd.R_reads' (e:=76) (base:=w.heap.size) (ok:=fun k_=>((True∧some k_≠(.slice Ao64 t5.length co64:Value).ownBlock)∧some k_≠(.slice Ao75 t22.length co75:Value).ownBlock)) (n:=t36.length) (c:=co84) ?_).2.2;exact (by refine zt_ ?_;exact (zv2_ HO38 BK41)));(case side8=>exact (Kd.R_reads' HO38.out).2.1);rintro e w87 ⟨rfl,hb⟩;replace HO4:=am_ (Kd.R_below (by refine zt_ ?_;exact (zv2_ HO4 BK41)) hb);replace HO7:=am_ (Kd.R_below (by refine zt_ ?_;exact (zv2_ HO7 BK41)) hb);replace HO12:=am_ (Kd.R_below (by refine zt_ ?_;exact (zv2_ HO12 BK41)) hb);replace HO15:=am_ (Kd.V_below (by (with_reducible repeat (first|apply Kd.V_alloc|apply Kd.V_drewN|apply Kd.V_drew));exact (Kd.V_mono (Kd.V_far (p:=⟨gb41,2,none⟩) (Kd.V_far (p:=⟨gb41,1,none⟩) (Kd.V_far (p:=⟨gb41,0,none⟩) (Kd.V_mono HO15.out (fun k_ hk=>(⟨hk,hk.2⟩:_∧k_≠gb41))) (fun _ hk=>hk.2) (.slice Ao80 t33.length co80)) (fun _ hk=>hk.2) (.slice Ao84 t36.length co84)) (fun _ hk=>hk.2) (.int .i64 t39)) (fun _ h_=>h_.1))) hb);replace HO18:=am_ (Kd.R_below (by refine zt_ ?_;exact (zv2_ HO18 BK41)) hb);replace HO21:=am_ (Kd.R_below (by refine zt_ ?_;exact (zv2_ HO21 BK41)) hb);replace HO24:=am_ (Kd.R_below (by refine zt_ ?_;exact (zv2_ HO24 BK41)) hb);replace HO32:=am_ (Kd.R_below (by refine zt_ ?_;exact (zv2_ HO32 BK41)) hb);replace HO35:=am_ (Kd.R_below (by refine zt_ ?_;exact (zv2_ HO35 BK41)) hb);replace HO38:=am_ (Kd.R_below (by refine zt_ ?_;exact (zv2_ HO38 BK41)) hb);replace BK9:=am_ (blk_below (g:=gb9) (o:= .cells #[.slice Ao62 t2.length co62, .slice Ao64 t5.length co64, .int .i64 t8] 63 (0,0)) (zw_ BK9) hb);replace BK27:=am_ (blk_below (g:=gb27) (o:= .cells #[.slice Ao72 t19.length co72, .slice Ao75 t22.length co75, .int .i64 t25] 63 (0,0)) (zw_ BK27) hb);replace BK41:=am_ (blk_below (g:=gb41) (o:= .cells #[.slice Ao80 t33.length co80, .slice Ao84 t36.length co84, .int .i64 t39] 63 (0,0)) (zw_ BK41) hb);replace HB:=am_ (below_step (zl3_ HB GE9 GE27 GE41) hb);(try clear hb);obtain ⟨hcz88_0,hcz88_1,hcz88_2,hfz88_0,hfz88_1,hfz88_2⟩:=y3_ BK27;obtain ⟨hcz89_0,hcz89_1,hcz89_2⟩:=x3_ BK9;have hfz89_0:=blk_frozen BK9.out 0;have hfz89_1:=blk_frozen BK9.out 1;have hfz89_2:=blk_frozen BK9.out 2)|(go_at_call 58;(with_reducible refine (law23_awake.calls kj4 t46 _ A59.out).mono ?_);rintro e w90 ⟨rfl,hb⟩;replace HO4:=ob_ HO4 hb;replace HO7:=ob_ HO7 hb;replace HO12:=ob_ HO12 hb;replace HO15:=am_ (Kd.V_below (by (with_reducible repeat (first|apply Kd.V_alloc|apply Kd.V_drewN|apply Kd.V_drew));exact HO15.out) hb);replace HO18:=ob_ HO18 hb;replace HO21:=ob_ HO21 hb;replace HO24:=ob_ HO24 hb;replace HO32:=ob_ HO32 hb;replace HO35:=ob_ HO35 hb;replace HO38:=ob_ HO38 hb;replace BK9:=bb_ BK9 hb;replace BK27:=bb_ BK27 hb;replace BK41:=bb_ BK41 hb;replace HB:=am_ (below_step (zl3_ HB GE9 GE27 GE41) hb);(try clear hb)))
   go_ret
   exact ⟨by first|rfl|(simp [errW_none,errW_some]<;>rfl)|(simp [*,errW_none,errW_some]<;>rfl),zl3_ HB GE9 GE27 GE41⟩
def law23_ApplyAgain.Pure:Prop:= ∀(l0:List Int) (l1:List Int) (l2:List Int) (a3:Int),l0.length≤maxLen→l0.length*1≤140737488351232→(∀x∈l0,(Lit.int .u8 x).wf=true)→l1.length≤maxLen→l1.length*1≤140737488351232→(∀x∈l1,(Lit.int .u8 x).wf=true)→l2.length≤maxLen→l2.length*1≤140737488351232→(∀x∈l2,(Lit.int .u8 x).wf=true)→(Lit.int .u8 a3).wf=true→ ∃k,law23_ApplyAgain.f k l0 l1 l2 a3=some true
theorem law23_ApplyAgain.walk (P:law23_ApplyAgain.Pure) (a0:Option Addr) (len0 cap0:Nat) (z0:List Int) (a1:Option Addr) (len1 cap1:Nat) (z1:List Int) (a2:Option Addr) (len2 cap2:Nat) (z2:List Int) (a3:Int) (w:World) (w0:(a0=none∧len0=0∧cap0=0∧z0=[])∨ ∃x,a0=some x∧len0≤cap0∧cap0≤maxLen∧z0.length=cap0∧(∀i,i<z0.length→w.cell? (x.add i)=some (.int .u8 (z0.getD i 0)))∧ ∀n∈z0,(Lit.int .u8 n).wf=true) (y0:len0*1≤140737488351232) (w1:(a1=none∧len1=0∧cap1=0∧z1=[])∨ ∃x,a1=some x∧len1≤cap1∧cap1≤maxLen∧z1.length=cap1∧(∀i,i<z1.length→w.cell? (x.add i)=some (.int .u8 (z1.getD i 0)))∧ ∀n∈z1,(Lit.int .u8 n).wf=true) (y1:len1*1≤140737488351232) (w2:(a2=none∧len2=0∧cap2=0∧z2=[])∨ ∃x,a2=some x∧len2≤cap2∧cap2≤maxLen∧z2.length=cap2∧(∀i,i<z2.length→w.cell? (x.add i)=some (.int .u8 (z2.getD i 0)))∧ ∀n∈z2,(Lit.int .u8 n).wf=true) (y2:len2*1≤140737488351232) (w3:(Lit.int .u8 a3).wf=true):
  Calls Try.prog 20 #[.slice a0 len0 cap0, .slice a1 len1 cap1, .slice a2 len2 cap2, .int .u8 a3] w fun e w'=>e= .returned (.bool true)∧Below w.heap.size w w':=by
 obtain ⟨l0,rfl,hr0,hm0,hw0,hc0⟩:=ReadsInt.ofRowC w0;obtain ⟨l1,rfl,hr1,hm1,hw1,hc1⟩:=ReadsInt.ofRowC w1;obtain ⟨l2,rfl,hr2,hm2,hw2,hc2⟩:=ReadsInt.ofRowC w2;obtain ⟨k,h⟩:=P l0 l1 l2 a3 hm0 y0 hw0 hm1 y1 hw1 hm2 y2 hw2 w3;refine (law23_ApplyAgain.calls k _ _ l0 _ _ l1 _ _ l2 a3 true w (Kd.C_of_reads (d:=(0:Int)) (h1:=fun _=>rfl) hr0) hc0 (Kd.C_of_reads (d:=(0:Int)) (h1:=fun _=>rfl) hr1) hc1 (Kd.C_of_reads (d:=(0:Int)) (h1:=fun _=>rfl) hr2) hc2 h).mono ?_;rintro e w' ⟨rfl,hd⟩;exact ⟨rfl,hd⟩

end Go.Proofs.Ytahidkjncljkaaa.Print

namespace Go.Proofs.Ytahidkjncljkaaa.Print
open Go.RowKit Go.Proofs.YtahidkjncljkaaaW.PrintWords Go.Proofs.YtahidkjncljkaaaW.PrintLast
abbrev Item:=S79
abbrev Vec:=S37
abbrev zItem:Item:=z79
theorem rd_item (l:List Item) (i:Int):rd_T79 l i=l.getD i.toNat zItem:=rfl
instance baLawful:LawfulBEq ByteArray where
 eq_of_beq {a b} h:=by
  obtain ⟨a⟩:=a
  obtain ⟨b⟩:=b
  have:(a==b)=true:=h
  rw [eq_of_beq this]
 rfl {a}:=by
  obtain ⟨a⟩:=a
  show (a==a)=true
  exact beq_self_eq_true a
theorem nm_inj {a b:ByteArray}:a.toList=b.toList↔a=b:=by
  constructor
  rotate_left
  · rintro rfl;rfl
  intro h
  rw [ByteArray.toList_eq,ByteArray.toList_eq] at h
  exact ByteArray.ext (Array.toList_inj.1 h)
theorem nm_beq (a b:ByteArray):(a.toList==b.toList)=decide (a=b):=by
 rw [Bool.eq_iff_iff,beq_iff_eq,nm_inj,decide_eq_true_iff]
theorem nm_empty {a:ByteArray}:a.toList=([]:List UInt8)↔a=⟨#[]⟩:=by
 rw [←nm_inj];rw [show (ByteArray.mk #[]).toList=[] from by rw [ByteArray.toList_eq]]
theorem Ev.const {α:Type} {g:Option α} {r:α} (h:g=some r):Ev (fun _=>g) r:=⟨0,fun _ _=>h⟩
theorem w64 {n:Int} (h0: -9223372036854775808≤n) (h1:n≤9223372036854775807):wrap64 n=n:=by unfold wrap64;omega
def look (l:List Item) (n:ByteArray):Option Item:=l.find? (fun x=>x.f0=n)
def fnd (l:List Item) (n:ByteArray):Int:=fidx (fun x:Item=>x.f0.toList==n.toList) l 0
theorem fidx_none {α:Type} {p:α→Bool}: ∀{l:List α} {i:Int},(∀x∈l,p x=false)→fidx p l i= -1
  |[],_,_=>rfl
  | x :: l, i, h => by
    unfold fidx;rw [if_neg (by rw [h x (by simp)];simp)];exact fidx_none (fun y hy=>h y (by simp [hy]))
theorem fidx_some {α:Type} {p:α→Bool} (z:α): ∀{l:List α} {i:Int} {x:α},l.find? p=some x→ ∃j:Nat,j<l.length∧fidx p l i=i+j∧l.getD j z=x∧p x=true∧ ∀m,m<j→p (l.getD m z)=false
  |[],_,_,h=>by simp at h
  | y :: l, i, x, h => by
    unfold fidx;by_cases hy:p y=true
    · rw [if_pos hy]
      simp only [List.find?_cons,hy] at h
      obtain rfl:=Option.some.inj h
      exact ⟨0,by simp,by simp,by simp,hy,fun m hm=>by omega⟩
    rw [if_neg hy];have hy':p y=false:=by simpa using hy
    simp only [List.find?_cons,hy'] at h;obtain ⟨j,hj,h1,h2,h3,h4⟩:=fidx_some z (i:=i+1) h;refine ⟨j+1,by simp;omega,by rw [h1];omega,by simpa using h2,h3,fun m hm=> ?_⟩
    cases m with
    |zero=>simpa using hy'
    |succ m=>simpa using h4 m (by omega)
theorem look_pred (n:ByteArray):(fun x:Item=>x.f0.toList==n.toList)=(fun x:Item=>decide (x.f0=n)):=by
 funext x;exact nm_beq _ _
theorem look_mem {l:List Item} {n:ByteArray} {x:Item} (h:look l n=some x):x∈l∧x.f0=n:=by
 unfold look at h;exact ⟨List.mem_of_find?_eq_some h,by simpa using List.find?_some h⟩
theorem look_none {l:List Item} {n:ByteArray}:look l n=none↔ ∀x∈l,x.f0≠n:=by
 unfold look
 simp
theorem fnd_none {l:List Item} {n:ByteArray} (h:look l n=none):fnd l n= -1:=by
 unfold fnd;refine fidx_none fun x hx=> ?_
 rw [nm_beq]
 simpa using look_none.1 h x hx
theorem fnd_some {l:List Item} {n:ByteArray} {x:Item} (h:look l n=some x): ∃j:Nat,j<l.length∧fnd l n=j∧l.getD j zItem=x∧x.f0=n∧ ∀m,m<j→(l.getD m zItem).f0≠n:=by
 have h':l.find? (fun x:Item=>x.f0.toList==n.toList)=some x:=by rw [look_pred];exact h
 obtain ⟨j,h1,h2,h3,h4,h5⟩:=fidx_some zItem (i:=0) h';refine ⟨j,h1,by unfold fnd;rw [h2];omega,h3,by simpa [nm_beq] using h4,fun m hm=> ?_⟩
 simpa [nm_beq] using h5 m hm
theorem fnd_lt (l:List Item) (n:ByteArray):fnd l n<l.length:=by
 cases h:look l n with
 |none=>rw [fnd_none h];omega
 |some x=>obtain ⟨j,h1,h2,_⟩:=fnd_some h;omega
theorem fnd_neg {l:List Item} {n:ByteArray}:fnd l n<0↔look l n=none:=by
 cases h:look l n with
 |none=>rw [fnd_none h];simp
 |some x=>obtain ⟨j,h1,h2,_⟩:=fnd_some h;simp;omega
theorem fnd_ge {l:List Item} {n:ByteArray}:0≤fnd l n↔ ∃x,look l n=some x:=by
 cases h:look l n with
 |none=>rw [fnd_none h];simp
 |some x=>obtain ⟨j,h1,h2,_⟩:=fnd_some h;simp;omega
theorem fnd_rd {l:List Item} {n:ByteArray} {x:Item} (h:look l n=some x):rd_T79 l (fnd l n)=x:=by
 obtain ⟨j,h1,h2,h3,_⟩:=fnd_some h;rw [rd_item,h2,Int.toNat_natCast];exact h3
theorem tree_Find_eq (l:List Item) (n:ByteArray):tree_Find.f l n=some (fnd l n):=rfl
inductive Chain (l:List Item):ByteArray→List ByteArray→Prop where
 |nil {n:ByteArray}:look l n=none→Chain l n []
 |cons {n:ByteArray} {x:Item} {us:List ByteArray}:look l n=some x→Chain l x.f1 us→Chain l n (n::us)
def upGo (l:List Item):Nat→ByteArray→List ByteArray
  |0,_=> []
  | m + 1, n => match look l n with
    |none=> []
    |some x=>n::upGo l m x.f1
def up (l:List Item) (n:ByteArray):List ByteArray:=upGo l (l.length+1) n
theorem upGo_len (l:List Item): ∀(m:Nat) (n:ByteArray),(upGo l m n).length≤m
  |0,_=>by simp [upGo]
  | m + 1, n => by
    unfold upGo
    cases look l n with
    |none=>simp
    |some x=>have:=upGo_len l m x.f1;simp;omega
theorem up_len (l:List Item) (n:ByteArray):(up l n).length≤l.length+1:=upGo_len l _ n
theorem upGo_none {l:List Item} {n:ByteArray} (h:look l n=none) (m:Nat):upGo l m n=[]:=by
 cases m with
 |zero=>rfl
 |succ m=>unfold upGo;rw [h]
theorem upGo_some {l:List Item} {n:ByteArray} {x:Item} (h:look l n=some x) (m:Nat):upGo l (m+1) n=n::upGo l m x.f1:=by
 rw [upGo.eq_2,h]
theorem Chain.det {l:List Item} {n:ByteArray} {us:List ByteArray} (h:Chain l n us): ∀{vs:List ByteArray},Chain l n vs→us=vs:=by
  induction h with
  | nil h =>
    intro vs k
    cases k with
    |nil _=>rfl
    |cons k _=>rw [h] at k;cases k
  | cons h _ ih =>
    intro vs k
    cases k with
    |nil k=>rw [h] at k;cases k
    | cons k k2 =>
      rw [h] at k;cases k;rw [ih k2]
theorem Chain.upGo {l:List Item} {n:ByteArray} {us:List ByteArray} (h:Chain l n us): ∀m,us.length≤m→upGo l m n=us:=by
  induction h with
  |nil h=>intro m _;exact upGo_none h m
  | cons h _ ih =>
    intro m hm
    cases m with
    |zero=>simp at hm
    | succ m =>
      rw [upGo_some h,ih m (by simpa using hm)]
theorem Chain.suffix {l:List Item} {n:ByteArray} {us:List ByteArray} (h:Chain l n us): ∀{m:ByteArray},m∈us→ ∃vs ws,us=ws++vs∧Chain l m vs∧ ∃vt,vs=m::vt:=by
  induction h with
  |nil _=>intro m hm;cases hm
  | @cons n x us h k ih =>
    intro m hm
    rcases List.mem_cons.1 hm with rfl|hm
    · exact ⟨_,[],rfl, .cons h k,_,rfl⟩
    obtain ⟨vs,ws,e,hc,he⟩:=ih hm;exact ⟨vs,n::ws,by rw [e];rfl,hc,he⟩
theorem Chain.mem_look {l:List Item} {n:ByteArray} {us:List ByteArray} (h:Chain l n us) {m:ByteArray} (hm:m∈us): ∃x,look l m=some x:=by
 obtain ⟨vs,ws,_,hc,vt,rfl⟩:=h.suffix hm
 cases hc with
 |cons h _=>exact ⟨_,h⟩
theorem Chain.nodup {l:List Item} {n:ByteArray} {us:List ByteArray} (h:Chain l n us):us.Nodup:=by
  induction h with
  |nil _=>simp
  | @cons n x us h k ih =>
    rw [List.nodup_cons];refine ⟨fun hm=> ?_,ih⟩;obtain ⟨vs,ws,e,hc,_⟩:=k.suffix hm;have:=hc.det (.cons h k)
    rw [this] at e;have:=congrArg List.length e
    simp at this
    omega
theorem Chain.len {l:List Item} {n:ByteArray} {us:List ByteArray} (h:Chain l n us):us.length≤l.length:=by
 have:=h.nodup.length_le_of_subset (l₂:=l.map (·.f0)) (fun m hm=>by
  obtain ⟨x,hx⟩:=h.mem_look hm;obtain ⟨h1,rfl⟩:=look_mem hx;exact List.mem_map_of_mem h1)
 simpa using this
theorem Chain.up {l:List Item} {n:ByteArray} {us:List ByteArray} (h:Chain l n us):up l n=us:=h.upGo _ (by have:=h.len;omega)
def lt (a b:ByteArray):Bool:=Op.bytesLess a.toList b.toList
theorem bl_irrefl: ∀a:List UInt8,Op.bytesLess a a=false
 |[]=>rfl
 |x::a=>by unfold Op.bytesLess;simp [bl_irrefl a]
theorem bl_trans: ∀{a b c:List UInt8},Op.bytesLess a b=true→Op.bytesLess b c=true→Op.bytesLess a c=true
  |[],[],_,h,_=>by simp [Op.bytesLess] at h
  |[],_::_,[],_,k=>by simp [Op.bytesLess] at k
  |[],_::_,_::_,_,_=>by simp [Op.bytesLess]
  |_::_,[],_,h,_=>by simp [Op.bytesLess] at h
  |_::_,_::_,[],_,k=>by simp [Op.bytesLess] at k
  | x :: a, y :: b, z :: c, h, k => by
    simp only [Op.bytesLess,Bool.or_eq_true,Bool.and_eq_true,decide_eq_true_eq,beq_iff_eq] at h k ⊢
    rcases h with h|⟨rfl,h⟩
    · rcases k with k | ⟨rfl, k⟩
      · exact .inl (UInt8.lt_trans h k)
      exact .inl h
    rcases k with k|⟨rfl,k⟩
    · exact .inl k
    exact .inr ⟨rfl,bl_trans h k⟩
theorem bl_total: ∀{a b:List UInt8},Op.bytesLess a b=false→a≠b→Op.bytesLess b a=true
  |[],[],_,h=>absurd rfl h
  |[],_::_,h,_=>by simp [Op.bytesLess] at h
  |_::_,[],_,_=>by simp [Op.bytesLess]
  | x :: a, y :: b, h, k => by
    simp only [Op.bytesLess,Bool.or_eq_true,Bool.or_eq_false_iff,Bool.and_eq_false_iff,Bool.and_eq_true,decide_eq_true_eq,decide_eq_false_iff_not,beq_iff_eq,beq_eq_false_iff_ne] at h ⊢;obtain ⟨h1,h2⟩:=h;by_cases e:x=y
    · subst e
      rcases h2 with h2|h2
      · exact absurd rfl h2
      exact .inr ⟨rfl,bl_total h2 (fun e=>k (by rw [e]))⟩
    left
    have h3: ¬x.toNat<y.toNat:=by rwa [←UInt8.lt_iff_toNat_lt]
    have h4:x.toNat≠y.toNat:=fun q=>e (UInt8.toNat_inj.1 q)
    rw [UInt8.lt_iff_toNat_lt];omega
theorem lt_irrefl (a:ByteArray):lt a a=false:=bl_irrefl _
theorem lt_trans {a b c:ByteArray} (h:lt a b=true) (k:lt b c=true):lt a c=true:=bl_trans h k
theorem lt_total {a b:ByteArray} (h:lt a b=false) (k:a≠b):lt b a=true:=bl_total h (fun e=>k (nm_inj.1 e))
theorem lt_ne {a b:ByteArray} (h:lt a b=true):a≠b:=by rintro rfl;rw [lt_irrefl] at h;cases h
inductive Comp where|cpu|mem|pods
def Comp.of:Comp→Vec→Int| .cpu,v=>v.f0| .mem,v=>v.f1| .pods,v=>v.f2
def vadd (a b:Vec):Vec:=⟨a.f0+b.f0,a.f1+b.f1,a.f2+b.f2⟩
def vsub (a b:Vec):Vec:=⟨a.f0 - b.f0,a.f1 - b.f1,a.f2 - b.f2⟩
theorem of_vadd (c:Comp) (a b:Vec):c.of (vadd a b)=c.of a+c.of b:=by cases c<;>rfl
theorem of_vsub (c:Comp) (a b:Vec):c.of (vsub a b)=c.of a - c.of b:=by cases c<;>rfl
def MayP (v:Vec):Prop:= ∀c:Comp,0≤c.of v∧c.of v≤1099511627776
def LeP (a b:Vec):Prop:= ∀c:Comp,c.of a≤c.of b
theorem comp_all {p:Comp→Prop}:(∀c,p c)↔p .cpu∧p .mem∧p .pods:=
 ⟨fun h=>⟨h _,h _,h _⟩,fun ⟨a,b,d⟩ c=>by cases c<;>assumption⟩
instance (v:Vec):Decidable (MayP v):=decidable_of_iff _ comp_all.symm
instance (a b:Vec):Decidable (LeP a b):=decidable_of_iff _ comp_all.symm
theorem mayP_iff {a b d:Int}:MayP ⟨a,b,d⟩↔(0≤a∧a≤1099511627776)∧(0≤b∧b≤1099511627776)∧(0≤d∧d≤1099511627776):=comp_all
theorem leP_iff {a b d a' b' d':Int}:LeP ⟨a,b,d⟩ ⟨a',b',d'⟩↔a≤a'∧b≤b'∧d≤d':=comp_all
def sumBy (g:Item→Int) (l:List Item):Int:=(l.map g).sum
theorem sumBy_nil (g:Item→Int):sumBy g []=0:=rfl
theorem sumBy_cons (g:Item→Int) (x:Item) (l:List Item):sumBy g (x::l)=g x+sumBy g l:=by simp [sumBy]
theorem sumBy_append (g:Item→Int) (l m:List Item):sumBy g (l++m)=sumBy g l+sumBy g m:=by simp [sumBy]
theorem sumBy_congr {g h:Item→Int}: ∀{l:List Item},(∀x∈l,g x=h x)→sumBy g l=sumBy h l
 |[],_=>rfl
 |x::l,e=>by rw [sumBy_cons,sumBy_cons,e x (by simp),sumBy_congr (fun y hy=>e y (by simp [hy]))]
theorem sumBy_add (g h:Item→Int): ∀l:List Item,sumBy (fun x=>g x+h x) l=sumBy g l+sumBy h l
 |[]=>rfl
 |x::l=>by rw [sumBy_cons,sumBy_cons,sumBy_cons,sumBy_add g h l];omega
theorem sumBy_sub (g h:Item→Int): ∀l:List Item,sumBy (fun x=>g x - h x) l=sumBy g l - sumBy h l
 |[]=>rfl
 |x::l=>by rw [sumBy_cons,sumBy_cons,sumBy_cons,sumBy_sub g h l];omega
theorem sumBy_map (g:Item→Int) (f:Item→Item): ∀l:List Item,sumBy g (l.map f)=sumBy (fun x=>g (f x)) l
 |[]=>rfl
 |x::l=>by rw [List.map_cons,sumBy_cons,sumBy_cons,sumBy_map g f l]
theorem sumBy_zero {g:Item→Int}: ∀{l:List Item},(∀x∈l,g x=0)→sumBy g l=0
 |[],_=>rfl
 |x::l,e=>by rw [sumBy_cons,e x (by simp),sumBy_zero (fun y hy=>e y (by simp [hy]))];rfl
theorem sumBy_nonneg {g:Item→Int}: ∀{l:List Item},(∀x∈l,0≤g x)→0≤sumBy g l
 |[],_=>by simp [sumBy_nil]
 |x::l,e=>by rw [sumBy_cons];have:=e x (by simp);have:=sumBy_nonneg (l:=l) (fun y hy=>e y (by simp [hy]));omega
theorem sumBy_one {v:Int} {l:List Item} (hn:(l.map (·.f0)).Nodup) {x:Item} (hx:x∈l):sumBy (fun y=>if y.f0=x.f0 then v else 0) l=v:=by
  induction l with
  |nil=>cases hx
  | cons y l ih =>
    rw [List.map_cons,List.nodup_cons] at hn
    rw [sumBy_cons]
    rcases List.mem_cons.1 hx with rfl|hx
    · rw [if_pos rfl,sumBy_zero (fun z hz=>if_neg (fun e=>hn.1 (by rw [←e];exact List.mem_map_of_mem hz)))];omega
    rw [if_neg (fun e=>hn.1 (by rw [e];exact List.mem_map_of_mem hx)),ih hn.2 hx];omega
def csum (c:Comp) (l:List Item) (n:ByteArray):Int:=sumBy (fun y=>if y.f1=n then c.of y.f4 else 0) l
structure ItemOK (x:Item):Prop where
 name:x.f0≠⟨#[]⟩
 size:x.f0.size≤24
 lim:MayP x.f2
 own:MayP x.f3
 sub:MayP x.f4
 fit:LeP x.f4 x.f2
 ver:1≤x.f5∧x.f5≤9007199254740992
structure RightP (l:List Item):Prop where
 len:l.length≤120
 ok: ∀x∈l,ItemOK x
 sorted:l.Pairwise (fun x y=>lt x.f0 y.f0=true)
 par: ∀x∈l,x.f1=⟨#[]⟩∨ ∃y,look l x.f1=some y
 sum: ∀c:Comp,∀x∈l,c.of x.f4=c.of x.f3+csum c l x.f0
 chain: ∀x∈l,∃us,Chain l x.f0 us
theorem sorted_nodup {l:List Item} (h:l.Pairwise (fun x y=>lt x.f0 y.f0=true)):(l.map (·.f0)).Nodup:=by
 rw [List.Nodup,List.pairwise_map];exact h.imp (fun hxy=>lt_ne hxy)
theorem RightP.nodup {l:List Item} (h:RightP l):(l.map (·.f0)).Nodup:=sorted_nodup h.sorted
theorem look_of_mem {l:List Item} (hn:(l.map (·.f0)).Nodup) {x:Item} (hx:x∈l):look l x.f0=some x:=by
  induction l with
  |nil=>cases hx
  | cons y l ih =>
    rw [List.map_cons,List.nodup_cons] at hn;unfold look;rw [List.find?_cons]
    rcases List.mem_cons.1 hx with rfl|hx
    · simp
    have:y.f0≠x.f0:=fun e=>hn.1 (by rw [e];exact List.mem_map_of_mem hx)
    simp only [this,decide_false];exact ih hn.2 hx
theorem RightP.look {l:List Item} (h:RightP l) {x:Item} (hx:x∈l):look l x.f0=some x:=look_of_mem h.nodup hx
theorem RightP.chainAll {l:List Item} (h:RightP l) (n:ByteArray):Chain l n (up l n):=by
  cases hl:Print.look l n with
  |none=>have c:=Chain.nil hl;rw [c.up];exact c
  | some x =>
    obtain ⟨hx,rfl⟩:=look_mem hl;obtain ⟨us,c⟩:=h.chain x hx;rw [c.up];exact c
theorem right_nil:RightP []:=⟨by simp,by simp,by simp,by simp,by simp,by simp⟩
theorem RightP.eq_of {l:List Item} (h:RightP l) {x y:Item} (hx:x∈l) (hy:y∈l) (e:x.f0=y.f0):x=y:=by
 have h1:=h.look hx
 rw [e,h.look hy] at h1
 exact (Option.some.inj h1).symm
theorem look_map {f:Item→Item} (hf: ∀x,(f x).f0=x.f0) (l:List Item) (n:ByteArray):look (l.map f) n=(look l n).map f:=by
 unfold look
 rw [List.find?_map]
 congr 2
 funext x
 simp [hf]
theorem Chain.map {f:Item→Item} (hf: ∀x,(f x).f0=x.f0) (hp: ∀x,(f x).f1=x.f1) {l:List Item} {n:ByteArray} {us:List ByteArray} (h:Chain l n us):Chain (l.map f) n us:=by
 induction h with
 |nil h=>exact .nil (by rw [look_map hf,h];rfl)
 |@cons n x us h k ih=>exact .cons (x:=f x) (by rw [look_map hf,h];rfl) (by rw [hp];exact ih)
theorem up_self {l:List Item} {n:ByteArray} {x:Item} (h:look l n=some x):n∈up l n:=by
 unfold up;rw [upGo_some h]
 simp
theorem chain_kids {l:List Item} (hl:RightP l) {n:ByteArray} {us:List ByteArray} (h:Chain l n us) (v:Int) {x:Item} (hx:x∈l):
    sumBy (fun y=>if y.f1=x.f0∧y.f0∈us then v else 0) l=if x.f0∈us∧x.f0≠n then v else 0:=by
  induction h with
  |nil _=>rw [sumBy_zero (fun y _=>by simp)];simp
  | @cons n z us h k ih =>
    obtain ⟨hz,rfl⟩:=look_mem h
    have hnd:=(Chain.cons h k).nodup
    rw [List.nodup_cons] at hnd
    have e:sumBy (fun y=>if y.f1=x.f0∧y.f0∈z.f0::us then v else 0) l=sumBy (fun y=>(if y.f0=z.f0 then (if z.f1=x.f0 then v else 0) else 0)+(if y.f1=x.f0∧y.f0∈us then v else 0)) l:=by
      refine sumBy_congr fun y hy=> ?_
      by_cases e1:y.f0=z.f0
      rotate_left
      · simp [e1]
      have:=hl.eq_of hy hz e1
      subst this
      by_cases e2:y.f1=x.f0<;>simp [e2,hnd.1]
    rw [e,sumBy_add,ih,sumBy_one hl.nodup hz]
    by_cases e2:z.f1=x.f0
    rotate_left
    · by_cases e3 : x.f0 = z.f0
      · simp [e2, e3, hnd.1]
        exact fun q=>absurd (q.trans e3.symm) e2
      have e4:x.f0≠z.f1:=fun q=>e2 q.symm
      simp [e2,e3,e4]
    have hm:x.f0∈us:=by
      rw [e2] at k
      cases k with
      |nil k=>rw [hl.look hx] at k;cases k
      |cons _ _=>simp
    have hne:x.f0≠z.f0:=fun q=>hnd.1 (by rw [←q];exact hm)
    simp [e2,hm,hne]
def admF (us:List ByteArray) (n:ByteArray) (v:Vec) (x:Item):Item:=⟨x.f0,x.f1,x.f2,if x.f0=n then vadd x.f3 v else x.f3,if x.f0∈us then vadd x.f4 v else x.f4,x.f5⟩
def admL (l:List Item) (n:ByteArray) (v:Vec):List Item:=l.map (admF (up l n) n v)
theorem csum_adm {l:List Item} (hl:RightP l) (c:Comp) (n:ByteArray) (v:Vec) {x:Item} (hx:x∈l):
  csum c (admL l n v) x.f0=csum c l x.f0+if x.f0∈up l n∧x.f0≠n then c.of v else 0:=by
 unfold csum admL;rw [sumBy_map,←chain_kids hl (hl.chainAll n) (c.of v) hx,←sumBy_add];refine sumBy_congr fun y hy=> ?_
 simp only [admF];by_cases e1:y.f1=x.f0<;>by_cases e2:y.f0∈up l n<;>simp [e1,e2,of_vadd]
theorem adm_right {l:List Item} (hl:RightP l) {n:ByteArray} (v:Vec) (hin: ∃x,look l n=some x)
    (hown: ∀x∈l,x.f0=n→MayP (vadd x.f3 v)) (hsub: ∀x∈l,x.f0∈up l n→MayP (vadd x.f4 v)) (hfit: ∀x∈l,x.f0∈up l n→LeP (vadd x.f4 v) x.f2):RightP (admL l n v) where
  len:=by unfold admL;rw [List.length_map];exact hl.len
  ok:=by
    intro y hy
    obtain ⟨x,hx,rfl⟩:=List.mem_map.1 hy
    have k:=hl.ok x hx
    refine ⟨k.name,k.size,k.lim, ?_, ?_, ?_,k.ver⟩
    · show MayP (if x.f0 = n then vadd x.f3 v else x.f3)
      split
      · exact hown x hx (by assumption)
      exact k.own
    · show MayP (if x.f0 ∈ up l n then vadd x.f4 v else x.f4)
      split
      · exact hsub x hx (by assumption)
      exact k.sub
    show LeP (if x.f0∈up l n then vadd x.f4 v else x.f4) x.f2
    split
    · exact hfit x hx (by assumption)
    exact k.fit
  sorted:=by
    unfold admL
    rw [List.pairwise_map]
    exact hl.sorted
  par:=by
    intro y hy
    obtain ⟨x,hx,rfl⟩:=List.mem_map.1 hy
    rcases hl.par x hx with h|⟨z,h⟩
    · exact .inl h
    exact .inr ⟨_,by unfold admL;rw [look_map (f:=admF (up l n) n v) (fun _=>rfl)];show (look l x.f1).map _=_;rw [h];rfl⟩
  sum:=by
    intro c y hy
    obtain ⟨x,hx,rfl⟩:=List.mem_map.1 hy
    show c.of (if x.f0∈up l n then vadd x.f4 v else x.f4)=c.of (if x.f0=n then vadd x.f3 v else x.f3)+csum c (admL l n v) x.f0
    rw [csum_adm hl c n v hx]
    have hs:=hl.sum c x hx
    by_cases e:x.f0=n
    rotate_left
    · by_cases hm : x.f0 ∈ up l n
      · simp [e,hm,of_vadd];omega
      simp [e,hm];omega
    have hm:x.f0∈up l n:=by
      obtain ⟨z,hz⟩:=hin
      rw [e];exact up_self hz
    simp [e] at hm ⊢
    rw [if_pos hm,of_vadd,of_vadd,hs,e];omega
  chain:=by
    intro y hy
    obtain ⟨x,hx,rfl⟩:=List.mem_map.1 hy
    obtain ⟨us,h⟩:=hl.chain x hx
    exact ⟨us,h.map (f:=admF (up l n) n v) (fun _=>rfl) (fun _=>rfl)⟩
def insL (l:List Item) (it:Item):List Item:=l.takeWhile (fun x=>lt x.f0 it.f0)++it::l.dropWhile (fun x=>lt x.f0 it.f0)
theorem look_ins (a b:List Item) (it:Item) (n:ByteArray) (h:look (a++b) it.f0=none):look (a++it::b) n=if n=it.f0 then some it else look (a++b) n:=by
  unfold look at h ⊢;rw [List.find?_append] at h ⊢;rw [List.find?_append,List.find?_cons];by_cases e:it.f0=n;rotate_left
  · have e' : n ≠ it.f0 := fun q => e q.symm
    simp [e,e']
  subst e
  cases ha:a.find? (fun x=>decide (x.f0=it.f0)) with
  |some y=>rw [ha] at h;simp at h
  |none=>simp
theorem insL_eq (l:List Item) (it:Item): ∃a b,l=a++b∧insL l it=a++it::b∧(∀x∈a,lt x.f0 it.f0=true)∧(∀x t,b=x::t→lt x.f0 it.f0=false):=by
  refine ⟨l.takeWhile (fun x=>lt x.f0 it.f0),l.dropWhile (fun x=>lt x.f0 it.f0),(List.takeWhile_append_dropWhile).symm,rfl,fun x hx=> ?_,fun x t e=> ?_⟩
  · exact List.all_eq_true.1 (List.all_takeWhile (p:=fun x:Item=>lt x.f0 it.f0) (l:=l)) x hx
  have:=List.head?_dropWhile_not (fun x:Item=>lt x.f0 it.f0) l
  rw [e] at this
  simpa using this
theorem csum_ins (c:Comp) (a b:List Item) (it:Item) (n:ByteArray):csum c (a++it::b) n=csum c (a++b) n+if it.f1=n then c.of it.f4 else 0:=by
 unfold csum;rw [sumBy_append,sumBy_append,sumBy_cons];omega
theorem ins_right {l:List Item} (hl:RightP l) {it:Item} (hi:ItemOK it) (h0: ∀c:Comp,c.of it.f3=0∧c.of it.f4=0) (hn:look l it.f0=none)
    (hp:it.f1=⟨#[]⟩∨ ∃y,look l it.f1=some y) (hlen:l.length<120):RightP (insL l it):=by
  obtain ⟨a,b,e,e',ha,hb⟩:=insL_eq l it;rw [e'];subst e;have hlk:=fun n=>look_ins a b it n hn
  have hmem: ∀x,x∈a++it::b↔x=it∨x∈a++b:=fun x=>by simp;constructor<;>(intro h;rcases h with h|h|h<;>simp [h])
  have hnew: ∀m y,look (a++b) m=some y→m≠it.f0:=fun m y h q=>by rw [q,hn] at h;cases h
  have hne:it.f0≠⟨#[]⟩:=hi.name
  have hpar: ∀x∈a++b,x.f1≠it.f0:=fun x hx q=>by
    rcases hl.par x hx with h|⟨y,h⟩
    · exact hne (q.symm.trans h)
    exact hnew _ _ h q
  have hch: ∀{n us},Chain (a++b) n us→n≠it.f0→Chain (a++it::b) n us:=by
    intro n us h
    induction h with
    |nil h=>intro q;exact .nil (by rw [hlk,if_neg q];exact h)
    | @cons n x us h k ih =>
      intro q;exact .cons (x:=x) (by rw [hlk,if_neg q];exact h) (ih (hpar x (look_mem h).1))
  have hip:it.f1≠it.f0:=by
    rcases hp with h|⟨y,h⟩
    · rw [h];exact fun q=>hne q.symm
    exact hnew _ _ h
  refine ⟨?_, ?_, ?_, ?_, ?_, ?_⟩
  · simp at hlen ⊢;omega
  · intro x hx
    rcases (hmem x).1 hx with rfl|hx
    · exact hi
    exact hl.ok x hx
  · have hs := hl.sorted
    rw [List.pairwise_append] at hs ⊢
    obtain ⟨h1,h2,h3⟩:=hs
    have hbx: ∀y∈b,lt it.f0 y.f0=true:=by
      intro y hy
      cases b with
      |nil=>cases hy
      | cons x t =>
        have hx:lt it.f0 x.f0=true:=lt_total (hb x t rfl) (fun q=>look_none.1 hn x (by simp) q)
        rcases List.mem_cons.1 hy with rfl|hy
        · exact hx
        exact lt_trans hx ((List.pairwise_cons.1 h2).1 y hy)
    refine ⟨h1,List.pairwise_cons.2 ⟨hbx,h2⟩,fun x hx y hy=> ?_⟩
    rcases List.mem_cons.1 hy with rfl|hy
    · exact ha x hx
    exact h3 x hx y hy
  · intro x hx
    rcases (hmem x).1 hx with rfl|hx
    · rcases hp with h | ⟨y, h⟩
      · exact .inl h
      exact .inr ⟨y,by rw [hlk,if_neg hip];exact h⟩
    rcases hl.par x hx with h|⟨y,h⟩
    · exact .inl h
    exact .inr ⟨y,by rw [hlk,if_neg (hpar x hx)];exact h⟩
  · intro c x hx
    rw [csum_ins,(h0 c).2,ite_self,Int.add_zero]
    rcases (hmem x).1 hx with rfl|hx
    rotate_left
    · exact hl.sum c x hx
    rw [(h0 c).1,(h0 c).2]
    unfold csum
    rw [sumBy_zero (fun y hy=>if_neg (hpar y hy))];rfl
  intro x hx
  rcases (hmem x).1 hx with rfl|hx
  · have := hch (hl.chainAll x.f1) hip
    exact ⟨_, .cons (x:=x) (by rw [hlk,if_pos rfl]) this⟩
  obtain ⟨us,h⟩:=hl.chain x hx;exact ⟨us,hch h (fun q=>look_none.1 hn x hx q)⟩
theorem ite_iff {α:Type} {p q:Prop} [Decidable p] [Decidable q] (h:p↔q) {a b:α}:(if p then a else b)=if q then a else b:=by
  by_cases hp:p
  · rw [if_pos hp,if_pos (h.1 hp)]
  rw [if_neg hp,if_neg (fun k=>hp (h.2 k))]
theorem r10_Le_eq (a b d a' b' d':Int):r10_Le.f a b d a' b' d'=some (decide (LeP ⟨a,b,d⟩ ⟨a',b',d'⟩)):=by
 unfold r10_Le.f
 by_cases h0:a≤a'<;>by_cases h1:b≤b'<;>simp [h0,h1,leP_iff]
theorem r10_unit_eq (a:Int):r10_unit.f a=some (decide (0≤a∧a≤1099511627776)):=by
  unfold r10_unit.f;by_cases h0:0≤a
  · rw [if_pos (by omega)];simp [h0]
  rw [if_neg (by omega)];simp [h0]
theorem r10_MayVec_eq (a b d:Int):r10_MayVec.f a b d=some (decide (MayP ⟨a,b,d⟩)):=by
 unfold r10_MayVec.f;simp only [r10_unit_eq,Option.bind_some];by_cases h0:0≤a∧a≤1099511627776<;>by_cases h1:0≤b∧b≤1099511627776<;>simp [h0,h1,mayP_iff]
theorem r10_MayName_eq (n:ByteArray):r10_MayName.f n=some (decide (n≠⟨#[]⟩∧n.size≤24)):=by
  unfold r10_MayName.f;by_cases h:n=⟨#[]⟩
  · rw [if_pos (nm_empty.2 h)];simp [h]
  rw [if_neg (fun q=>h (nm_empty.1 q))];simp [h];omega
theorem r10_copied_eq (l:List Item) (h:l.length<1000000):r10_copied.f l=some l:=by
 unfold r10_copied.f;simp only [Option.bind_some,List.length_nil,List.nil_append];rw [if_pos (by omega)]
theorem r10_Find_l0 (l:List Item) (n:ByteArray) (hl:l.length<1000000): ∀(d i:Nat),l.length - i=d→i≤l.length→
    Ev (fun k=>r10_Find.l0 k l n i) (fidx (fun x:Item=>x.f0.toList==n.toList) (l.drop i) i)
  | 0, i, hd, hi => by
    obtain rfl:i=l.length:=by omega
    refine Ev.step (f:=fun _=>some (-1)) (fun k=> ?_) (by rw [List.drop_length];exact Ev.now _);simp only [r10_Find.l0];rw [if_neg (by omega)]
  | d + 1, i, hd, hi => by
    have hlt:i<l.length:=by omega
    rw [fidx_drop _ zItem l i hlt];have hrd:rd_T79 l (i:Int)=l.getD i zItem:=by rw [rd_item,Int.toNat_natCast]
    by_cases e:(l.getD i zItem).f0.toList=n.toList
    · rw [if_pos (beq_iff_eq.2 e)]
      refine Ev.step (f:=fun _=>some (i:Int)) (fun k=> ?_) (Ev.now _)
      simp only [r10_Find.l0]
      rw [if_pos (by omega),if_pos (by omega),hrd,if_pos e]
    rw [if_neg (fun q=>e (beq_iff_eq.1 q))];refine Ev.step (f:=fun k=>r10_Find.l0 k l n ((i+1:Nat):Int)) (fun k=> ?_) (r10_Find_l0 l n hl d (i+1) (by omega) (by omega));simp only [r10_Find.l0];rw [if_pos (by omega),if_pos (by omega),hrd,if_neg e,w64 (by omega) (by omega)]
    rfl
theorem r10_Find_ev (l:List Item) (n:ByteArray) (hl:l.length<1000000):Ev (fun k=>r10_Find.f k l n) (fnd l n):=r10_Find_l0 l n hl _ 0 rfl (by omega)
theorem r10_Up_l0 (l:List Item) (hl:l.length<1000000): ∀(m:Nat) (n:ByteArray) (out:List ByteArray),out.length+m=l.length+1→
    Ev (fun k=>r10_Up.l0 k l out (fnd l n)) (out++upGo l m n)
  | 0, n, out, hm => by
    rw [upGo.eq_1,List.append_nil];refine Ev.step (f:=fun _=>some out) (fun k=> ?_) (Ev.now _);simp only [r10_Up.l0];by_cases h:0≤fnd l n
    · rw [if_pos h,if_neg (by omega)]
    rw [if_neg h]
  | m + 1, n, out, hm => by
    cases h:look l n with
    | none =>
      rw [upGo_none h,List.append_nil];refine Ev.step (f:=fun _=>some out) (fun k=> ?_) (Ev.now _);simp only [r10_Up.l0];rw [fnd_none h,if_neg (by omega)]
    | some x =>
      rw [upGo_some h];have h0:=fnd_ge.2 ⟨x,h⟩;have h1:=fnd_lt l n;obtain ⟨hx,hn⟩:=look_mem h;refine Ev.step (f:=fun k=>(r10_Find.f k l x.f1).bind fun t=>r10_Up.l0 k l (out++ [n]) t) (fun k=> ?_) (Ev.bind (r10_Find_ev l x.f1 hl) ?_)
      · simp only [r10_Up.l0]
        rw [if_pos h0,if_pos (by omega),if_pos h0,if_pos h1,if_pos (by omega),fnd_rd h,hn]
      have:=r10_Up_l0 l hl m x.f1 (out++ [n]) (by simp;omega)
      simpa using this
theorem r10_Up_ev (l:List Item) (n:ByteArray) (hl:l.length<1000000):Ev (fun k=>r10_Up.f k l n) (up l n):=
 Ev.bind (r10_Find_ev l n hl) (by have:=r10_Up_l0 l hl (l.length+1) n [] (by simp);rw [List.nil_append] at this;exact this)
theorem set_at {l:List Item} (hn:(l.map (·.f0)).Nodup) {n:ByteArray} {x:Item} (h:look l n=some x) (y:Item):
    l.set (fnd l n).toNat y=l.map (fun z=>if z.f0=n then y else z):=by
  obtain ⟨j,h1,h2,h3,h4,h5⟩:=fnd_some h
  rw [h2,Int.toNat_natCast]
  have hx:l[j]=x:=by rw [←h3];simp [h1]
  apply List.ext_getElem (by simp)
  intro m hm hm'
  simp only [List.length_set] at hm
  rw [List.getElem_set,List.getElem_map]
  by_cases e:j=m
  · subst e
    rw [if_pos rfl,if_pos (by rw [hx];exact h4)]
  rw [if_neg e,if_neg]
  intro q
  have h6:(l.map (·.f0))[j]'(by simpa using h1)=(l.map (·.f0))[m]'(by simpa using hm):=by simp [hx,h4,q]
  exact e ((List.getElem_inj hn).1 h6)
theorem fnd_map {f:Item→Item} (hf: ∀x,(f x).f0=x.f0) (l:List Item) (n:ByteArray):fnd (l.map f) n=fnd l n:=by
 have: ∀(l:List Item) (i:Int),fidx (fun x:Item=>x.f0.toList==n.toList) (l.map f) i=fidx (fun x:Item=>x.f0.toList==n.toList) l i:=by
  intro l
  induction l with
  |nil=>intro i;rfl
  |cons x l ih=>intro i;simp only [List.map_cons,fidx,hf,ih]
 exact this l 0
def admS (us:List ByteArray) (v:Vec) (x:Item):Item:=⟨x.f0,x.f1,x.f2,x.f3,if x.f0∈us then vadd x.f4 v else x.f4,x.f5⟩
def admR (l:List Item) (n:ByteArray) (v:Vec):List Item×Int:=
 if¬MayP v then ([],1) else if (look l n).isNone=true then ([],2) else if∀x∈l,x.f0∈up l n→LeP (vadd x.f4 v) x.f2 then (admL l n v,0) else ([],12)
theorem vadd_wrap {a b:Vec} (ha:MayP a) (hb:MayP b):(wrap64 (a.f0+b.f0),wrap64 (a.f1+b.f1),wrap64 (a.f2+b.f2))=((vadd a b).f0,(vadd a b).f1,(vadd a b).f2):=by
 have a0:=ha .cpu;have a1:=ha .mem;have a2:=ha .pods;have b0:=hb .cpu;have b1:=hb .mem;have b2:=hb .pods;simp only [Comp.of] at a0 a1 a2 b0 b1 b2;rw [w64 (by omega) (by omega),w64 (by omega) (by omega),w64 (by omega) (by omega)]
 rfl
theorem r10_Add_eq {a b:Vec} (ha:MayP a) (hb:MayP b):r10_Add.f a.f0 a.f1 a.f2 b.f0 b.f1 b.f2=some ((vadd a b).f0,(vadd a b).f1,(vadd a b).f2):=by
 unfold r10_Add.f;rw [vadd_wrap ha hb]
theorem look_admS (us:List ByteArray) (v:Vec) (l:List Item) (n:ByteArray):look (l.map (admS us v)) n=(look l n).map (admS us v):=look_map (f:=admS us v) (fun _=>rfl) l n
theorem drop_cons {us:List ByteArray} {i:Nat} (h:i<us.length):us.drop i=rdOf ByteArray.empty us i::us.drop (i+1):=by
 rw [List.drop_eq_getElem_cons h];simp [rdOf,h]
theorem take_snoc_ {us:List ByteArray} {i:Nat} (h:i<us.length):us.take (i+1)=us.take i++ [rdOf ByteArray.empty us i]:=by
 rw [List.take_succ_eq_append_getElem h];simp [rdOf,h]
theorem fnd_admS (us:List ByteArray) (v:Vec) (l:List Item) (n:ByteArray):fnd (l.map (admS us v)) n=fnd l n:=fnd_map (f:=admS us v) (fun _=>rfl) l n
theorem nodup_admS {us:List ByteArray} {v:Vec} {l:List Item} (h:(l.map (·.f0)).Nodup):((l.map (admS us v)).map (·.f0)).Nodup:=by
 rw [List.map_map];exact h
theorem r10_Admit_l0 {l:List Item} (hl:RightP l) (n:ByteArray) {v:Vec} (hv:MayP v) (hin: ∃x,look l n=some x): ∀(d i:Nat),(up l n).length - i=d→i≤(up l n).length→
    Ev (fun k=>r10_Admit.l0 k n (up l n) (l.map (admS ((up l n).take i) v)) i v.f0 v.f1 v.f2) (if∀x∈l,x.f0∈(up l n).drop i→LeP (vadd x.f4 v) x.f2 then (admL l n v,0) else ([],12))
  | 0, i, hd, hi => by
    obtain rfl:i=(up l n).length:=by omega
    rw [List.drop_length,List.take_length,if_pos (by simp)];obtain ⟨x,hx⟩:=hin;obtain ⟨hm,hxn⟩:=look_mem hx;have hlk:look (l.map (admS (up l n) v)) n=some (admS (up l n) v x):=by rw [look_admS,hx];rfl
    have h0:0≤fnd l n:=fnd_ge.2 ⟨x,hx⟩;have h1:fnd l n<l.length:=fnd_lt l n;obtain ⟨K,hK⟩:=r10_Find_ev (l.map (admS (up l n) v)) n (by rw [List.length_map];have:=hl.len;omega);dsimp only at hK;refine ⟨K+1,fun k hk=> ?_⟩;obtain ⟨k,rfl⟩: ∃m,k=m+1:=⟨k - 1,by omega⟩;have hrd:=fnd_rd hlk;rw [fnd_admS] at hrd;simp only [r10_Admit.l0];rw [if_neg (by omega),hK k (by omega),fnd_admS];simp only [Option.bind_some];rw [if_pos h0,if_pos (by rw [List.length_map];omega),hrd,r10_Add_eq (a:=(admS (up l n) v x).f3) (hl.ok x hm).own hv];simp only [Option.bind_some];have hset:=set_at (nodup_admS (us:=up l n) (v:=v) hl.nodup) hlk;rw [fnd_admS] at hset;rw [hset,List.map_map]
    congr 2
    unfold admL;refine List.map_congr_left fun z hz=> ?_
    simp only [Function.comp,admF];by_cases e:z.f0=n
    · obtain rfl : z = x := hl.eq_of hz hm (e.trans hxn.symm)
      rw [if_pos (by exact e),if_pos e]
      rfl
    rw [if_neg (by exact e),if_neg e]
    rfl
  | d + 1, i, hd, hi => by
    have hlt:i<(up l n).length:=by omega
    have hc:=hl.chainAll n;have hnd:=hc.nodup;rw [drop_cons hlt];have hu:rdOf ByteArray.empty (up l n) i∈up l n:=by simp [rdOf,hlt]
    obtain ⟨x,hx⟩:=hc.mem_look hu;obtain ⟨hm,hxn⟩:=look_mem hx
    have hnot:x.f0 ∉ (up l n).take i:=by
      rw [hxn];rw [←List.take_append_drop i (up l n),drop_cons hlt,List.nodup_append] at hnd;exact fun q=>hnd.2.2 _ q _ (by simp) rfl
    generalize hU:rdOf ByteArray.empty (up l n) i=u at*;have hlk:look (l.map (admS ((up l n).take i) v)) u=some (admS ((up l n).take i) v x):=by rw [look_admS,hx];rfl
    have hsame:admS ((up l n).take i) v x=x:=by unfold admS;rw [if_neg hnot]
    rw [hsame] at hlk;have h0:0≤fnd l u:=fnd_ge.2 ⟨x,hx⟩;have h1:fnd l u<l.length:=fnd_lt l u;have hrd:=fnd_rd hlk;have hset:=set_at (nodup_admS (us:=(up l n).take i) (v:=v) hl.nodup) hlk;rw [fnd_admS] at hrd;rw [fnd_admS] at hset;obtain ⟨K,hK⟩:=r10_Find_ev (l.map (admS ((up l n).take i) v)) u (by rw [List.length_map];have:=hl.len;omega);obtain ⟨K',hK'⟩:=r10_Admit_l0 hl n hv hin d (i+1) (by omega) (by omega);dsimp only at hK hK';refine ⟨K+K'+1,fun k hk=> ?_⟩;obtain ⟨k,rfl⟩: ∃m,k=m+1:=⟨k - 1,by omega⟩;have hup:(up l n).length≤l.length:=hc.len;have hlen:=hl.len;simp only [r10_Admit.l0];rw [if_pos (by omega),if_pos (by omega),hU,hK k (by omega),fnd_admS];simp only [Option.bind_some];rw [if_pos h0,if_pos (by rw [List.length_map];omega),hrd,r10_Add_eq (a:=x.f4) (hl.ok x hm).sub hv];simp only [Option.bind_some];rw [hset,List.map_map]
    have hnew:(l.map ((fun z:Item=>if z.f0=u then (⟨x.f0,x.f1,⟨x.f2.f0,x.f2.f1,x.f2.f2⟩,⟨x.f3.f0,x.f3.f1,x.f3.f2⟩,⟨(vadd x.f4 v).f0,(vadd x.f4 v).f1,(vadd x.f4 v).f2⟩,x.f5⟩:Item) else z) ∘ admS ((up l n).take i) v))=l.map (admS ((up l n).take (i+1)) v):=by
      refine List.map_congr_left fun z hz=> ?_
      simp only [Function.comp];rw [take_snoc_ hlt,hU];by_cases e:z.f0=u
      · obtain rfl : z = x := hl.eq_of hz hm (e.trans hxn.symm)
        rw [if_pos (by exact e)]
        unfold admS
        rw [if_pos (by simp [e])]
      rw [if_neg (by exact e)];unfold admS
      simp [e]
    rw [hnew];have hlk2:look (l.map (admS ((up l n).take (i+1)) v)) u=some (admS ((up l n).take (i+1)) v x):=by rw [look_admS,hx];rfl
    have hrd2:=fnd_rd hlk2;rw [fnd_admS] at hrd2;have hx2:admS ((up l n).take (i+1)) v x=⟨x.f0,x.f1,x.f2,x.f3,vadd x.f4 v,x.f5⟩:=by unfold admS;rw [if_pos (by rw [take_snoc_ hlt,hU,hxn];simp)]
    rw [hrd2,hx2,r10_Le_eq];simp only [Option.bind_some];by_cases hfit:LeP (vadd x.f4 v) x.f2;rotate_left
    · rw [if_neg (by simpa using hfit), if_neg (fun q => hfit (q x hm (by rw [hxn]; simp)))]
      rfl
    rw [if_pos (by exact decide_eq_true hfit),w64 (by omega) (by omega)];have h2:=hK' k (by omega);rw [show ((i:Int)+1)=((i+1:Nat):Int) from by omega,h2]
    congr 1
    refine ite_iff ⟨fun q z hz hzm=> ?_,fun q z hz hzm=>q z hz (by simp [hzm])⟩
    rcases List.mem_cons.1 hzm with e|hzm
    · obtain rfl : z = x := hl.eq_of hz hm (e.trans hxn.symm)
      exact hfit
    exact q z hz hzm
theorem r10_Admit_ev {l:List Item} (hl:RightP l) (n:ByteArray) (v:Vec):Ev (fun k=>r10_Admit.f k l n v.f0 v.f1 v.f2) (admR l n v):=by
  have hlen:=hl.len;refine Ev.bind (r10_Up_ev l n (by omega)) ?_;have hmv:r10_MayVec.f v.f0 v.f1 v.f2=some (decide (MayP v)):=r10_MayVec_eq _ _ _;unfold admR;by_cases hv:MayP v;rotate_left
  · rw [if_pos hv]
    refine Ev.congr (fun k=> ?_) (Ev.now _)
    rw [hmv]
    simp only [Option.bind_some]
    rw [if_neg (by simpa using hv)]
    rfl
  rw [if_neg (by simpa using hv)]
  cases hx:look l n with
  | none =>
    rw [if_pos (show (none:Option Item).isNone=true from rfl)];refine Ev.congr (fun k=> ?_) (Ev.now _);rw [hmv];simp only [Option.bind_some];rw [if_pos (by exact decide_eq_true hv),show up l n=[] from upGo_none hx _]
    rfl
  | some x =>
    rw [if_neg (by simp)];have h:=r10_Admit_l0 hl n hv ⟨x,hx⟩ _ 0 rfl (by omega);rw [List.take_zero,List.drop_zero,show l.map (admS [] v)=l from by rw [show admS [] v=id from by funext z;simp [admS]];simp] at h;refine Ev.congr (fun k=> ?_) h;rw [hmv];simp only [Option.bind_some];have:(up l n).length≠0:=by have:=up_self hx;intro q;rw [List.length_eq_zero_iff.1 q] at this;cases this
    rw [if_pos (by exact decide_eq_true hv),if_neg (by omega),r10_copied_eq l (by omega)]
    rfl
def zVec:Vec:=⟨0,0,0⟩
def newItem (n p:ByteArray) (v:Vec):Item:=⟨n,p,v,zVec,zVec,1⟩
def creR (l:List Item) (n p:ByteArray) (v:Vec):List Item×Int:=
 if¬((n≠⟨#[]⟩∧n.size≤24)∧MayP v) then ([],1) else if (look l n).isSome=true then ([],3) else if p≠⟨#[]⟩∧(look l p).isNone=true then ([],2) else if 120≤l.length then ([],4) else (insL l (newItem n p v),0)
theorem insL_cons (x:Item) (l:List Item) (it:Item):insL (x::l) it=if lt x.f0 it.f0=true then x::insL l it else it::x::l:=by
 unfold insL;rw [List.takeWhile_cons,List.dropWhile_cons]
 cases lt x.f0 it.f0<;>simp
theorem r10_Create_l0 (n p:ByteArray) (v:Vec) (b:List Item): ∀(a l:List Item),l=a++b→l.length<1000000→Ev (fun k=>r10_Create.l0 k l n p a.length v.f0 v.f1 v.f2) (a++insL b (newItem n p v),0):=by
  induction b with
  | nil =>
    rintro a l rfl hl;simp only [List.append_nil] at hl ⊢;refine Ev.step (f:=fun _=>some (a++ [newItem n p v],0)) (fun k=> ?_) (Ev.now _);simp only [r10_Create.l0];rw [if_neg (by omega),if_pos (by omega),if_pos (by omega),Int.toNat_natCast,List.take_length,r10_copied_eq a (by omega)];simp only [Option.bind_some,List.drop_length,List.length_append,List.length_cons,List.length_nil];rw [if_pos (by omega),if_pos (by omega),List.append_nil]
    rfl
  | cons x b ih =>
    rintro a l rfl hl;have hlen:(a++x::b).length=a.length+b.length+1:=by simp;omega
    have hrd:rd_T79 (a++x::b) (a.length:Int)=x:=by rw [rd_item,Int.toNat_natCast];simp
    rw [insL_cons];by_cases e:lt x.f0 n=true
    · rw [if_pos (by exact e)]
      have h:=ih (a++ [x]) (a++x::b) (by simp) hl
      refine Ev.step (f:=fun k=>r10_Create.l0 k (a++x::b) n p (a++ [x]).length v.f0 v.f1 v.f2) (fun k=> ?_) (by simpa using h)
      simp only [r10_Create.l0]
      rw [if_pos (by omega),if_pos (by omega),hrd,if_pos (by exact e),w64 (by omega) (by omega)]
      simp
    rw [if_neg (by exact e)];refine Ev.step (f:=fun _=>some (a++newItem n p v::x::b,0)) (fun k=> ?_) (Ev.now _);simp only [r10_Create.l0];rw [if_pos (by omega),if_pos (by omega),hrd,if_neg (by exact e),if_pos (by omega),Int.toNat_natCast,List.take_left,r10_copied_eq a (by omega)];simp only [Option.bind_some,List.drop_left,List.length_append,List.length_cons,List.length_nil];rw [if_pos (by omega),if_pos (by omega)]
    simp
    rfl
theorem r10_Create_ev {l:List Item} (hl:l.length<1000000) (n p:ByteArray) (v:Vec):Ev (fun k=>r10_Create.f k l n p v.f0 v.f1 v.f2) (creR l n p v):=by
  have hmv:r10_MayVec.f v.f0 v.f1 v.f2=some (decide (MayP v)):=r10_MayVec_eq _ _ _;have hno: ∀e:Int,((r10_no.f e).bind fun bt=>some (bt.1,bt.2))=some (([]:List Item),e):=fun _=>rfl
  have hj1: ∀b,Ev (fun k=>r10_Create.j1 k l n p b v.f0 v.f1 v.f2) (if b=true then ([],2) else if 120≤l.length then ([],4) else (insL l (newItem n p v),0)):=by
    intro b
    cases b with
    | true =>
      refine Ev.step (f:=fun _=>some ([],2)) (fun k=> ?_) (Ev.now _);simp only [r10_Create.j1,if_true];exact hno 2
    | false =>
      simp only [Bool.false_eq_true,if_false];by_cases h:120≤l.length
      · rw [if_pos h]
        refine Ev.step (f:=fun _=>some ([],4)) (fun k=> ?_) (Ev.now _)
        simp only [r10_Create.j1,Bool.false_eq_true,if_false]
        rw [if_pos (by omega)];exact hno 4
      rw [if_neg h];refine Ev.step (f:=fun k=>r10_Create.l0 k l n p 0 v.f0 v.f1 v.f2) (fun k=> ?_) (by have:=r10_Create_l0 n p v l [] l rfl hl;simpa using this);simp only [r10_Create.j1,Bool.false_eq_true,if_false];rw [if_neg (by omega)]
  have hj0: ∀b,Ev (fun k=>r10_Create.j0 k l n p b v.f0 v.f1 v.f2) (if b=true then ([],1) else if (look l n).isSome=true then ([],3) else if p≠⟨#[]⟩∧(look l p).isNone=true then ([],2) else if 120≤l.length then ([],4) else (insL l (newItem n p v),0)):=by
    intro b
    cases b with
    | true =>
      refine Ev.step (f:=fun _=>some ([],1)) (fun k=> ?_) (Ev.now _);simp only [r10_Create.j0,if_true];exact hno 1
    | false =>
      simp only [Bool.false_eq_true,if_false];refine Ev.step (f:=fun k=>(r10_Find.f k l n).bind fun t=>if t≥0 then some ([],3) else if p.toList=([]:List UInt8) then r10_Create.j1 k l n p false v.f0 v.f1 v.f2 else (r10_Find.f k l p).bind fun t=>r10_Create.j1 k l n p (decide (t<0)) v.f0 v.f1 v.f2) (fun k=> ?_) (Ev.bind (r10_Find_ev l n hl) ?_)
      · simp only [r10_Create.j0,Bool.false_eq_true,if_false];rfl
      cases hn:look l n with
      | some x =>
        refine Ev.congr (fun k=> ?_) (Ev.now _);rw [if_pos (fnd_ge.2 ⟨x,hn⟩)];rfl
      | none =>
        simp only [Option.isSome_none,Bool.false_eq_true,if_false];by_cases hp:p=⟨#[]⟩
        · have h := hj1 false
          simp only [Bool.false_eq_true,if_false] at h
          rw [if_neg (fun q=>q.1 hp)]
          refine Ev.congr (fun k=> ?_) h
          rw [fnd_none hn,if_neg (by omega),if_pos (nm_empty.2 hp)]
        have h:=hj1 (decide (fnd l p<0));refine Ev.congr (g:=fun k=>_) (f:=fun k=>(r10_Find.f k l p).bind fun t=>r10_Create.j1 k l n p (decide (t<0)) v.f0 v.f1 v.f2) (fun k=> ?_) (Ev.bind (r10_Find_ev l p hl) ?_)
        · rw [fnd_none hn,if_neg (by omega),if_neg (fun q=>hp (nm_empty.1 q))]
        have e:(p≠⟨#[]⟩∧(look l p).isNone=true)↔(decide (fnd l p<0)=true):=by
          rw [decide_eq_true_iff,fnd_neg];simp [hp]
        rw [ite_iff e];exact h
  unfold creR;by_cases hn:n≠⟨#[]⟩∧n.size≤24
  · have h := hj0 (!decide (MayP v))
    rw [ite_iff (q:=(!decide (MayP v))=true) (by simp [hn])]
    refine Ev.congr (fun k=> ?_) h
    unfold r10_Create.f
    rw [r10_MayName_eq,hmv]
    simp only [Option.bind_some]
    rw [if_pos (by exact decide_eq_true hn)]
  have h:=hj0 true;rw [if_pos (fun q=>hn q.1)];rw [if_pos rfl] at h;refine Ev.congr (fun k=> ?_) h;unfold r10_Create.f;rw [r10_MayName_eq];simp only [Option.bind_some];rw [if_neg (by simpa using hn)]
theorem creR_right {l:List Item} (hl:RightP l) {n p:ByteArray} {v:Vec} (h:(creR l n p v).2=0):
    (creR l n p v).1=insL l (newItem n p v)∧RightP (insL l (newItem n p v))∧look l n=none∧l.length<120∧n≠⟨#[]⟩∧n.size≤24∧MayP v∧(p=⟨#[]⟩∨ ∃y,look l p=some y):=by
  unfold creR at h ⊢
  split at h
  · simp at h
  rename_i h1
  split at h
  · simp at h
  rename_i h2
  split at h
  · simp at h
  rename_i h3
  split at h
  · simp at h
  rename_i h4
  rw [if_neg h1,if_neg h2,if_neg h3,if_neg h4];obtain ⟨⟨h5,h6⟩,h7⟩:=Classical.not_not.1 h1
  have hn:look l n=none:=by cases q:look l n with
    |none=>rfl
    |some x=>rw [q] at h2;simp at h2
  have hp:p=⟨#[]⟩∨ ∃y,look l p=some y:=by
    by_cases e:p=⟨#[]⟩
    · exact .inl e
    right
    cases q:look l p with
    |none=>rw [q] at h3;exact absurd ⟨e,rfl⟩ h3
    |some y=>exact ⟨y,rfl⟩
  have hz: ∀c:Comp,c.of zVec=0:=fun c=>by cases c<;>rfl
  refine ⟨rfl,ins_right hl ⟨h5,h6,h7,fun c=> ?_,fun c=> ?_,fun c=> ?_, ?_⟩ (fun c=>⟨hz c,hz c⟩) hn hp (by omega),hn,by omega,h5,h6,h7,hp⟩
  · show 0≤c.of zVec∧c.of zVec≤_;rw [hz];omega
  · show 0≤c.of zVec∧c.of zVec≤_;rw [hz];omega
  · show c.of zVec≤c.of v;rw [hz];exact (h7 c).1
  show (1:Int)≤1∧(1:Int)≤_;omega
theorem mem_insL {l:List Item} {it x:Item}:x∈insL l it↔x=it∨x∈l:=by
 obtain ⟨a,b,e,e',_,_⟩:=insL_eq l it;rw [e',e];simp;constructor<;>(intro h;rcases h with h|h|h<;>simp [h])
theorem len_insL (l:List Item) (it:Item):(insL l it).length=l.length+1:=by
 obtain ⟨a,b,e,e',_,_⟩:=insL_eq l it;rw [e',e];simp;omega
theorem admR_right {l:List Item} (hl:RightP l) {n:ByteArray} {v:Vec} (h:(admR l n v).2=0):(admR l n v).1=admL l n v∧RightP (admL l n v)∧MayP v∧(∃x,look l n=some x)∧ ∀x∈l,x.f0∈up l n→LeP (vadd x.f4 v) x.f2:=by
  unfold admR at h ⊢
  split at h
  · simp at h
  rename_i h1
  split at h
  · simp at h
  rename_i h2
  split at h
  rotate_left
  · simp at h
  rename_i h3
  rw [if_neg h1,if_neg h2,if_pos h3];have hv:MayP v:=Classical.not_not.1 h1
  have hin: ∃x,look l n=some x:=by
    cases q:look l n with
    |none=>rw [q] at h2;simp at h2
    |some x=>exact ⟨x,rfl⟩
  have hsub: ∀x∈l,x.f0∈up l n→MayP (vadd x.f4 v):=fun x hx hm c=>by
    have a:=(hl.ok x hx).sub c;have b:=hv c;have d:=h3 x hx hm c;have e:=(hl.ok x hx).lim c;rw [of_vadd] at d ⊢;omega
  refine ⟨rfl,adm_right hl v hin (fun x hx e c=> ?_) hsub h3,hv,hin,h3⟩;have hm:x.f0∈up l n:=by obtain ⟨y,hy⟩:=hin;rw [e];exact up_self hy
  have a:=(hl.ok x hx).own c;have b:=hv c;have d:=hsub x hx hm c;have f:=hl.sum c x hx
  have g:0≤csum c l x.f0:=sumBy_nonneg fun y hy=>by
    split
    · exact ((hl.ok y hy).sub c).1
    omega
  rw [of_vadd] at d ⊢;omega
def Bytes (ns:List Int):Prop:= ∀x∈ns,0≤x∧x≤255
theorem Bytes.rd {ns:List Int} (h:Bytes ns) (i:Int):0≤rd ns i∧rd ns i≤255:=by
 unfold Go.Proofs.YtahidkjncljkaaaW.PrintWords.rd;rw [List.getD_eq_getElem?_getD]
 cases e:ns[i.toNat]? with
 |none=>simp
 |some x=>exact h x (List.mem_of_getElem? e)
def one (c:Int):ByteArray:=strOfNums [c]
structure MadeP (l:List Item):Prop where
 right:RightP l
 len:l.length≤24
 name: ∀x∈l,∃c:Int,97≤c∧c≤120∧x.f0=one c
 ver: ∀x∈l,x.f5=1
 lim: ∀x∈l,∀c:Comp,20≤c.of x.f2∧c.of x.f2≤275
theorem made_nil:MadeP []:=⟨right_nil,by simp,by simp,by simp,by simp⟩
theorem made_ins {l:List Item} (h:MadeP l) {n p:ByteArray} {v:Vec} {c:Int} (hc:97≤c∧c≤120) (hn:n=one c) (hv: ∀c:Comp,20≤c.of v∧c.of v≤275) (hl:l.length<24) (hr:RightP (insL l (newItem n p v))):MadeP (insL l (newItem n p v)) where
  right:=hr
  len:=by rw [len_insL];omega
  name:=fun x hx=>by
    rcases mem_insL.1 hx with rfl|hx
    · exact ⟨c,hc.1,hc.2,hn⟩
    exact h.name x hx
  ver:=fun x hx=>by
    rcases mem_insL.1 hx with rfl|hx
    · rfl
    exact h.ver x hx
  lim:=fun x hx=>by
    rcases mem_insL.1 hx with rfl|hx
    · exact hv
    exact h.lim x hx
theorem made_adm {l:List Item} (h:MadeP l) {n:ByteArray} {v:Vec} (hr:RightP (admL l n v)):MadeP (admL l n v) where
 right:=hr
 len:=by unfold admL;rw [List.length_map];exact h.len
 name:=fun x hx=>by
  obtain ⟨y,hy,rfl⟩:=List.mem_map.1 hx;exact h.name y hy
 ver:=fun x hx=>by
  obtain ⟨y,hy,rfl⟩:=List.mem_map.1 hx;exact h.ver y hy
 lim:=fun x hx=>by
  obtain ⟨y,hy,rfl⟩:=List.mem_map.1 hx;exact h.lim y hy
def MakesFrom (ns:List Int) (i:Int):Prop:= ∀l,MadeP l→ ∃r,Ev (fun k=>law12_Make.l0 k ns l i) r∧MadeP r
theorem tmod_in {a b:Int} (ha:0≤a) (hb:0<b):0≤a.tmod b∧a.tmod b<b:=by
 rw [Int.tmod_eq_emod_of_nonneg ha];exact ⟨Int.emod_nonneg _ (by omega),Int.emod_lt_of_pos _ hb⟩
theorem tdiv_in {a b:Int} (ha:0≤a) (hb:0<b):0≤a.tdiv b∧a.tdiv b≤a:=by
 rw [Int.tdiv_eq_ediv_of_nonneg ha];exact ⟨Int.ediv_nonneg ha (by omega),Int.ediv_le_self _ ha⟩
theorem made_j3 {ns:List Int} (hb:Bytes ns) (hs:ns.length≤1000) {i:Int} (h0:0≤i) (h2:i+2<ns.length) (ih:MakesFrom ns (i+3)) {l:List Item} (h:MadeP l) (hl:l.length<24) (p:ByteArray):
    ∃r,Ev (fun k=>law12_Make.j3 k ns l i p) r∧MadeP r:=by
  have b1:=hb.rd (i+1);have b2:=hb.rd (i+2);have hlen:=h.right.len
  have hnm:(wrap64 (97+(Int.tmod (wrap64 ((l.length:Int)*5)) 24))) % 256=97+((l.length:Int)*5) % 24:=by
    rw [w64 (n:=(l.length:Int)*5) (by omega) (by omega),Int.tmod_eq_emod_of_nonneg (by omega),w64 (by omega) (by omega)];omega
  generalize hc:97+((l.length:Int)*5) % 24=c at hnm;have hcb:97≤c∧c≤120:=by omega
  have hlim:wrap64 (20+wrap64 (rd ns (i+1)))=20+rd ns (i+1):=by rw [w64 (n:=rd ns (i+1)) (by omega) (by omega),w64 (by omega) (by omega)]
  obtain ⟨K,hK⟩:=r10_Create_ev (l:=l) (by omega) (one c) p ⟨20+rd ns (i+1),20+rd ns (i+1),20+rd ns (i+1)⟩;dsimp only at hK;have hw1:wrap64 (i+1)=i+1:=w64 (by omega) (by omega);have hw2:wrap64 (i+2)=i+2:=w64 (by omega) (by omega);have hw3:wrap64 (i+3)=i+3:=w64 (by omega) (by omega);have hr2:wrap64 (rd ns (i+2))=rd ns (i+2):=w64 (by omega) (by omega);by_cases hE:(creR l (one c) p ⟨20+rd ns (i+1),20+rd ns (i+1),20+rd ns (i+1)⟩).2=0;rotate_left
  · obtain ⟨r, ⟨K3, hK3⟩, hM⟩ := ih l h
    dsimp only at hK3
    refine ⟨r,⟨K+K3+1,fun k hk=> ?_⟩,hM⟩
    obtain ⟨k,rfl⟩: ∃m,k=m+1:=⟨k - 1,by omega⟩
    simp only [law12_Make.j3]
    rw [hw1,hw2,hw3,hnm,hlim,if_pos (by omega),if_pos (by omega)]
    rw [show strOfNums [c]=one c from rfl,hK k (by omega)]
    simp only [Option.bind_some]
    rw [if_neg hE]
    exact hK3 k (by omega)
  obtain ⟨e1,hR,hno, -, -, -,hv, -⟩:=creR_right h.right hE;have hm:=made_ins h (p:=p) hcb rfl (v:=⟨20+rd ns (i+1),20+rd ns (i+1),20+rd ns (i+1)⟩) (fun c=>by cases c<;>(simp only [Comp.of];omega)) hl hR;generalize hL:insL l (newItem (one c) p ⟨20+rd ns (i+1),20+rd ns (i+1),20+rd ns (i+1)⟩)=l1 at*;have hl1:0<l1.length:=by rw [←hL,len_insL];omega
  have hd:=tdiv_in (a:=rd ns (i+2)) (b:=16) (by omega) (by omega);have hw4:wrap64 (Int.tdiv (rd ns (i+2)) 16)=Int.tdiv (rd ns (i+2)) 16:=w64 (by omega) (by omega);have hq:=tmod_in (a:=Int.tdiv (rd ns (i+2)) 16) (b:=(l1.length:Int)) hd.1 (by omega);generalize hJ:Int.tmod (Int.tdiv (rd ns (i+2)) 16) (l1.length:Int)=j at*;obtain ⟨v,hv'⟩: ∃v:Vec,v=⟨Int.tmod (rd ns (i+2)) 16,wrap64 (Int.tdiv (Int.tmod (rd ns (i+2)) 16) 2),Int.tmod (Int.tmod (rd ns (i+2)) 16) 3⟩:=⟨_,rfl⟩;obtain ⟨K2,hK2⟩:=r10_Admit_ev hm.right (rd_T79 l1 j).f0 v;dsimp only at hK2
  have main: ∀r,Ev (fun k=>law12_Make.l0 k ns (if (admR l1 (rd_T79 l1 j).f0 v).2=0 then (admR l1 (rd_T79 l1 j).f0 v).1 else l1) (i+3)) r→Ev (fun k=>law12_Make.j3 k ns l i p) r:=by
    rintro r ⟨K3,hK3⟩;refine ⟨K+K2+K3+1,fun k hk=> ?_⟩;dsimp only at hK3;obtain ⟨k,rfl⟩: ∃m,k=m+1:=⟨k - 1,by omega⟩;simp only [law12_Make.j3];rw [hw1,hw2,hw3,hnm,hlim,hr2,if_pos (by omega),if_pos (by omega)];rw [show strOfNums [c]=one c from rfl,hK k (by omega)];simp only [Option.bind_some];rw [if_pos hE,if_pos (by omega),if_pos (by omega),e1,if_neg (by omega),hw4,hJ,if_pos hq.1,if_pos hq.2];have:=hK2 k (by omega)
    rw [hv'] at this;rw [this];simp only [Option.bind_some];rw [←hv'];have:=hK3 k (by omega)
    by_cases q:(admR l1 (rd_T79 l1 j).f0 v).2=0
    · rw [if_pos q] at this ⊢;exact this
    rw [if_neg q] at this ⊢;exact this
  by_cases q:(admR l1 (rd_T79 l1 j).f0 v).2=0;rotate_left
  · rw [if_neg q] at main
    obtain ⟨r,hr,hM⟩:=ih _ hm
    exact ⟨r,main r hr,hM⟩
  rw [if_pos q] at main;obtain ⟨e2,hR2, -⟩:=admR_right hm.right q;rw [e2] at main;obtain ⟨r,hr,hM⟩:=ih _ (made_adm hm hR2);exact ⟨r,main r hr,hM⟩
theorem made_step {ns:List Int} (hb:Bytes ns) (hs:ns.length≤1000) {i:Int} (h0:0≤i) (h2:i+2<ns.length) (ih:MakesFrom ns (i+3)):MakesFrom ns i:=by
  intro l h;have hw2:wrap64 (i+2)=i+2:=w64 (by omega) (by omega);have b0:=hb.rd i;have hr0:wrap64 (rd ns i)=rd ns i:=w64 (by omega) (by omega);by_cases hl:l.length<24;rotate_left
  · refine ⟨l, Ev.step (f := fun k => law12_Make.j1 k ns l i false) (fun k => ?_) (Ev.step (f := fun _ => some l) (fun k => ?_) (Ev.now _)), h⟩
    · simp only [law12_Make.l0]
      rw [hw2,if_pos (by omega),show decide ((l.length:Int)<24)=false from decide_eq_false (by omega)]
    simp only [law12_Make.j1,Bool.false_eq_true,if_false]
  have h3:=made_j3 hb hs h0 h2 ih h hl
  have hj2: ∀b,(b=true→0<l.length)→ ∃r,Ev (fun k=>law12_Make.j2 k ns l i (rd ns i) ⟨#[]⟩ b) r∧MadeP r:=by
    intro b hbl
    cases b with
    | false =>
      obtain ⟨r,hr,hM⟩:=h3 ⟨#[]⟩;refine ⟨r,Ev.step (fun k=> ?_) hr,hM⟩;simp only [law12_Make.j2,Bool.false_eq_true,if_false]
    | true =>
      have hpos:=hbl rfl;have hd:=tdiv_in (a:=rd ns i) (b:=3) (by omega) (by omega);have hw:wrap64 (Int.tdiv (rd ns i) 3)=Int.tdiv (rd ns i) 3:=w64 (by omega) (by omega);have hq:=tmod_in (a:=Int.tdiv (rd ns i) 3) (b:=(l.length:Int)) hd.1 (by omega);obtain ⟨r,hr,hM⟩:=h3 (rd_T79 l (Int.tmod (Int.tdiv (rd ns i) 3) (l.length:Int))).f0;refine ⟨r,Ev.step (fun k=> ?_) hr,hM⟩;simp only [law12_Make.j2,if_true];rw [hw,if_neg (by omega),if_pos hq.1,if_pos hq.2]
  have hj1: ∃r,Ev (fun k=>law12_Make.j1 k ns l i true) r∧MadeP r:=by
    by_cases hpos:0<l.length
    · obtain ⟨r, hr, hM⟩ := hj2 (decide ((Int.tmod (rd ns i) 3) > 0)) (fun _ => hpos)
      refine ⟨r,Ev.step (fun k=> ?_) hr,hM⟩
      simp only [law12_Make.j1,if_true]
      rw [if_pos (by omega),if_pos (by omega),if_pos (by omega),hr0]
    obtain ⟨r,hr,hM⟩:=hj2 false (fun q=>by cases q);refine ⟨r,Ev.step (fun k=> ?_) hr,hM⟩;simp only [law12_Make.j1,if_true];rw [if_pos (by omega),if_pos (by omega),if_neg (by omega),hr0]
  obtain ⟨r,hr,hM⟩:=hj1;refine ⟨r,Ev.step (fun k=> ?_) hr,hM⟩;simp only [law12_Make.l0];rw [hw2,if_pos (by omega),show decide ((l.length:Int)<24)=true from decide_eq_true (by omega)]
theorem made_from {ns:List Int} (hb:Bytes ns) (hs:ns.length≤1000): ∀(d:Nat) (i:Int),0≤i→i≤1003→(ns.length:Int) - i≤d→MakesFrom ns i
  | d, i, h0, h1, hd => by
    by_cases h2:i+2<ns.length
    · cases d with
      |zero=>omega
      |succ d=>exact made_step hb hs h0 h2 (made_from hb hs d (i+3) (by omega) (by omega) (by omega))
    intro l h;have hw2:wrap64 (i+2)=i+2:=w64 (by omega) (by omega);refine ⟨l,Ev.step (f:=fun k=>law12_Make.j1 k ns l i false) (fun k=> ?_) (Ev.step (f:=fun _=>some l) (fun k=> ?_) (Ev.now _)),h⟩
    · simp only [law12_Make.l0]
      rw [hw2,if_neg (by omega)]
    simp only [law12_Make.j1,Bool.false_eq_true,if_false]
theorem made_all {ns:List Int} (hb:Bytes ns) (hs:ns.length≤1000): ∃l,Ev (fun k=>law12_Make.f k ns) l∧MadeP l:=made_from hb hs ns.length 0 (by omega) (by omega) (by omega) [] made_nil
end Go.Proofs.Ytahidkjncljkaaa.Print

namespace Go.Proofs.Ytahidkjncljkaaa.Print
open Go.RowKit Go.Proofs.YtahidkjncljkaaaW.PrintWords Go.Proofs.YtahidkjncljkaaaW.PrintLast Go.Proofs.YtahidkjncljkaaaW.PrintMore
theorem tree_Up_l0 (l:List Item) (hl:l.length<1000000): ∀(m:Nat) (n:ByteArray) (out:List ByteArray),out.length+m=l.length+1→
    Ev (fun k=>tree_Up.l0 k l out (fnd l n)) (out++upGo l m n)
  | 0, n, out, hm => by
    rw [upGo.eq_1,List.append_nil]
    refine Ev.step (f:=fun _=>some out) (fun k=> ?_) (Ev.now _)
    simp only [tree_Up.l0]
    by_cases h:0≤fnd l n
    · rw [if_pos h,if_neg (by omega)]
    rw [if_neg h]
  | m + 1, n, out, hm => by
    cases h:look l n with
    | none =>
      rw [upGo_none h,List.append_nil]
      refine Ev.step (f:=fun _=>some out) (fun k=> ?_) (Ev.now _)
      simp only [tree_Up.l0]
      rw [fnd_none h,if_neg (by omega)]
    | some x =>
      rw [upGo_some h]
      have h0:=fnd_ge.2 ⟨x,h⟩
      have h1:=fnd_lt l n
      obtain ⟨hx,hn⟩:=look_mem h
      refine Ev.step (f:=fun k=>tree_Up.l0 k l (out++ [n]) (fnd l x.f1)) (fun k=> ?_) ?_
      · simp only [tree_Up.l0]
        rw [if_pos h0,if_pos (by omega),if_pos h0,if_pos h1,if_pos (by omega),fnd_rd h,hn,tree_Find_eq]
        rfl
      have:=tree_Up_l0 l hl m x.f1 (out++ [n]) (by simp;omega)
      simpa using this
theorem tree_Up_ev (l:List Item) (n:ByteArray) (hl:l.length<1000000):Ev (fun k=>tree_Up.f k l n) (up l n):=by
 have:=tree_Up_l0 l hl (l.length+1) n [] (by simp)
 rw [List.nil_append] at this;exact this
theorem sumBy_ge {g:Item→Int}: ∀{l:List Item},(∀x∈l,0≤g x)→ ∀{x:Item},x∈l→g x≤sumBy g l
  |[],_,_,h=>by cases h
  | y :: l, hn, x, hx => by
    rw [sumBy_cons];have h0:=hn y (by simp);have h1:=sumBy_nonneg (g:=g) (l:=l) (fun z hz=>hn z (by simp [hz]))
    rcases List.mem_cons.1 hx with rfl|hx
    · omega
    have:=sumBy_ge (g:=g) (l:=l) (fun z hz=>hn z (by simp [hz])) hx
    omega
theorem child_le {l:List Item} (hl:RightP l) {x y:Item} (hx:x∈l) (hy:look l x.f1=some y) (c:Comp):c.of x.f4≤c.of y.f4:=by
  obtain ⟨hy1,hy2⟩:=look_mem hy
  have h1:=hl.sum c y hy1
  have h2:=((hl.ok y hy1).own c).1
  have h3:c.of x.f4≤csum c l y.f0:=by
    have:=sumBy_ge (g:=fun z=>if z.f1=y.f0 then c.of z.f4 else 0) (l:=l) (fun z hz=>by
      show 0≤(if z.f1=y.f0 then c.of z.f4 else 0)
      split
      · exact ((hl.ok z hz).sub c).1
      omega) hx
    rw [if_pos hy2.symm] at this
    exact this
  omega
theorem sub_up' {l:List Item} (hl:RightP l) (c:Comp) {n:ByteArray} {us:List ByteArray} (h:Chain l n us): ∀{x:Item},look l n=some x→ ∀{z:Item},z∈l→z.f0∈us→c.of x.f4≤c.of z.f4:=by
  induction h with
  |nil h=>intro x _ z _ hz;cases hz
  | @cons n x us h k ih =>
    intro x' hx' z hz hm;rw [h] at hx';obtain rfl:=Option.some.inj hx';obtain ⟨hx,hn⟩:=look_mem h
    rcases List.mem_cons.1 hm with e|hm
    · obtain rfl := hl.eq_of hz hx (e.trans hn.symm)
      omega
    cases k with
    |nil _=>cases hm
    | @cons _ y _ hy k =>
      have h1:=child_le hl hx hy c;have h2:=ih hy hz hm
      omega
theorem sub_up {l:List Item} (hl:RightP l) {x z:Item} (hx:x∈l) (hz:z∈l) (hm:z.f0∈up l x.f0) (c:Comp):c.of x.f4≤c.of z.f4:=sub_up' hl c (hl.chainAll x.f0) (hl.look hx) hz hm
def hasStr (l:List ByteArray) (s:ByteArray):Bool:=l.any (fun x=>decide (s.toList=x.toList))
theorem index_some (l:List ByteArray) (s:ByteArray) (hl:l.length<1000000000): ∀(d i:Nat),l.length - i=d→i≤l.length→ ∃r,slices_Index_string_string.l0 (d+1) l s l.length i=some r∧decide (r≥0)=hasStr (l.drop i) s
  | 0, i, hd, hi => by
    obtain rfl:i=l.length:=by omega
    refine ⟨-1, ?_,by rw [List.drop_length];rfl⟩;simp only [slices_Index_string_string.l0];rw [if_neg (by omega)]
  | d + 1, i, hd, hi => by
    have hlt:i<l.length:=by omega
    have hrd:rdOf ByteArray.empty l (i:Int)=l[i]:=by simp [rdOf,hlt]
    rw [List.drop_eq_getElem_cons hlt];obtain ⟨r,h1,h2⟩:=index_some l s hl d (i+1) (by omega) (by omega);rw [slices_Index_string_string.l0,if_pos (by omega),if_pos (by omega),if_pos (by omega),hrd];by_cases e:s.toList=l[i].toList
    · refine ⟨i, if_pos e, ?_⟩
      unfold hasStr
      rw [List.any_cons,decide_eq_true e]
      simp
    refine ⟨r, ?_, ?_⟩
    · rw [if_neg e,show wrap64 ((i:Int)+1)=((i+1:Nat):Int) from by unfold wrap64;omega];exact h1
    rw [h2];unfold hasStr;rw [List.any_cons,decide_eq_false e,Bool.false_or]
theorem hasStr_cons (x:ByteArray) (l:List ByteArray) (s:ByteArray):hasStr (x::l) s=(decide (s.toList=x.toList)||hasStr l s):=by unfold hasStr;rw [List.any_cons]
theorem r10_in_l0 (l:List ByteArray) (s:ByteArray) (hl:l.length<1000000): ∀(d i:Nat),l.length - i=d→i≤l.length→Ev (fun k=>r10_in.l0 k l s i) (hasStr (l.drop i) s)
  | 0, i, hd, hi => by
    obtain rfl:i=l.length:=by omega
    rw [List.drop_length];refine Ev.step (f:=fun _=>some false) (fun k=> ?_) (Ev.now _);simp only [r10_in.l0];rw [if_neg (by omega)]
  | d + 1, i, hd, hi => by
    have hlt:i<l.length:=by omega
    have hrd:rdOf ByteArray.empty l (i:Int)=l[i]:=by simp [rdOf,hlt]
    rw [List.drop_eq_getElem_cons hlt,hasStr_cons];by_cases e:l[i].toList=s.toList
    · rw [decide_eq_true e.symm, Bool.true_or]
      refine Ev.step (f:=fun _=>some true) (fun k=> ?_) (Ev.now _)
      simp only [r10_in.l0]
      rw [if_pos (by omega),if_pos (by omega),hrd,if_pos e]
    rw [decide_eq_false (fun q=>e q.symm),Bool.false_or];refine Ev.step (f:=fun k=>r10_in.l0 k l s ((i+1:Nat):Int)) (fun k=> ?_) (r10_in_l0 l s hl d (i+1) (by omega) (by omega));simp only [r10_in.l0];rw [if_pos (by omega),if_pos (by omega),hrd,if_neg e,w64 (by omega) (by omega)]
    rfl
theorem r10_in_ev (l:List ByteArray) (s:ByteArray) (hl:l.length<1000000):Ev (fun k=>r10_in.f k l s) (hasStr l s):=r10_in_l0 l s hl _ 0 rfl (by omega)
theorem up_cons {l:List Item} (hl:RightP l) {x:Item} (hx:x∈l):up l x.f0=x.f0::up l x.f1:=(Chain.cons (hl.look hx) (hl.chainAll x.f1)).up
theorem sumBy_filter (g:Item→Int) (p:Item→Bool): ∀l:List Item,sumBy g (l.filter p)=sumBy (fun x=>if p x=true then g x else 0) l
  |[]=>rfl
  | x :: l => by
    rw [sumBy_cons];by_cases h:p x=true
    · rw [List.filter_cons_of_pos h,sumBy_cons,sumBy_filter g p l,if_pos h]
    rw [List.filter_cons_of_neg h,sumBy_filter g p l,if_neg h];omega
theorem below_l0 (l:List Item) (n:ByteArray) (hl:l.length<1000000): ∀(d i:Nat) (acc:List ByteArray),l.length - i=d→i≤l.length→acc.length≤i→Ev (fun k=>r10_Below.l0 k l n acc i) (acc++((l.drop i).filter (fun x=>decide (x.f1=n))).map (·.f0))
  | 0, i, acc, hd, hi, ha => by
    obtain rfl:i=l.length:=by omega
    rw [List.drop_length];refine Ev.step (f:=fun _=>some acc) (fun k=> ?_) (by rw [show acc++(([]:List Item).filter (fun x=>decide (x.f1=n))).map (·.f0)=acc from List.append_nil _];exact Ev.now _);rw [r10_Below.l0,if_neg (by omega)]
  | d + 1, i, acc, hd, hi, ha => by
    have hlt:i<l.length:=by omega
    have hrd:rd_T79 l (i:Int)=l[i]:=by rw [rd_item,Int.toNat_natCast];simp [hlt]
    rw [List.drop_eq_getElem_cons hlt];generalize l[i]=x at*;by_cases h:x.f1=n;rotate_left
    · rw [List.filter_cons_of_neg (by simpa using h)]
      refine Ev.step (f:=fun k=>r10_Below.l0 k l n acc ((i+1:Nat):Int)) (fun k=> ?_) (below_l0 l n hl d (i+1) acc (by omega) (by omega) (by omega))
      rw [r10_Below.l0,if_pos (by omega),if_pos (by omega),hrd,if_neg (fun q=>h (nm_inj.1 q)),w64 (by omega) (by omega)]
      rfl
    rw [List.filter_cons_of_pos (by exact decide_eq_true h)];refine Ev.step (f:=fun k=>r10_Below.l0 k l n (acc++ [x.f0]) ((i+1:Nat):Int)) (fun k=> ?_) ?_
    · rw [r10_Below.l0, if_pos (by omega), if_pos (by omega), hrd, if_pos (nm_inj.2 h), if_pos (by omega), w64 (by omega) (by omega)]
      rfl
    have:=below_l0 l n hl d (i+1) (acc++ [x.f0]) (by omega) (by omega) (by simp;omega)
    rw [List.append_assoc] at this;exact this
def kids (l:List Item) (n:ByteArray):List ByteArray:=(l.filter (fun x=>decide (x.f1=n))).map (·.f0)
theorem below_ev (l:List Item) (n:ByteArray) (hl:l.length<1000000):Ev (fun k=>r10_Below.f k l n) (kids l n):=by
 have h:=below_l0 l n hl _ 0 [] rfl (by omega) (by simp);rw [List.drop_zero,List.nil_append] at h;exact h
theorem kids_mem {l:List Item} {n s:ByteArray}:s∈kids l n↔ ∃y∈l,y.f1=n∧y.f0=s:=by
  unfold kids;simp only [List.mem_map,List.mem_filter,decide_eq_true_eq]
  constructor
  · rintro ⟨y,⟨h1,h2⟩,h3⟩;exact ⟨y,h1,h2,h3⟩
  rintro ⟨y,h1,h2,h3⟩;exact ⟨y,⟨h1,h2⟩,h3⟩
end Go.Proofs.Ytahidkjncljkaaa.Print

namespace Go.Proofs.Ytahidkjncljkaaa.Print
open Go.RowKit Go.Proofs.YtahidkjncljkaaaW.PrintWords Go.Proofs.YtahidkjncljkaaaW.PrintLast Go.Proofs.YtahidkjncljkaaaW.PrintMore
attribute [local go_sem] max2_int min2_int max_two min_two max_three min_three max_four min_four

attribute [local go_sem high] eqA37
end Go.Proofs.Ytahidkjncljkaaa.Print

namespace Go.Proofs.Ytahidkjncljkaaa.Print
open Go.RowKit Go.Proofs.YtahidkjncljkaaaW.PrintWords Go.Proofs.YtahidkjncljkaaaW.PrintLast Go.Proofs.YtahidkjncljkaaaW.PrintMore
end Go.Proofs.Ytahidkjncljkaaa.Print

namespace Go.Proofs.Ytahidkjncljkaaa.Print
open Go.RowKit Go.Proofs.YtahidkjncljkaaaW.PrintWords Go.Proofs.YtahidkjncljkaaaW.PrintLast Go.Proofs.YtahidkjncljkaaaW.PrintMore
attribute [local go_sem] max2_int min2_int max_two min_two max_three min_three max_four min_four

end Go.Proofs.Ytahidkjncljkaaa.Print
