/- PlanOrder: a part -/
import Derived.WalkSpells
import Derived.Laws.Cover1
import Derived.Shelf.Abstract
import Derived.Lib.SliceRun
import Derived.Lib.JoinLaws
import Derived.Lib.AppendZerosOnto
import Derived.Lib.Overlaps
import Derived.Laws.Externs
import Derived.Laws.IdiomCopy
import Derived.Laws.NewBlocks
import Derived.Deep.RegionLaw
import Derived.Shelf.RegionOpenPlain
import Derived.Test.YtahidkjncljkaaaRows
import Derived.WalkKit
import Derived.ProofKit
import Derived.OpenShut
import Derived.JoinedOf
import Derived.SizedLaws
import Derived.ChangeSlices
import Derived.Test.YtahidkjncljkaaaBPlanOrder0
import Derived.Test.YtahidkjncljkaaaBPlanOrder1
import Derived.Test.YtahidkjncljkaaaBPlanOrder3
import Derived.Test.YtahidkjncljkaaaBPlanOrder4
import Derived.Test.YtahidkjncljkaaaBPlanOrder5
set_option linter.unusedVariables false
set_option linter.unusedSimpArgs false
namespace Go.Proofs.Ytahidkjncljkaaa.Print
open Go.RowKit Go.Proofs.YtahidkjncljkaaaW.PrintWords Go.Proofs.YtahidkjncljkaaaW.PrintLast Go.Proofs.YtahidkjncljkaaaW.PrintMore
attribute [local go_sem] max2_int min2_int max_two min_two max_three min_three max_four min_four

def law18_Live.l0:Nat→Int→List (S79)→List (S84)→Int→Option ((List (S84))×(List (S79)))
 |0,_,_,_,_=>none
 |k+1,x1,x6,x7,x8=>if x8<(x6.length:Int) then (if (Int.tmod (wrap64 (x8+(wrap64 (x1)))) 4)>0 then (if 0≤x8 then (if x7.length<2199023255552 then (law18_Live.l0 k x1 x6 (x7++ [(⟨(rd_T79 x6 x8).f0,(rd_T79 x6 x8).f1,(⟨(rd_T79 x6 x8).f2.f0,(rd_T79 x6 x8).f2.f1,(rd_T79 x6 x8).f2.f2⟩:S37),(rd_T79 x6 x8).f5⟩:S84)]) (wrap64 (x8+1))) else (none)) else (none)) else (law18_Live.l0 k x1 x6 x7 (wrap64 (x8+1)))) else (if (Int.tmod x1 5)=0 then (if x7.length<2199023255552 then (some ((x7++ [(⟨(⟨#[122,122]⟩:ByteArray),(⟨#[]⟩:ByteArray),(⟨0,0,0⟩:S37),1⟩:S84)]),x6)) else (none)) else (some (x7,x6)))
def law18_Live.f (k:Nat) (l0:List Int) (a1:Int):Option ((List (S84))×(List (S79))):=(law12_Make.f k l0).bind fun t1=>(law18_Live.l0 k a1 t1 ([]:List (S84)) 0)
theorem law18_Live.mono_l: ∀k,(∀y0 y1 y2 y3,LeO (law18_Live.l0 k y0 y1 y2 y3) (law18_Live.l0 (k+1) y0 y1 y2 y3))
 |0=>fun _ _ _ _ r h=>by simp [law18_Live.l0] at h
 |k+1=>by
  have ih0:=law18_Live.mono_l k
  intro y0 y1 y2 y3
  unfold law18_Live.l0
  repeat' first
  |(with_reducible exact ih0 _ _ _ _)
  |(with_reducible exact law12_Make.mono _ _)
  |(with_reducible exact LeO.refl _)
  |(with_reducible exact LeO.none _)
  |(with_reducible refine LeO.ite ?_ ?_)
  |(with_reducible refine LeO.bind ?_ (fun _=> ?_))
  |exact ih0 _ _ _ _
  |exact law12_Make.mono _ _
  |exact LeO.none _
  |refine LeO.ite ?_ ?_
  |refine LeO.bind ?_ (fun _=> ?_)
theorem law18_Live.mono: ∀a0 a1 k,LeO (law18_Live.f k a0 a1) (law18_Live.f (k+1) a0 a1):=by
 intro a0 a1 k
 have ih0:=law18_Live.mono_l k
 unfold law18_Live.f
 repeat' first
  |(with_reducible exact ih0 _ _ _ _)
  |(with_reducible exact law12_Make.mono _ _)
  |(with_reducible exact LeO.refl _)
  |(with_reducible exact LeO.none _)
  |(with_reducible refine LeO.ite ?_ ?_)
  |(with_reducible refine LeO.bind ?_ (fun _=> ?_))
  |exact ih0 _ _ _ _
  |exact law12_Make.mono _ _
  |exact LeO.none _
  |refine LeO.ite ?_ ?_
  |refine LeO.bind ?_ (fun _=> ?_)
def law18_Live.T7:Bool×List (List Nat×List Nat):=(true,[([],[]),([],[]),([],[]),([1,2],[1,2]),([3],[3]),([4],[4]),([],[]),([],[]),([6,7],[6,7]),([8],[8]),([9],[9]),([],[]),([],[]),([11,12],[11,12]),([13],[13]),([14],[14]),([],[]),([],[]),([16,17],[16,17]),([18],[18]),([19],[19]),([5,10,15,20],[5,10,15,20]),([21],[21]),([0,22],[0,22]),([23,23,0,1,2,3,4,5,6,7,8,9,10,11,12,13,14,15,16,17,18,19,20,21,22,23],[0,23])])
def law18_Live.B7:List Nat:=[0,0,0,6,14,30,0,0,192,448,960,0,0,6144,14336,30720,0,0,196608,458752,983040,2097150,4194302,8388607,16777215]
theorem law18_Live.tab7:rtab .any (opsOf Try.f50 7)=law18_Live.T7:=by kernel_rfl
theorem law18_Live.bits7:waitsOk law18_Live.T7.2 law18_Live.B7=true:=by kernel_rfl
set_option maxHeartbeats 8000000 in
set_option maxRecDepth 100000 in
theorem law18_Live.calls (k:Nat) (A0:Option Addr) (c0:Nat) (l0:List Int) (a1:Int) (r1:List (S84)) (r2:List (S79)) (w:World) (hr0:Kd.C (Kd.int .u8) w A0 l0.length l0) (hc0:l0.length≤c0) (h:law18_Live.f k l0 a1=some (r1,r2)):
  Calls Try.prog 50 #[.slice A0 l0.length c0, .int .u8 a1] w fun e w'=> ∃v0_ v1_:Value,e= .returned (.tuple #[v0_,v1_])∧Kd.R k84 84 w' w.heap.size (fun _=>True) v0_ r1∧Kd.R k79 79 w' w.heap.size (fun _=>True) v1_ r2∧Below w.heap.size w w':=by
 have hu37:=Try.underlying37
 have hu84:=Try.underlying84
 have HR0:=Aside0.mk hr0
 have HC0:=Aside0.mk hc0
 clear hr0 hc0
 have HB:=am_ (Below.refl w.heap.size w)
 have H:((law12_Make.f k l0).bind fun t1=>(law18_Live.l0 k a1 t1 ([]:List (S84)) 0))=some (r1,r2):=h
 clear h
 replace H:=Option.bind_eq_some_iff.mp H
 obtain ⟨t1,A30,H⟩:=H
 try dsimp only at H
 have A3:=Aside0.mk A30
 clear A30
 have H':=Aside0.mk H
 clear H
 go_enter Try.func50,Try.ntmps50
 go_wp2_with (first|((with_reducible refine gate_callee (f:=38) rfl ?_);refine gl_ (some 10) Try.func38 #[.slice A0 l0.length c0] ?_;(with_reducible refine (law12_Make.calls k _ _ l0 t1 _ ?side1 ?side2 A3.out).mono ?_);(case side1=>repeat (first|exact HR0.out|(with_reducible refine Kd.C_alloc ?_ _)|(with_reducible refine Kd.C_drewN ?_ _)|(with_reducible refine Kd.C_drew ?_)));(case side2=>exact HC0.out);rintro e w4 ⟨v2,rfl,ho0,hb⟩;refine ⟨_,rfl, ?_⟩;have HO3:=am_ (Kd.R_lower ho0 (below_size (zl0_ HB)));replace HB:=am_ (below_step (zl0_ HB) hb);(try clear hb);(try clear hb2);(try clear hk);(try clear hi);(try clear ho0)))
 go_loopg [7,8] k (fun kq v7 v8 w'=> ∃(x7_1:List (S84)) (x8_1:Int),v8= .int .i64 x8_1∧Aside0 (law18_Live.l0 kq a1 t1 x7_1 x8_1=some (r1,r2))∧Aside0 (kq≤k)∧Aside0 (Kd.R k79 79 w' w.heap.size (fun _=>True) v2 t1)∧Aside0 (Kd.R k84 84 w' w.heap.size (fun _=>True) v7 x7_1)∧Aside0 (Below w.heap.size w w'))
 case atStart=>exact ⟨(([]:List (S84))),(0),(by first|rfl|(simp;done)|(simp [*];done)),H',⟨Nat.le_refl _⟩,⟨by (with_reducible repeat (first|apply Kd.R_alloc|apply Kd.R_drewN|apply Kd.R_drew));exact HO3.out⟩,⟨by first|exact Kd.R_nil _ _ _ _ _|exact Kd.N_nil _ _ _ _ _|exact Kd.V_nil _ _ _ _ _|exact Kd.Q_nil _ _ _ _ _|exact Kd.S_nil _ _ _ _ _⟩,⟨zl0_ HB⟩⟩
 case round=>
  clear H'
  try clear p2
  try clear c3
  obtain ⟨x7_1,x8_1,rfl,HA,HK1,HO_6,HO_7,HB⟩:=hrel
  cases gk with
  |zero=>exact absurd HA.out (by simp [law18_Live.l0])
  |succ k1=>
   have H:=HA.out
   clear HA
   simp only [law18_Live.l0] at H
   by_cases c5:x8_1<(t1.length:Int)
   rotate_left
   ·rw [if_neg c5] at H
    have c5b0:decide (x8_1<(t1.length:Int))=false:=decide_eq_false c5
    clear c5
    by_cases c13:(Int.tmod a1 5)=0
    rotate_left
    ·rw [if_neg c13] at H
     have c13b0:((Int.tmod a1 5)==0)=false:=beq_eq_false_iff_ne.mpr c13
     have c13b1:((Int.tmod a1 5) !=0)=true:=bne_iff_ne.mpr c13
     simp only [Option.some.injEq,Prod.mk.injEq] at H
     obtain ⟨rfl,rfl⟩:=H
     obtain ⟨Ao17,co17,eo17⟩:=Kd.R_slice HO_6.out
     subst eo17
     go_wp2
     go_ret2
     exact ⟨_,_,by first|rfl|(simp [errW_none,errW_some]<;>rfl)|(simp [*,errW_none,errW_some]<;>rfl),by (with_reducible repeat (first|apply Kd.R_alloc|apply Kd.R_drewN|apply Kd.R_drew));exact HO_7.out,by (with_reducible repeat (first|apply Kd.R_alloc|apply Kd.R_drewN|apply Kd.R_drew));exact HO_6.out,zl0_ HB⟩

    rw [if_pos c13] at H
    have c13b0:((Int.tmod a1 5)==0)=true:=beq_iff_eq.mpr c13
    have c13b1:((Int.tmod a1 5) !=0)=false:=bne_eq_false_iff_eq.mpr c13
    clear c13
    by_cases c14:x7_1.length<2199023255552
    rotate_left
    ·rw [if_neg c14] at H
     exact absurd H (by simp)
    rw [if_pos c14] at H
    have LMc14:=Aside0.mk c14
    clear c14
    obtain ⟨y11,hy11⟩: ∃y_:List (S84),y_=(x7_1++ [(⟨(⟨#[122,122]⟩:ByteArray),(⟨#[]⟩:ByteArray),(⟨0,0,0⟩:S37),1⟩:S84)]):=⟨_,rfl⟩
    replace H:(some (y11,t1))=some (r1,r2):=by first|(rw [hy11];with_reducible exact H)|(have H2_:=(Option.bind_some _ _).symm.trans H;rw [hy11];with_reducible exact H2_)|(have H2_:=(Option.bind_some _ _).symm.trans H;with_reducible exact H2_)|with_reducible exact H|(rw [hy11];exact H)|exact H
    have Ny11:=Aside0.mk hy11
    clear hy11
    simp only [Option.some.injEq,Prod.mk.injEq] at H
    obtain ⟨rfl,rfl⟩:=H
    obtain ⟨Ao15,co15,eo15⟩:=Kd.R_slice HO_6.out
    subst eo15
    go_wp2_with (first|((with_reducible refine gate_builtin (b:= .append) (xs:=#[.tmp 50, .tmp 52]) rfl ?_);at_builtin;refine Kd.R_append k84 (w0:=w) w.heap.size rfl (.tmp 50) (.tmp 52) 53 84 (.agg #[(.string ⟨#[]⟩),(.string ⟨#[]⟩),(.int .i64 0),(.int .i64 0),(.int .i64 0),(.int .i64 0)]) 64 rfl Try.underlying53 info84 rfl (by decide) (by omega) u7 x7_1 (⟨(⟨#[122,122]⟩:ByteArray),(⟨#[]⟩:ByteArray),(⟨0,0,0⟩:S37),1⟩:S84) [.string (⟨#[122,122]⟩:ByteArray), .string (⟨#[]⟩:ByteArray), .int .i64 0, .int .i64 0, .int .i64 0, .int .i64 1] (fun _=>True) (fun _=>False) rfl rfl ?aP (fun _ hk=>hk.elim) ?aF ?aO ?aB ?aS ?aL ?_;(case aP=>exact k84_mkM _ _ _ (⟨(⟨#[122,122]⟩:ByteArray),(⟨#[]⟩:ByteArray),(⟨0,0,0⟩:S37),1⟩:S84));(case aB=>exact (zl0_ HB));(case aF=>exact (fun _ _=>trivial));(case aO=>exact (zr_ HO_7));(case aS=>exact (below_size (zl0_ HB)));(case aL=>have:=LMc14.out;omega);intro v12 w16 ho hb hg hat;rw [←Ny11.out] at ho;have n0_:=am_ (Kd.R_over' (zr_ HO_6) (Kd.R_typed (zr_ HO_7)) (by decide) hg);have n1_:=am_ (hb);have n2_:=am_ (ho);clear HO_6;clear HB;clear HO_7;have HO_6:=n0_;have HB:=n1_;have HO13:=n2_;clear n0_ n1_ n2_;clear ho hb hg hat))
    go_ret2
    exact ⟨_,_,by first|rfl|(simp [errW_none,errW_some]<;>rfl)|(simp [*,errW_none,errW_some]<;>rfl),by (with_reducible repeat (first|apply Kd.R_alloc|apply Kd.R_drewN|apply Kd.R_drew));exact HO13.out,by (with_reducible repeat (first|apply Kd.R_alloc|apply Kd.R_drewN|apply Kd.R_drew));exact HO_6.out,zl0_ HB⟩
   rw [if_pos c5] at H
   have c5b0:decide (x8_1<(t1.length:Int))=true:=decide_eq_true c5
   clear c5
   by_cases c6:(Int.tmod (wrap64 (x8_1+(wrap64 (a1)))) 4)>0
   rotate_left
   ·rw [if_neg c6] at H
    have c6b0:decide (0<(Int.tmod (wrap64 (x8_1+(wrap64 (a1)))) 4))=false:=decide_eq_false c6
    clear c6
    have H':=Aside0.mk H
    clear H
    obtain ⟨Ao12,co12,eo12⟩:=Kd.R_slice HO_6.out
    subst eo12
    go_wp2
    go_roundg k1
    case measure=>have:=HK1.out;omega
    case rel=>exact ⟨(x7_1),(wrap64 (x8_1+1)),(by first|rfl|(simp;done)|(simp [*];done)),H',⟨by have:=HK1.out;omega⟩,⟨by (with_reducible repeat (first|apply Kd.R_alloc|apply Kd.R_drewN|apply Kd.R_drew));exact HO_6.out⟩,⟨by (with_reducible repeat (first|apply Kd.R_alloc|apply Kd.R_drewN|apply Kd.R_drew));exact HO_7.out⟩,⟨zl0_ HB⟩⟩
   rw [if_pos c6] at H
   have c6b0:decide (0<(Int.tmod (wrap64 (x8_1+(wrap64 (a1)))) 4))=true:=decide_eq_true c6
   clear c6
   by_cases c7:0≤x8_1
   rotate_left
   ·rw [if_neg c7] at H
    exact absurd H (by simp)
   rw [if_pos c7] at H
   have c7b0:decide (0≤x8_1)=true:=decide_eq_true c7
   clear c7
   by_cases c8:x7_1.length<2199023255552
   rotate_left
   ·rw [if_neg c8] at H
    exact absurd H (by simp)
   rw [if_pos c8] at H
   have LMc8:=Aside0.mk c8
   clear c8
   obtain ⟨y8,hy8⟩: ∃y_:List (S84),y_=(x7_1++ [(⟨(rd_T79 t1 x8_1).f0,(rd_T79 t1 x8_1).f1,(⟨(rd_T79 t1 x8_1).f2.f0,(rd_T79 t1 x8_1).f2.f1,(rd_T79 t1 x8_1).f2.f2⟩:S37),(rd_T79 t1 x8_1).f5⟩:S84)]):=⟨_,rfl⟩
   replace H:(law18_Live.l0 k1 a1 t1 y8 (wrap64 (x8_1+1)))=some (r1,r2):=by first|(rw [hy8];with_reducible exact H)|(have H2_:=(Option.bind_some _ _).symm.trans H;rw [hy8];with_reducible exact H2_)|(have H2_:=(Option.bind_some _ _).symm.trans H;with_reducible exact H2_)|with_reducible exact H|(rw [hy8];exact H)|exact H
   have Ny8:=Aside0.mk hy8
   clear hy8
   have H':=Aside0.mk H
   clear H
   obtain ⟨Ao9,co9,eo9⟩:=Kd.R_slice HO_6.out
   subst eo9
   try go_wp2
   replace HO_6:=am_ (Kd.R_drew HO_6.out)
   replace HO_7:=am_ (Kd.R_drew HO_7.out)
   replace HB:=am_ (below_drew1 HB.out)
   have p4:0≤(x8_1:Int):=of_decide_eq_true zq_
   have q4:x8_1<(t1.length:Int):=of_decide_eq_true zq_
   obtain ⟨ad4,e4,hx4_0,hx4_1,hx4_2,hx4_3,hx4_4,hx4_5,hx4_6,hx4_7,hx4_8,hx4_9,hx4_10,hx4_11⟩:=at_T79 (Kd.R_reads' HO_6.out).2.2 x8_1 p4 q4
   cases e4
   replace p4:=eq_true p4
   replace q4:=eq_true q4
   have p5:0≤(x8_1:Int):=of_decide_eq_true zq_
   have q5:x8_1<(t1.length:Int):=of_decide_eq_true zq_
   obtain ⟨ad5,e5,hx5_0,hx5_1,hx5_2,hx5_3,hx5_4,hx5_5,hx5_6,hx5_7,hx5_8,hx5_9,hx5_10,hx5_11⟩:=at_T79 (Kd.R_reads' HO_6.out).2.2 x8_1 p5 q5
   obtain rfl:ad4=ad5:=(by injection e5)
   replace p5:=eq_true p5
   replace q5:=eq_true q5
   have p6:0≤(x8_1:Int):=of_decide_eq_true zq_
   have q6:x8_1<(t1.length:Int):=of_decide_eq_true zq_
   obtain ⟨ad6,e6,hx6_0,hx6_1,hx6_2,hx6_3,hx6_4,hx6_5,hx6_6,hx6_7,hx6_8,hx6_9,hx6_10,hx6_11⟩:=at_T79 (Kd.R_reads' HO_6.out).2.2 x8_1 p6 q6
   obtain rfl:ad4=ad6:=(by injection e6)
   replace p6:=eq_true p6
   replace q6:=eq_true q6
   have p7:0≤(x8_1:Int):=of_decide_eq_true zq_
   have q7:x8_1<(t1.length:Int):=of_decide_eq_true zq_
   obtain ⟨ad7,e7,hx7_0,hx7_1,hx7_2,hx7_3,hx7_4,hx7_5,hx7_6,hx7_7,hx7_8,hx7_9,hx7_10,hx7_11⟩:=at_T79 (Kd.R_reads' HO_6.out).2.2 x8_1 p7 q7
   obtain rfl:ad4=ad7:=(by injection e7)
   replace p7:=eq_true p7
   replace q7:=eq_true q7
   refine start_ (n:=25) (S:=fun w'=>w'.cell? (ad4.add ((x8_1).toNat*12))=some (.string ((rd_T79 t1 x8_1).f0))∧w'.cell? ⟨(ad4.add ((x8_1).toNat*12)).block,(ad4.add ((x8_1).toNat*12)).off+1,none⟩=some (.string ((rd_T79 t1 x8_1).f1))∧w'.cell? ⟨(ad4.add ((x8_1).toNat*12)).block,(ad4.add ((x8_1).toNat*12)).off+2,none⟩=some (.int .i64 ((rd_T79 t1 x8_1).f2.f0))∧w'.cell? ⟨(ad4.add ((x8_1).toNat*12)).block,(ad4.add ((x8_1).toNat*12)).off+3,none⟩=some (.int .i64 ((rd_T79 t1 x8_1).f2.f1))∧w'.cell? ⟨(ad4.add ((x8_1).toNat*12)).block,(ad4.add ((x8_1).toNat*12)).off+4,none⟩=some (.int .i64 ((rd_T79 t1 x8_1).f2.f2))∧w'.cell? ⟨(ad4.add ((x8_1).toNat*12)).block,(ad4.add ((x8_1).toNat*12)).off+5,none⟩=some (.int .i64 ((rd_T79 t1 x8_1).f3.f0))∧w'.cell? ⟨(ad4.add ((x8_1).toNat*12)).block,(ad4.add ((x8_1).toNat*12)).off+6,none⟩=some (.int .i64 ((rd_T79 t1 x8_1).f3.f1))∧w'.cell? ⟨(ad4.add ((x8_1).toNat*12)).block,(ad4.add ((x8_1).toNat*12)).off+7,none⟩=some (.int .i64 ((rd_T79 t1 x8_1).f3.f2))∧w'.cell? ⟨(ad4.add ((x8_1).toNat*12)).block,(ad4.add ((x8_1).toNat*12)).off+8,none⟩=some (.int .i64 ((rd_T79 t1 x8_1).f4.f0))∧w'.cell? ⟨(ad4.add ((x8_1).toNat*12)).block,(ad4.add ((x8_1).toNat*12)).off+9,none⟩=some (.int .i64 ((rd_T79 t1 x8_1).f4.f1))∧w'.cell? ⟨(ad4.add ((x8_1).toNat*12)).block,(ad4.add ((x8_1).toNat*12)).off+10,none⟩=some (.int .i64 ((rd_T79 t1 x8_1).f4.f2))∧w'.cell? ⟨(ad4.add ((x8_1).toNat*12)).block,(ad4.add ((x8_1).toNat*12)).off+11,none⟩=some (.int .i64 ((rd_T79 t1 x8_1).f5))∧w'.cell? (ad4.add ((x8_1).toNat*12))=some (.string ((rd_T79 t1 x8_1).f0))∧w'.cell? ⟨(ad4.add ((x8_1).toNat*12)).block,(ad4.add ((x8_1).toNat*12)).off+1,none⟩=some (.string ((rd_T79 t1 x8_1).f1))∧w'.cell? ⟨(ad4.add ((x8_1).toNat*12)).block,(ad4.add ((x8_1).toNat*12)).off+2,none⟩=some (.int .i64 ((rd_T79 t1 x8_1).f2.f0))∧w'.cell? ⟨(ad4.add ((x8_1).toNat*12)).block,(ad4.add ((x8_1).toNat*12)).off+3,none⟩=some (.int .i64 ((rd_T79 t1 x8_1).f2.f1))∧w'.cell? ⟨(ad4.add ((x8_1).toNat*12)).block,(ad4.add ((x8_1).toNat*12)).off+4,none⟩=some (.int .i64 ((rd_T79 t1 x8_1).f2.f2))∧w'.cell? ⟨(ad4.add ((x8_1).toNat*12)).block,(ad4.add ((x8_1).toNat*12)).off+5,none⟩=some (.int .i64 ((rd_T79 t1 x8_1).f3.f0))∧w'.cell? ⟨(ad4.add ((x8_1).toNat*12)).block,(ad4.add ((x8_1).toNat*12)).off+6,none⟩=some (.int .i64 ((rd_T79 t1 x8_1).f3.f1))∧w'.cell? ⟨(ad4.add ((x8_1).toNat*12)).block,(ad4.add ((x8_1).toNat*12)).off+7,none⟩=some (.int .i64 ((rd_T79 t1 x8_1).f3.f2))∧w'.cell? ⟨(ad4.add ((x8_1).toNat*12)).block,(ad4.add ((x8_1).toNat*12)).off+8,none⟩=some (.int .i64 ((rd_T79 t1 x8_1).f4.f0))∧w'.cell? ⟨(ad4.add ((x8_1).toNat*12)).block,(ad4.add ((x8_1).toNat*12)).off+9,none⟩=some (.int .i64 ((rd_T79 t1 x8_1).f4.f1))∧w'.cell? ⟨(ad4.add ((x8_1).toNat*12)).block,(ad4.add ((x8_1).toNat*12)).off+10,none⟩=some (.int .i64 ((rd_T79 t1 x8_1).f4.f2))∧w'.cell? ⟨(ad4.add ((x8_1).toNat*12)).block,(ad4.add ((x8_1).toNat*12)).off+11,none⟩=some (.int .i64 ((rd_T79 t1 x8_1).f5))∧w'.cell? (ad4.add ((x8_1).toNat*12))=some (.string ((rd_T79 t1 x8_1).f0))∧w'.cell? ⟨(ad4.add ((x8_1).toNat*12)).block,(ad4.add ((x8_1).toNat*12)).off+1,none⟩=some (.string ((rd_T79 t1 x8_1).f1))∧w'.cell? ⟨(ad4.add ((x8_1).toNat*12)).block,(ad4.add ((x8_1).toNat*12)).off+2,none⟩=some (.int .i64 ((rd_T79 t1 x8_1).f2.f0))∧w'.cell? ⟨(ad4.add ((x8_1).toNat*12)).block,(ad4.add ((x8_1).toNat*12)).off+3,none⟩=some (.int .i64 ((rd_T79 t1 x8_1).f2.f1))∧w'.cell? ⟨(ad4.add ((x8_1).toNat*12)).block,(ad4.add ((x8_1).toNat*12)).off+4,none⟩=some (.int .i64 ((rd_T79 t1 x8_1).f2.f2))∧w'.cell? ⟨(ad4.add ((x8_1).toNat*12)).block,(ad4.add ((x8_1).toNat*12)).off+5,none⟩=some (.int .i64 ((rd_T79 t1 x8_1).f3.f0))∧w'.cell? ⟨(ad4.add ((x8_1).toNat*12)).block,(ad4.add ((x8_1).toNat*12)).off+6,none⟩=some (.int .i64 ((rd_T79 t1 x8_1).f3.f1))∧w'.cell? ⟨(ad4.add ((x8_1).toNat*12)).block,(ad4.add ((x8_1).toNat*12)).off+7,none⟩=some (.int .i64 ((rd_T79 t1 x8_1).f3.f2))∧w'.cell? ⟨(ad4.add ((x8_1).toNat*12)).block,(ad4.add ((x8_1).toNat*12)).off+8,none⟩=some (.int .i64 ((rd_T79 t1 x8_1).f4.f0))∧w'.cell? ⟨(ad4.add ((x8_1).toNat*12)).block,(ad4.add ((x8_1).toNat*12)).off+9,none⟩=some (.int .i64 ((rd_T79 t1 x8_1).f4.f1))∧w'.cell? ⟨(ad4.add ((x8_1).toNat*12)).block,(ad4.add ((x8_1).toNat*12)).off+10,none⟩=some (.int .i64 ((rd_T79 t1 x8_1).f4.f2))∧w'.cell? ⟨(ad4.add ((x8_1).toNat*12)).block,(ad4.add ((x8_1).toNat*12)).off+11,none⟩=some (.int .i64 ((rd_T79 t1 x8_1).f5))∧w'.cell? (ad4.add ((x8_1).toNat*12))=some (.string ((rd_T79 t1 x8_1).f0))∧w'.cell? ⟨(ad4.add ((x8_1).toNat*12)).block,(ad4.add ((x8_1).toNat*12)).off+1,none⟩=some (.string ((rd_T79 t1 x8_1).f1))∧w'.cell? ⟨(ad4.add ((x8_1).toNat*12)).block,(ad4.add ((x8_1).toNat*12)).off+2,none⟩=some (.int .i64 ((rd_T79 t1 x8_1).f2.f0))∧w'.cell? ⟨(ad4.add ((x8_1).toNat*12)).block,(ad4.add ((x8_1).toNat*12)).off+3,none⟩=some (.int .i64 ((rd_T79 t1 x8_1).f2.f1))∧w'.cell? ⟨(ad4.add ((x8_1).toNat*12)).block,(ad4.add ((x8_1).toNat*12)).off+4,none⟩=some (.int .i64 ((rd_T79 t1 x8_1).f2.f2))∧w'.cell? ⟨(ad4.add ((x8_1).toNat*12)).block,(ad4.add ((x8_1).toNat*12)).off+5,none⟩=some (.int .i64 ((rd_T79 t1 x8_1).f3.f0))∧w'.cell? ⟨(ad4.add ((x8_1).toNat*12)).block,(ad4.add ((x8_1).toNat*12)).off+6,none⟩=some (.int .i64 ((rd_T79 t1 x8_1).f3.f1))∧w'.cell? ⟨(ad4.add ((x8_1).toNat*12)).block,(ad4.add ((x8_1).toNat*12)).off+7,none⟩=some (.int .i64 ((rd_T79 t1 x8_1).f3.f2))∧w'.cell? ⟨(ad4.add ((x8_1).toNat*12)).block,(ad4.add ((x8_1).toNat*12)).off+8,none⟩=some (.int .i64 ((rd_T79 t1 x8_1).f4.f0))∧w'.cell? ⟨(ad4.add ((x8_1).toNat*12)).block,(ad4.add ((x8_1).toNat*12)).off+9,none⟩=some (.int .i64 ((rd_T79 t1 x8_1).f4.f1))∧w'.cell? ⟨(ad4.add ((x8_1).toNat*12)).block,(ad4.add ((x8_1).toNat*12)).off+10,none⟩=some (.int .i64 ((rd_T79 t1 x8_1).f4.f2))∧w'.cell? ⟨(ad4.add ((x8_1).toNat*12)).block,(ad4.add ((x8_1).toNat*12)).off+11,none⟩=some (.int .i64 ((rd_T79 t1 x8_1).f5))) (ds:=[22,23]) (bt_ 25 0) (by kernel_rfl) rfl rfl ⟨hx4_0,hx4_1,hx4_2,hx4_3,hx4_4,hx4_5,hx4_6,hx4_7,hx4_8,hx4_9,hx4_10,hx4_11,hx5_0,hx5_1,hx5_2,hx5_3,hx5_4,hx5_5,hx5_6,hx5_7,hx5_8,hx5_9,hx5_10,hx5_11,hx6_0,hx6_1,hx6_2,hx6_3,hx6_4,hx6_5,hx6_6,hx6_7,hx6_8,hx6_9,hx6_10,hx6_11,hx7_0,hx7_1,hx7_2,hx7_3,hx7_4,hx7_5,hx7_6,hx7_7,hx7_8,hx7_9,hx7_10,hx7_11⟩ (fun hHeld=> ?_);refine with_tabW law18_Live.tab7 law18_Live.bits7 (fun HT_ HW_=> ?_)
   generalize wr.drew=w10 at HO_6 HO_7 HB hx4_0 hx4_1 hx4_10 hx4_11 hx4_2 hx4_3 hx4_4 hx4_5 hx4_6 hx4_7 hx4_8 hx4_9 hx5_0 hx5_1 hx5_10 hx5_11 hx5_2 hx5_3 hx5_4 hx5_5 hx5_6 hx5_7 hx5_8 hx5_9 hx6_0 hx6_1 hx6_10 hx6_11 hx6_2 hx6_3 hx6_4 hx6_5 hx6_6 hx6_7 hx6_8 hx6_9 hx7_0 hx7_1 hx7_10 hx7_11 hx7_2 hx7_3 hx7_4 hx7_5 hx7_6 hx7_7 hx7_8 hx7_9 hHeld ⊢
   refine pu_ (i:=0) (N:=some 23) (bt_ 25 1) HT_ ?_
   refine pu_ (i:=1) (N:=some 24) (bt_ 25 3) HT_ ?_
   refine pu_ (i:=2) (N:=some 25) (bt_ 25 7) HT_ ?_
   refine pu_ (i:=3) (N:=some 26) (bt_ 25 15) HT_ ?_
   refine pu_ (i:=4) (N:=some 27) (bt_ 25 31) HT_ ?_
   refine pu_ (i:=6) (N:=some 29) (bt_ 25 95) HT_ ?_
   refine pu_ (i:=7) (N:=some 30) (bt_ 25 223) HT_ ?_
   refine pu_ (i:=8) (N:=some 31) (bt_ 25 479) HT_ ?_
   refine pu_ (i:=9) (N:=some 32) (bt_ 25 991) HT_ ?_
   refine pu_ (i:=11) (N:=some 34) (bt_ 25 3039) HT_ ?_
   refine pu_ (i:=12) (N:=some 35) (bt_ 25 7135) HT_ ?_
   refine pu_ (i:=13) (N:=some 36) (bt_ 25 15327) HT_ ?_
   refine pu_ (i:=14) (N:=some 37) (bt_ 25 31711) HT_ ?_
   refine pu_ (i:=16) (N:=some 39) (bt_ 25 97247) HT_ ?_
   refine pu_ (i:=17) (N:=some 40) (bt_ 25 228319) HT_ ?_
   refine pu_ (i:=18) (N:=some 41) (bt_ 25 490463) HT_ ?_
   refine pu_ (i:=19) (N:=some 42) (bt_ 25 1014751) HT_ ?_
   refine tk_ (i:=5) (N:=some 28) (bt_ 25 1014783) HT_ HW_ hHeld ?_
   refine tk_ (i:=10) (N:=some 33) (bt_ 25 1015807) HT_ HW_ hHeld ?_
   refine tk_ (i:=15) (N:=some 38) (bt_ 25 1048575) HT_ HW_ hHeld ?_
   refine tk_ (i:=20) (N:=some 43) (bt_ 25 2097151) HT_ HW_ hHeld ?_
   refine pu_ (i:=21) (N:=some 44) (bt_ 25 4194303) HT_ ?_
   refine last_ (i:=22) (N:=some 45) (bt_ 25 8388607) rfl rfl (one_of HT_.out (by kernel_rfl)) (by decide) (fun K hK=> ?_)
   refine value_ (w1:= ?_) (v:= ?_) (by rfl) rfl ?_ ?_
   rotate_left 2
   ·go_simp
    constructor
    ·rfl
    rfl
   refine hK.out _ _ ?_
   clear hK K
   refine no_ (N:=some 45) ?_
   refine last_ (i:=23) (N:=some 46) (bt_ 25 16777215) rfl rfl (one_of HT_.out (by kernel_rfl)) (by decide) (fun K hK=> ?_)
   refine Kd.R_append_step k84 (w0:=w) w.heap.size (by rfl) (.tmp 23) (.tmp 45) 53 84 (.agg #[(.string ⟨#[]⟩),(.string ⟨#[]⟩),(.int .i64 0),(.int .i64 0),(.int .i64 0),(.int .i64 0)]) 64 rfl Try.underlying53 info84 rfl (by decide) (by omega) u7 x7_1 (⟨(rd_T79 t1 x8_1).f0,(rd_T79 t1 x8_1).f1,(⟨(rd_T79 t1 x8_1).f2.f0,(rd_T79 t1 x8_1).f2.f1,(rd_T79 t1 x8_1).f2.f2⟩:S37),(rd_T79 t1 x8_1).f5⟩:S84) [.string ((rd_T79 t1 x8_1).f0), .string ((rd_T79 t1 x8_1).f1), .int .i64 ((rd_T79 t1 x8_1).f2.f0), .int .i64 ((rd_T79 t1 x8_1).f2.f1), .int .i64 ((rd_T79 t1 x8_1).f2.f2), .int .i64 ((rd_T79 t1 x8_1).f5)] (fun _=>True) (fun _=>False) rfl rfl ?aP (fun _ hk=>hk.elim) ?aF ?aO ?aB ?aS ?aL ?_
   (case aP=>exact k84_mkM _ _ _ (⟨(rd_T79 t1 x8_1).f0,(rd_T79 t1 x8_1).f1,(⟨(rd_T79 t1 x8_1).f2.f0,(rd_T79 t1 x8_1).f2.f1,(rd_T79 t1 x8_1).f2.f2⟩:S37),(rd_T79 t1 x8_1).f5⟩:S84))
   (case aB=>exact (zl0_ HB))
   (case aF=>exact (fun _ _=>trivial))
   (case aO=>exact (zr_ HO_7))
   (case aS=>exact (below_size (zl0_ HB)))
   (case aL=>have:=LMc8.out;omega)
   intro v9 w11 ho hb hg hat
   rw [←Ny8.out] at ho
   have n0_:=am_ (Kd.R_over' (zr_ HO_6) (Kd.R_typed (zr_ HO_7)) (by decide) hg)
   have n1_:=am_ (hb)
   have n2_:=am_ (ho)
   clear HO_6
   clear HB
   clear HO_7
   have HO_6:=n0_
   have HB:=n1_
   have HO10:=n2_
   clear n0_ n1_ n2_
   clear ho hb hg hat
   refine hK.out _ _ ?_
   clear hK K
   refine no_ (N:=some 46) ?_
   refine pu_ (i:=24) (N:=some 7) (bt_ 25 33554431) HT_ ?_
   refine done_ (done_of HT_.out (by kernel_rfl)) ?_
   try go_wp2
   go_roundg k1
   case measure=>have:=HK1.out;omega
   case rel=>exact ⟨(y8),(wrap64 (x8_1+1)),(by first|rfl|(simp;done)|(simp [*];done)),H',⟨by have:=HK1.out;omega⟩,⟨by (with_reducible repeat (first|apply Kd.R_alloc|apply Kd.R_drewN|apply Kd.R_drew));exact HO_6.out⟩,⟨by (with_reducible repeat (first|apply Kd.R_alloc|apply Kd.R_drewN|apply Kd.R_drew));exact HO10.out⟩,⟨zl0_ HB⟩⟩
mutual
noncomputable def law18_PlanOrder.j0:Nat→List Int→List Int→Int→Bool→Option (Bool)
 |0,_,_,_,_=>none
 |k+1,x0,x1,x2,x25=>if x25=true then ((law18_awake.f).bind fun t1=>(some t1)) else ((law18_Live.f k x0 x2).bind fun bt2=>((law11_Make.f k x1 false).bind fun t8=>((plan_Steps.f t8 bt2.1 bt2.2).bind fun bt11=>((law1_Num.f bt11.2).bind fun t15=>(if t15=0 then (law18_PlanOrder.l0 k bt2.1 t8 bt11.1 1 0) else (if (bt11.1.length:Int)=0 then ((law18_awake.f).bind fun t16=>(some t16)) else (some false)))))))
noncomputable def law18_PlanOrder.l0:Nat→List (S84)→List (S39)→List (S76)→Int→Int→Option (Bool)
 |0,_,_,_,_,_=>none
 |k+1,x7,x9,x10,x12,x13=>if x13<(x10.length:Int) then (law18_PlanOrder.l1 k x7 x9 x10 x12 x13 0 false 0) else ((law18_awake.f).bind fun t17=>(some t17))
noncomputable def law18_PlanOrder.l1:Nat→List (S84)→List (S39)→List (S76)→Int→Int→Int→Bool→Int→Option (Bool)
 |0,_,_,_,_,_,_,_,_=>none
 |k+1,x7,x9,x10,x12,x13,x14,x15,x16=>if x16<(x9.length:Int) then (if x15=true then (law18_PlanOrder.l1 k x7 x9 x10 x12 x13 x14 true (wrap64 (x16+1))) else (if 0≤x16 then (if 0≤x13 then (if x13<(x10.length:Int) then (if ((rd_T39 x9 x16).f0).toList=((rd_T76 x10 x13).f1).toList then (law18_PlanOrder.l1 k x7 x9 x10 x12 x13 x14 (((rd_T76 x10 x13).f0) !=4) (wrap64 (x16+1))) else (law18_PlanOrder.l1 k x7 x9 x10 x12 x13 x14 false (wrap64 (x16+1)))) else (none)) else (none)) else (none))) else (law18_PlanOrder.l2 k x7 x9 x10 x12 x13 x14 x15 0)
noncomputable def law18_PlanOrder.l2:Nat→List (S84)→List (S39)→List (S76)→Int→Int→Int→Bool→Int→Option (Bool)
 |0,_,_,_,_,_,_,_,_=>none
 |k+1,x7,x9,x10,x12,x13,x14,x15,x17=>if x17<(x7.length:Int) then (if x15=true then (law18_PlanOrder.l2 k x7 x9 x10 x12 x13 x14 true (wrap64 (x17+1))) else (if 0≤x17 then (if 0≤x13 then (if x13<(x10.length:Int) then (law18_PlanOrder.l2 k x7 x9 x10 x12 x13 x14 (((rd_T84 x7 x17).f0).toList==((rd_T76 x10 x13).f1).toList) (wrap64 (x17+1))) else (none)) else (none)) else (none))) else (if 0≤x13 then (if x13<(x10.length:Int) then (if ((rd_T76 x10 x13).f0)=1 then (if 1<x12 then (some false) else (if 1=4 then (if ((rd_T76 x10 x13).f0)=2 then (some false) else (if x15=true then (law18_PlanOrder.l0 k x7 x9 x10 1 (wrap64 (x13+1))) else (some false))) else (if x15=true then (law18_PlanOrder.l0 k x7 x9 x10 1 (wrap64 (x13+1))) else (some false)))) else (if ((rd_T76 x10 x13).f0)=3 then (if 2<x12 then (some false) else (if 2=4 then (if ((rd_T76 x10 x13).f0)=2 then (some false) else (if x15=true then (law18_PlanOrder.l0 k x7 x9 x10 2 (wrap64 (x13+1))) else (some false))) else (if x15=true then (law18_PlanOrder.l0 k x7 x9 x10 2 (wrap64 (x13+1))) else (some false)))) else (if ((rd_T76 x10 x13).f0)=4 then (if 4<x12 then (some false) else (if 4=4 then (if ((rd_T76 x10 x13).f0)=2 then (some false) else (if x15=true then (law18_PlanOrder.l0 k x7 x9 x10 4 (wrap64 (x13+1))) else (some false))) else (if x15=true then (law18_PlanOrder.l0 k x7 x9 x10 4 (wrap64 (x13+1))) else (some false)))) else (if ((rd_T76 x10 x13).f0)=2 then (if x12=2 then (if 3<x12 then (some false) else (if 3=4 then (some false) else (if x15=true then (law18_PlanOrder.l0 k x7 x9 x10 3 (wrap64 (x13+1))) else (some false)))) else (if x12<x12 then (some false) else (if x12=4 then (some false) else (if x15=true then (law18_PlanOrder.l0 k x7 x9 x10 x12 (wrap64 (x13+1))) else (some false))))) else (if x14<x12 then (some false) else (if x14=4 then (if x15=true then (law18_PlanOrder.l0 k x7 x9 x10 x14 (wrap64 (x13+1))) else (some false)) else (if x15=true then (law18_PlanOrder.l0 k x7 x9 x10 x14 (wrap64 (x13+1))) else (some false)))))))) else (none)) else (none))
end
noncomputable def law18_PlanOrder.f (k:Nat) (l0:List Int) (l1:List Int) (a2:Int):Option (Bool):=if (l0.length:Int)>60 then (law18_PlanOrder.j0 k l0 l1 a2 true) else (law18_PlanOrder.j0 k l0 l1 a2 (decide ((l1.length:Int)>60)))
theorem law18_PlanOrder.mono_l: ∀k,(∀y0 y1 y2 y3,LeO (law18_PlanOrder.j0 k y0 y1 y2 y3) (law18_PlanOrder.j0 (k+1) y0 y1 y2 y3))∧(∀y0 y1 y2 y3 y4,LeO (law18_PlanOrder.l0 k y0 y1 y2 y3 y4) (law18_PlanOrder.l0 (k+1) y0 y1 y2 y3 y4))∧(∀y0 y1 y2 y3 y4 y5 y6 y7,LeO (law18_PlanOrder.l1 k y0 y1 y2 y3 y4 y5 y6 y7) (law18_PlanOrder.l1 (k+1) y0 y1 y2 y3 y4 y5 y6 y7))∧(∀y0 y1 y2 y3 y4 y5 y6 y7,LeO (law18_PlanOrder.l2 k y0 y1 y2 y3 y4 y5 y6 y7) (law18_PlanOrder.l2 (k+1) y0 y1 y2 y3 y4 y5 y6 y7))
 |0=>⟨fun _ _ _ _ r h=>by simp [law18_PlanOrder.j0] at h,fun _ _ _ _ _ r h=>by simp [law18_PlanOrder.l0] at h,fun _ _ _ _ _ _ _ _ r h=>by simp [law18_PlanOrder.l1] at h,fun _ _ _ _ _ _ _ _ r h=>by simp [law18_PlanOrder.l2] at h⟩
 |k+1=>by
  obtain ⟨ih0,ih1,ih2,ih3⟩:=law18_PlanOrder.mono_l k
  refine ⟨?_, ?_, ?_, ?_⟩
  ·intro y0 y1 y2 y3
   unfold law18_PlanOrder.j0
   repeat' first
   |(with_reducible exact ih0 _ _ _ _)
   |(with_reducible exact ih1 _ _ _ _ _)
   |(with_reducible exact ih2 _ _ _ _ _ _ _ _)
   |(with_reducible exact ih3 _ _ _ _ _ _ _ _)
   |(with_reducible exact law11_Make.mono _ _ _)
   |(with_reducible exact law18_Live.mono _ _ _)
   |(with_reducible exact LeO.refl _)
   |(with_reducible exact LeO.none _)
   |(with_reducible refine LeO.ite ?_ ?_)
   |(with_reducible refine LeO.bind ?_ (fun _=> ?_))
   |exact ih0 _ _ _ _
   |exact ih1 _ _ _ _ _
   |exact ih2 _ _ _ _ _ _ _ _
   |exact ih3 _ _ _ _ _ _ _ _
   |exact law11_Make.mono _ _ _
   |exact law18_Live.mono _ _ _
   |exact LeO.none _
   |refine LeO.ite ?_ ?_
   |refine LeO.bind ?_ (fun _=> ?_)
  ·intro y0 y1 y2 y3 y4
   unfold law18_PlanOrder.l0
   repeat' first
   |(with_reducible exact ih0 _ _ _ _)
   |(with_reducible exact ih1 _ _ _ _ _)
   |(with_reducible exact ih2 _ _ _ _ _ _ _ _)
   |(with_reducible exact ih3 _ _ _ _ _ _ _ _)
   |(with_reducible exact law11_Make.mono _ _ _)
   |(with_reducible exact law18_Live.mono _ _ _)
   |(with_reducible exact LeO.refl _)
   |(with_reducible exact LeO.none _)
   |(with_reducible refine LeO.ite ?_ ?_)
   |(with_reducible refine LeO.bind ?_ (fun _=> ?_))
   |exact ih0 _ _ _ _
   |exact ih1 _ _ _ _ _
   |exact ih2 _ _ _ _ _ _ _ _
   |exact ih3 _ _ _ _ _ _ _ _
   |exact law11_Make.mono _ _ _
   |exact law18_Live.mono _ _ _
   |exact LeO.none _
   |refine LeO.ite ?_ ?_
   |refine LeO.bind ?_ (fun _=> ?_)
  ·intro y0 y1 y2 y3 y4 y5 y6 y7
   unfold law18_PlanOrder.l1
   repeat' first
   |(with_reducible exact ih0 _ _ _ _)
   |(with_reducible exact ih1 _ _ _ _ _)
   |(with_reducible exact ih2 _ _ _ _ _ _ _ _)
   |(with_reducible exact ih3 _ _ _ _ _ _ _ _)
   |(with_reducible exact law11_Make.mono _ _ _)
   |(with_reducible exact law18_Live.mono _ _ _)
   |(with_reducible exact LeO.refl _)
   |(with_reducible exact LeO.none _)
   |(with_reducible refine LeO.ite ?_ ?_)
   |(with_reducible refine LeO.bind ?_ (fun _=> ?_))
   |exact ih0 _ _ _ _
   |exact ih1 _ _ _ _ _
   |exact ih2 _ _ _ _ _ _ _ _
   |exact ih3 _ _ _ _ _ _ _ _
   |exact law11_Make.mono _ _ _
   |exact law18_Live.mono _ _ _
   |exact LeO.none _
   |refine LeO.ite ?_ ?_
   |refine LeO.bind ?_ (fun _=> ?_)
  intro y0 y1 y2 y3 y4 y5 y6 y7
  unfold law18_PlanOrder.l2
  repeat' first
  |(with_reducible exact ih0 _ _ _ _)
  |(with_reducible exact ih1 _ _ _ _ _)
  |(with_reducible exact ih2 _ _ _ _ _ _ _ _)
  |(with_reducible exact ih3 _ _ _ _ _ _ _ _)
  |(with_reducible exact law11_Make.mono _ _ _)
  |(with_reducible exact law18_Live.mono _ _ _)
  |(with_reducible exact LeO.refl _)
  |(with_reducible exact LeO.none _)
  |(with_reducible refine LeO.ite ?_ ?_)
  |(with_reducible refine LeO.bind ?_ (fun _=> ?_))
  |exact ih0 _ _ _ _
  |exact ih1 _ _ _ _ _
  |exact ih2 _ _ _ _ _ _ _ _
  |exact ih3 _ _ _ _ _ _ _ _
  |exact law11_Make.mono _ _ _
  |exact law18_Live.mono _ _ _
  |exact LeO.none _
  |refine LeO.ite ?_ ?_
  |refine LeO.bind ?_ (fun _=> ?_)
theorem law18_PlanOrder.mono: ∀a0 a1 a2 k,LeO (law18_PlanOrder.f k a0 a1 a2) (law18_PlanOrder.f (k+1) a0 a1 a2):=by
 intro a0 a1 a2 k
 obtain ⟨ih0,ih1,ih2,ih3⟩:=law18_PlanOrder.mono_l k
 unfold law18_PlanOrder.f
 repeat' first
  |(with_reducible exact ih0 _ _ _ _)
  |(with_reducible exact ih1 _ _ _ _ _)
  |(with_reducible exact ih2 _ _ _ _ _ _ _ _)
  |(with_reducible exact ih3 _ _ _ _ _ _ _ _)
  |(with_reducible exact law11_Make.mono _ _ _)
  |(with_reducible exact law18_Live.mono _ _ _)
  |(with_reducible exact LeO.refl _)
  |(with_reducible exact LeO.none _)
  |(with_reducible refine LeO.ite ?_ ?_)
  |(with_reducible refine LeO.bind ?_ (fun _=> ?_))
  |exact ih0 _ _ _ _
  |exact ih1 _ _ _ _ _
  |exact ih2 _ _ _ _ _ _ _ _
  |exact ih3 _ _ _ _ _ _ _ _
  |exact law11_Make.mono _ _ _
  |exact law18_Live.mono _ _ _
  |exact LeO.none _
  |refine LeO.ite ?_ ?_
  |refine LeO.bind ?_ (fun _=> ?_)
set_option maxHeartbeats 8000000 in
set_option maxRecDepth 100000 in
theorem law18_PlanOrder.calls (k:Nat) (A0:Option Addr) (c0:Nat) (l0:List Int) (A1:Option Addr) (c1:Nat) (l1:List Int) (a2:Int) (r:Bool) (w:World) (hr0:Kd.C (Kd.int .u8) w A0 l0.length l0) (hc0:l0.length≤c0) (hr1:Kd.C (Kd.int .u8) w A1 l1.length l1) (hc1:l1.length≤c1) (h:law18_PlanOrder.f k l0 l1 a2=some r):
  Calls Try.prog 13 #[.slice A0 l0.length c0, .slice A1 l1.length c1, .int .u8 a2] w fun e w'=>e= .returned (.bool r)∧Below w.heap.size w w':=by
 have HR0:=Aside0.mk hr0
 have HC0:=Aside0.mk hc0
 clear hr0 hc0
 have HR1:=Aside0.mk hr1
 have HC1:=Aside0.mk hc1
 clear hr1 hc1
 have HB:=am_ (Below.refl w.heap.size w)
 have H:(if (l0.length:Int)>60 then (law18_PlanOrder.j0 k l0 l1 a2 true) else (law18_PlanOrder.j0 k l0 l1 a2 (decide ((l1.length:Int)>60))))=some r:=h
 clear h
 have HC4:=Aside0.mk H
 clear H
 go_enter Try.func13,Try.ntmps13
 go_upto_region 1 with (fail)
 repeat (go_quiet (fail);go_upto_region 1 with (fail))
 go_cut [25] (fun v25 wc=> ∃(kq:Nat) (x25_3:Bool),v25= .bool x25_3∧Aside0 (law18_PlanOrder.j0 kq l0 l1 a2 x25_3=some r)∧Aside0 (kq≤k)∧Aside0 (Below w.heap.size w wc))
 case first=>
  have H:=HC4.out
  clear HC4
  by_cases c5:(l0.length:Int)>60
  ·rw [if_pos c5] at H
   have c5b0:decide (60<(l0.length:Int))=true:=decide_eq_true c5
   have c5b1:decide (60<l0.length)=true:=decide_eq_true (by omega)
   clear c5
   (first|rw [c5b0]|(simp only [i64_w,i32_w];rw [c5b0])|skip)
   have H':=Aside0.mk H
   clear H
   go_wp2
   repeat (go_quiet (fail);try go_wp2)
   go_meet
   case rel=>exact ⟨_,(true),(by first|rfl|(simp;done)|(simp [*];done)),H',⟨by first|omega|exact Nat.le_refl _⟩,⟨zl0_ HB⟩⟩
  rw [if_neg c5] at H
  have c5b0:decide (60<(l0.length:Int))=false:=decide_eq_false c5
  have c5b1:decide (60<l0.length)=false:=decide_eq_false (by omega)
  clear c5
  (first|rw [c5b0]|(simp only [i64_w,i32_w];rw [c5b0])|skip)
  have H':=Aside0.mk H
  clear H
  go_wp2
  repeat (go_quiet (fail);try go_wp2)
  go_meet
  case rel=>exact ⟨_,(decide ((l1.length:Int)>60)),(by first|rfl|(simp;done)|(simp [*];done)),H',⟨by first|omega|exact Nat.le_refl _⟩,⟨zl0_ HB⟩⟩
 case rest=>
  clear HC4
  try clear c1
  try clear p2
  try clear c5
  try clear c5b0
  try clear c5b1
  obtain ⟨kq,x25_3,rfl,HA,HJ3,HB⟩:=hcut
  cases kq with
  |zero=>exact absurd HA.out (by simp [law18_PlanOrder.j0])
  |succ kj3=>
   have H:=HA.out
   clear HA
   simp only [law18_PlanOrder.j0] at H
   by_cases c6:x25_3=true
   ·subst c6
    have H1:((law18_awake.f).bind fun t1=>(some t1))=some r:=by rw [if_pos rfl] at H;exact H
    clear H
    have H:=H1
    clear H1
    replace H:=Option.bind_eq_some_iff.mp H
    obtain ⟨t1,A70,H⟩:=H
    try dsimp only at H
    have A7:=Aside0.mk A70
    clear A70
    obtain rfl:=Option.some.inj H
    go_wp2_with (first|(go_at_call 47;(with_reducible refine (law18_awake.calls t1 _ A7.out).mono ?_);rintro e w8 ⟨rfl,hb⟩;replace HB:=am_ (below_step (zl0_ HB) hb);(try clear hb);(try clear hb2);(try clear hk);(try clear hi)))
    repeat (go_quiet (first|(go_at_call 47;(with_reducible refine (law18_awake.calls t1 _ A7.out).mono ?_);rintro e w8 ⟨rfl,hb⟩;replace HB:=am_ (below_step (zl0_ HB) hb);(try clear hb);(try clear hb2);(try clear hk);(try clear hi)));try go_wp2_with (first|(go_at_call 47;(with_reducible refine (law18_awake.calls t1 _ A7.out).mono ?_);rintro e w8 ⟨rfl,hb⟩;replace HB:=am_ (below_step (zl0_ HB) hb);(try clear hb);(try clear hb2);(try clear hk);(try clear hi))))
    all_goals (go_ret;exact ⟨by first|rfl|(simp [errW_none,errW_some]<;>rfl)|(simp [*,errW_none,errW_some]<;>rfl),zl0_ HB⟩)
   replace c6:=Bool.eq_false_iff.mpr c6
   subst c6
   have H1:((law18_Live.f kj3 l0 a2).bind fun bt2=>((law11_Make.f kj3 l1 false).bind fun t8=>((plan_Steps.f t8 bt2.1 bt2.2).bind fun bt11=>((law1_Num.f bt11.2).bind fun t15=>(if t15=0 then (law18_PlanOrder.l0 kj3 bt2.1 t8 bt11.1 1 0) else (if (bt11.1.length:Int)=0 then ((law18_awake.f).bind fun t16=>(some t16)) else (some false)))))))=some r:=by rw [if_neg (show¬(false=true) by decide)] at H;exact H
   clear H
   have H:=H1
   clear H1
   replace H:=Option.bind_eq_some_iff.mp H
   obtain ⟨⟨t2,t3⟩,A90,H⟩:=H
   try dsimp only at H
   have A9:=Aside0.mk A90
   clear A90
   replace H:=Option.bind_eq_some_iff.mp H
   obtain ⟨t8,A100,H⟩:=H
   try dsimp only at H
   have A10:=Aside0.mk A100
   clear A100
   replace H:=Option.bind_eq_some_iff.mp H
   obtain ⟨⟨t11,t12⟩,A110,H⟩:=H
   try dsimp only at H
   have A11:=Aside0.mk A110
   clear A110
   replace H:=Option.bind_eq_some_iff.mp H
   obtain ⟨t15,A120,H⟩:=H
   try dsimp only at H
   have A12:=Aside0.mk A120
   clear A120
   by_cases c13:t15=0
   rotate_left
   ·rw [if_neg c13] at H
    have c13b0:(t15==0)=false:=beq_eq_false_iff_ne.mpr c13
    have c13b1:(t15 !=0)=true:=bne_iff_ne.mpr c13
    by_cases c68:(t11.length:Int)=0
    rotate_left
    ·rw [if_neg c68] at H
     have c68b0:((t11.length:Int)==0)=false:=beq_eq_false_iff_ne.mpr c68
     have c68b1:((t11.length:Int) !=0)=true:=bne_iff_ne.mpr c68
     have c68b2: ¬(t11=[]):=fun h_=>c68 (by rw [h_];rfl)
     obtain rfl:=Option.some.inj H
     go_wp2_with (first|(go_at_call 50;(with_reducible refine (law18_Live.calls kj3 _ _ l0 a2 t2 t3 _ ?side1 ?side2 A9.out).mono ?_);(case side1=>exact zc_ (Kd.C_below HR0.out HB.out));(case side2=>exact HC0.out);rintro e w78 ⟨v4,v6,rfl,ho0,ho1,hb⟩;have HO5:=am_ (Kd.R_lower ho0 (below_size (zl0_ HB)));have HO7:=am_ (Kd.R_lower ho1 (below_size (zl0_ HB)));replace HB:=am_ (below_step (zl0_ HB) hb);(try clear hb);(try clear hb2);(try clear hk);(try clear hi);(try clear ho0);(try clear ho1))|(go_at_call 32;(with_reducible refine (law11_Make.calls kj3 _ _ l1 false t8 _ ?side1 ?side2 A10.out).mono ?_);(case side1=>exact zc_ (Kd.C_below HR1.out HB.out));(case side2=>exact HC1.out);rintro e w79 ⟨v9,rfl,ho0,hb⟩;replace HO5:=am_ (Kd.R_below (zr_ HO5) hb);replace HO7:=am_ (Kd.R_below (zr_ HO7) hb);have HO10:=am_ (Kd.R_lower ho0 (below_size (zl0_ HB)));replace HB:=am_ (below_step (zl0_ HB) hb);(try clear hb);(try clear hb2);(try clear hk);(try clear hi);(try clear ho0);obtain ⟨Ao80,co80,eo80⟩:=Kd.R_slice HO10.out;subst eo80;obtain ⟨Ao81,co81,eo81⟩:=Kd.R_slice HO5.out;subst eo81;obtain ⟨Ao82,co82,eo82⟩:=Kd.R_slice HO7.out;subst eo82)|(go_at_call 48;(with_reducible refine (plan_Steps.calls _ _ t8 _ _ t2 _ _ t3 t11 t12 _ ?side1 ?side2 ?side3 ?side4 ?side5 ?side6 A11.out).mono ?_);(case side1=>exact zc_ (Kd.R_reads' HO10.out).2.2);(case side2=>exact (Kd.R_reads' HO10.out).2.1);(case side3=>exact zc_ (Kd.R_reads' HO5.out).2.2);(case side4=>exact (Kd.R_reads' HO5.out).2.1);(case side5=>exact zc_ (Kd.R_reads' HO7.out).2.2);(case side6=>exact (Kd.R_reads' HO7.out).2.1);rintro e w83 ⟨v13,rfl,ho0,hb⟩;replace HO5:=am_ (Kd.R_below (zr_ HO5) hb);replace HO7:=am_ (Kd.R_below (zr_ HO7) hb);replace HO10:=am_ (Kd.R_below (zr_ HO10) hb);have HO14:=am_ (Kd.R_lower ho0 (below_size (zl0_ HB)));replace HB:=am_ (below_step (zl0_ HB) hb);(try clear hb);(try clear hb2);(try clear hk);(try clear hi);(try clear ho0))|(go_at_call 25;(with_reducible refine (law1_Num.calls t12 t15 _ A12.out).mono ?_);rintro e w' ⟨rfl,⟨nd,rfl⟩⟩;(try first|exact ⟨rfl,_,World.drewN_drewN _ _ _⟩|exact ⟨rfl,_,Eq.trans (World.drewN_drewN _ _ _) (congrArg (World.drewN _) (Nat.add_assoc _ _ _))⟩);obtain ⟨Ao84,co84,eo84⟩:=Kd.R_slice HO14.out;subst eo84))
     repeat (go_quiet (first|(go_at_call 50;(with_reducible refine (law18_Live.calls kj3 _ _ l0 a2 t2 t3 _ ?side1 ?side2 A9.out).mono ?_);(case side1=>exact zc_ (Kd.C_below HR0.out HB.out));(case side2=>exact HC0.out);rintro e w78 ⟨v4,v6,rfl,ho0,ho1,hb⟩;have HO5:=am_ (Kd.R_lower ho0 (below_size (zl0_ HB)));have HO7:=am_ (Kd.R_lower ho1 (below_size (zl0_ HB)));replace HB:=am_ (below_step (zl0_ HB) hb);(try clear hb);(try clear hb2);(try clear hk);(try clear hi);(try clear ho0);(try clear ho1))|(go_at_call 32;(with_reducible refine (law11_Make.calls kj3 _ _ l1 false t8 _ ?side1 ?side2 A10.out).mono ?_);(case side1=>exact zc_ (Kd.C_below HR1.out HB.out));(case side2=>exact HC1.out);rintro e w79 ⟨v9,rfl,ho0,hb⟩;replace HO5:=am_ (Kd.R_below (zr_ HO5) hb);replace HO7:=am_ (Kd.R_below (zr_ HO7) hb);have HO10:=am_ (Kd.R_lower ho0 (below_size (zl0_ HB)));replace HB:=am_ (below_step (zl0_ HB) hb);(try clear hb);(try clear hb2);(try clear hk);(try clear hi);(try clear ho0);obtain ⟨Ao80,co80,eo80⟩:=Kd.R_slice HO10.out;subst eo80;obtain ⟨Ao81,co81,eo81⟩:=Kd.R_slice HO5.out;subst eo81;obtain ⟨Ao82,co82,eo82⟩:=Kd.R_slice HO7.out;subst eo82)|(go_at_call 48;(with_reducible refine (plan_Steps.calls _ _ t8 _ _ t2 _ _ t3 t11 t12 _ ?side1 ?side2 ?side3 ?side4 ?side5 ?side6 A11.out).mono ?_);(case side1=>exact zc_ (Kd.R_reads' HO10.out).2.2);(case side2=>exact (Kd.R_reads' HO10.out).2.1);(case side3=>exact zc_ (Kd.R_reads' HO5.out).2.2);(case side4=>exact (Kd.R_reads' HO5.out).2.1);(case side5=>exact zc_ (Kd.R_reads' HO7.out).2.2);(case side6=>exact (Kd.R_reads' HO7.out).2.1);rintro e w83 ⟨v13,rfl,ho0,hb⟩;replace HO5:=am_ (Kd.R_below (zr_ HO5) hb);replace HO7:=am_ (Kd.R_below (zr_ HO7) hb);replace HO10:=am_ (Kd.R_below (zr_ HO10) hb);have HO14:=am_ (Kd.R_lower ho0 (below_size (zl0_ HB)));replace HB:=am_ (below_step (zl0_ HB) hb);(try clear hb);(try clear hb2);(try clear hk);(try clear hi);(try clear ho0))|(go_at_call 25;(with_reducible refine (law1_Num.calls t12 t15 _ A12.out).mono ?_);rintro e w' ⟨rfl,⟨nd,rfl⟩⟩;(try first|exact ⟨rfl,_,World.drewN_drewN _ _ _⟩|exact ⟨rfl,_,Eq.trans (World.drewN_drewN _ _ _) (congrArg (World.drewN _) (Nat.add_assoc _ _ _))⟩);obtain ⟨Ao84,co84,eo84⟩:=Kd.R_slice HO14.out;subst eo84));try go_wp2_with (first|(go_at_call 50;(with_reducible refine (law18_Live.calls kj3 _ _ l0 a2 t2 t3 _ ?side1 ?side2 A9.out).mono ?_);(case side1=>exact zc_ (Kd.C_below HR0.out HB.out));(case side2=>exact HC0.out);rintro e w78 ⟨v4,v6,rfl,ho0,ho1,hb⟩;have HO5:=am_ (Kd.R_lower ho0 (below_size (zl0_ HB)));have HO7:=am_ (Kd.R_lower ho1 (below_size (zl0_ HB)));replace HB:=am_ (below_step (zl0_ HB) hb);(try clear hb);(try clear hb2);(try clear hk);(try clear hi);(try clear ho0);(try clear ho1))|(go_at_call 32;(with_reducible refine (law11_Make.calls kj3 _ _ l1 false t8 _ ?side1 ?side2 A10.out).mono ?_);(case side1=>exact zc_ (Kd.C_below HR1.out HB.out));(case side2=>exact HC1.out);rintro e w79 ⟨v9,rfl,ho0,hb⟩;replace HO5:=am_ (Kd.R_below (zr_ HO5) hb);replace HO7:=am_ (Kd.R_below (zr_ HO7) hb);have HO10:=am_ (Kd.R_lower ho0 (below_size (zl0_ HB)));replace HB:=am_ (below_step (zl0_ HB) hb);(try clear hb);(try clear hb2);(try clear hk);(try clear hi);(try clear ho0);obtain ⟨Ao80,co80,eo80⟩:=Kd.R_slice HO10.out;subst eo80;obtain ⟨Ao81,co81,eo81⟩:=Kd.R_slice HO5.out;subst eo81;obtain ⟨Ao82,co82,eo82⟩:=Kd.R_slice HO7.out;subst eo82)|(go_at_call 48;(with_reducible refine (plan_Steps.calls _ _ t8 _ _ t2 _ _ t3 t11 t12 _ ?side1 ?side2 ?side3 ?side4 ?side5 ?side6 A11.out).mono ?_);(case side1=>exact zc_ (Kd.R_reads' HO10.out).2.2);(case side2=>exact (Kd.R_reads' HO10.out).2.1);(case side3=>exact zc_ (Kd.R_reads' HO5.out).2.2);(case side4=>exact (Kd.R_reads' HO5.out).2.1);(case side5=>exact zc_ (Kd.R_reads' HO7.out).2.2);(case side6=>exact (Kd.R_reads' HO7.out).2.1);rintro e w83 ⟨v13,rfl,ho0,hb⟩;replace HO5:=am_ (Kd.R_below (zr_ HO5) hb);replace HO7:=am_ (Kd.R_below (zr_ HO7) hb);replace HO10:=am_ (Kd.R_below (zr_ HO10) hb);have HO14:=am_ (Kd.R_lower ho0 (below_size (zl0_ HB)));replace HB:=am_ (below_step (zl0_ HB) hb);(try clear hb);(try clear hb2);(try clear hk);(try clear hi);(try clear ho0))|(go_at_call 25;(with_reducible refine (law1_Num.calls t12 t15 _ A12.out).mono ?_);rintro e w' ⟨rfl,⟨nd,rfl⟩⟩;(try first|exact ⟨rfl,_,World.drewN_drewN _ _ _⟩|exact ⟨rfl,_,Eq.trans (World.drewN_drewN _ _ _) (congrArg (World.drewN _) (Nat.add_assoc _ _ _))⟩);obtain ⟨Ao84,co84,eo84⟩:=Kd.R_slice HO14.out;subst eo84)))
     all_goals (go_ret;exact ⟨by first|rfl|(simp [errW_none,errW_some]<;>rfl)|(simp [*,errW_none,errW_some]<;>rfl),zl0_ HB⟩)

    rw [if_pos c68] at H
    have c68b0:((t11.length:Int)==0)=true:=beq_iff_eq.mpr c68
    have c68b1:((t11.length:Int) !=0)=false:=bne_eq_false_iff_eq.mpr c68
    clear c68
    replace H:=Option.bind_eq_some_iff.mp H
    obtain ⟨t16,A690,H⟩:=H
    try dsimp only at H
    have A69:=Aside0.mk A690
    clear A690
    obtain rfl:=Option.some.inj H
    go_wp2_with (first|(go_at_call 50;(with_reducible refine (law18_Live.calls kj3 _ _ l0 a2 t2 t3 _ ?side1 ?side2 A9.out).mono ?_);(case side1=>exact zc_ (Kd.C_below HR0.out HB.out));(case side2=>exact HC0.out);rintro e w70 ⟨v4,v6,rfl,ho0,ho1,hb⟩;have HO5:=am_ (Kd.R_lower ho0 (below_size (zl0_ HB)));have HO7:=am_ (Kd.R_lower ho1 (below_size (zl0_ HB)));replace HB:=am_ (below_step (zl0_ HB) hb);(try clear hb);(try clear hb2);(try clear hk);(try clear hi);(try clear ho0);(try clear ho1))|(go_at_call 32;(with_reducible refine (law11_Make.calls kj3 _ _ l1 false t8 _ ?side1 ?side2 A10.out).mono ?_);(case side1=>exact zc_ (Kd.C_below HR1.out HB.out));(case side2=>exact HC1.out);rintro e w71 ⟨v9,rfl,ho0,hb⟩;replace HO5:=am_ (Kd.R_below (zr_ HO5) hb);replace HO7:=am_ (Kd.R_below (zr_ HO7) hb);have HO10:=am_ (Kd.R_lower ho0 (below_size (zl0_ HB)));replace HB:=am_ (below_step (zl0_ HB) hb);(try clear hb);(try clear hb2);(try clear hk);(try clear hi);(try clear ho0);obtain ⟨Ao72,co72,eo72⟩:=Kd.R_slice HO10.out;subst eo72;obtain ⟨Ao73,co73,eo73⟩:=Kd.R_slice HO5.out;subst eo73;obtain ⟨Ao74,co74,eo74⟩:=Kd.R_slice HO7.out;subst eo74)|(go_at_call 48;(with_reducible refine (plan_Steps.calls _ _ t8 _ _ t2 _ _ t3 t11 t12 _ ?side1 ?side2 ?side3 ?side4 ?side5 ?side6 A11.out).mono ?_);(case side1=>exact zc_ (Kd.R_reads' HO10.out).2.2);(case side2=>exact (Kd.R_reads' HO10.out).2.1);(case side3=>exact zc_ (Kd.R_reads' HO5.out).2.2);(case side4=>exact (Kd.R_reads' HO5.out).2.1);(case side5=>exact zc_ (Kd.R_reads' HO7.out).2.2);(case side6=>exact (Kd.R_reads' HO7.out).2.1);rintro e w75 ⟨v13,rfl,ho0,hb⟩;replace HO5:=am_ (Kd.R_below (zr_ HO5) hb);replace HO7:=am_ (Kd.R_below (zr_ HO7) hb);replace HO10:=am_ (Kd.R_below (zr_ HO10) hb);have HO14:=am_ (Kd.R_lower ho0 (below_size (zl0_ HB)));replace HB:=am_ (below_step (zl0_ HB) hb);(try clear hb);(try clear hb2);(try clear hk);(try clear hi);(try clear ho0))|(go_at_call 25;(with_reducible refine (law1_Num.calls t12 t15 _ A12.out).mono ?_);rintro e w' ⟨rfl,⟨nd,rfl⟩⟩;(try first|exact ⟨rfl,_,World.drewN_drewN _ _ _⟩|exact ⟨rfl,_,Eq.trans (World.drewN_drewN _ _ _) (congrArg (World.drewN _) (Nat.add_assoc _ _ _))⟩);obtain ⟨Ao76,co76,eo76⟩:=Kd.R_slice HO14.out;subst eo76)|(go_at_call 47;(with_reducible refine (law18_awake.calls t16 _ A69.out).mono ?_);rintro e w77 ⟨rfl,hb⟩;replace HO5:=am_ (Kd.R_below (zr_ HO5) hb);replace HO7:=am_ (Kd.R_below (zr_ HO7) hb);replace HO10:=am_ (Kd.R_below (zr_ HO10) hb);replace HO14:=am_ (Kd.R_below (zr_ HO14) hb);replace HB:=am_ (below_step (zl0_ HB) hb);(try clear hb);(try clear hb2);(try clear hk);(try clear hi)))
    repeat (go_quiet (first|(go_at_call 50;(with_reducible refine (law18_Live.calls kj3 _ _ l0 a2 t2 t3 _ ?side1 ?side2 A9.out).mono ?_);(case side1=>exact zc_ (Kd.C_below HR0.out HB.out));(case side2=>exact HC0.out);rintro e w70 ⟨v4,v6,rfl,ho0,ho1,hb⟩;have HO5:=am_ (Kd.R_lower ho0 (below_size (zl0_ HB)));have HO7:=am_ (Kd.R_lower ho1 (below_size (zl0_ HB)));replace HB:=am_ (below_step (zl0_ HB) hb);(try clear hb);(try clear hb2);(try clear hk);(try clear hi);(try clear ho0);(try clear ho1))|(go_at_call 32;(with_reducible refine (law11_Make.calls kj3 _ _ l1 false t8 _ ?side1 ?side2 A10.out).mono ?_);(case side1=>exact zc_ (Kd.C_below HR1.out HB.out));(case side2=>exact HC1.out);rintro e w71 ⟨v9,rfl,ho0,hb⟩;replace HO5:=am_ (Kd.R_below (zr_ HO5) hb);replace HO7:=am_ (Kd.R_below (zr_ HO7) hb);have HO10:=am_ (Kd.R_lower ho0 (below_size (zl0_ HB)));replace HB:=am_ (below_step (zl0_ HB) hb);(try clear hb);(try clear hb2);(try clear hk);(try clear hi);(try clear ho0);obtain ⟨Ao72,co72,eo72⟩:=Kd.R_slice HO10.out;subst eo72;obtain ⟨Ao73,co73,eo73⟩:=Kd.R_slice HO5.out;subst eo73;obtain ⟨Ao74,co74,eo74⟩:=Kd.R_slice HO7.out;subst eo74)|(go_at_call 48;(with_reducible refine (plan_Steps.calls _ _ t8 _ _ t2 _ _ t3 t11 t12 _ ?side1 ?side2 ?side3 ?side4 ?side5 ?side6 A11.out).mono ?_);(case side1=>exact zc_ (Kd.R_reads' HO10.out).2.2);(case side2=>exact (Kd.R_reads' HO10.out).2.1);(case side3=>exact zc_ (Kd.R_reads' HO5.out).2.2);(case side4=>exact (Kd.R_reads' HO5.out).2.1);(case side5=>exact zc_ (Kd.R_reads' HO7.out).2.2);(case side6=>exact (Kd.R_reads' HO7.out).2.1);rintro e w75 ⟨v13,rfl,ho0,hb⟩;replace HO5:=am_ (Kd.R_below (zr_ HO5) hb);replace HO7:=am_ (Kd.R_below (zr_ HO7) hb);replace HO10:=am_ (Kd.R_below (zr_ HO10) hb);have HO14:=am_ (Kd.R_lower ho0 (below_size (zl0_ HB)));replace HB:=am_ (below_step (zl0_ HB) hb);(try clear hb);(try clear hb2);(try clear hk);(try clear hi);(try clear ho0))|(go_at_call 25;(with_reducible refine (law1_Num.calls t12 t15 _ A12.out).mono ?_);rintro e w' ⟨rfl,⟨nd,rfl⟩⟩;(try first|exact ⟨rfl,_,World.drewN_drewN _ _ _⟩|exact ⟨rfl,_,Eq.trans (World.drewN_drewN _ _ _) (congrArg (World.drewN _) (Nat.add_assoc _ _ _))⟩);obtain ⟨Ao76,co76,eo76⟩:=Kd.R_slice HO14.out;subst eo76)|(go_at_call 47;(with_reducible refine (law18_awake.calls t16 _ A69.out).mono ?_);rintro e w77 ⟨rfl,hb⟩;replace HO5:=am_ (Kd.R_below (zr_ HO5) hb);replace HO7:=am_ (Kd.R_below (zr_ HO7) hb);replace HO10:=am_ (Kd.R_below (zr_ HO10) hb);replace HO14:=am_ (Kd.R_below (zr_ HO14) hb);replace HB:=am_ (below_step (zl0_ HB) hb);(try clear hb);(try clear hb2);(try clear hk);(try clear hi)));try go_wp2_with (first|(go_at_call 50;(with_reducible refine (law18_Live.calls kj3 _ _ l0 a2 t2 t3 _ ?side1 ?side2 A9.out).mono ?_);(case side1=>exact zc_ (Kd.C_below HR0.out HB.out));(case side2=>exact HC0.out);rintro e w70 ⟨v4,v6,rfl,ho0,ho1,hb⟩;have HO5:=am_ (Kd.R_lower ho0 (below_size (zl0_ HB)));have HO7:=am_ (Kd.R_lower ho1 (below_size (zl0_ HB)));replace HB:=am_ (below_step (zl0_ HB) hb);(try clear hb);(try clear hb2);(try clear hk);(try clear hi);(try clear ho0);(try clear ho1))|(go_at_call 32;(with_reducible refine (law11_Make.calls kj3 _ _ l1 false t8 _ ?side1 ?side2 A10.out).mono ?_);(case side1=>exact zc_ (Kd.C_below HR1.out HB.out));(case side2=>exact HC1.out);rintro e w71 ⟨v9,rfl,ho0,hb⟩;replace HO5:=am_ (Kd.R_below (zr_ HO5) hb);replace HO7:=am_ (Kd.R_below (zr_ HO7) hb);have HO10:=am_ (Kd.R_lower ho0 (below_size (zl0_ HB)));replace HB:=am_ (below_step (zl0_ HB) hb);(try clear hb);(try clear hb2);(try clear hk);(try clear hi);(try clear ho0);obtain ⟨Ao72,co72,eo72⟩:=Kd.R_slice HO10.out;subst eo72;obtain ⟨Ao73,co73,eo73⟩:=Kd.R_slice HO5.out;subst eo73;obtain ⟨Ao74,co74,eo74⟩:=Kd.R_slice HO7.out;subst eo74)|(go_at_call 48;(with_reducible refine (plan_Steps.calls _ _ t8 _ _ t2 _ _ t3 t11 t12 _ ?side1 ?side2 ?side3 ?side4 ?side5 ?side6 A11.out).mono ?_);(case side1=>exact zc_ (Kd.R_reads' HO10.out).2.2);(case side2=>exact (Kd.R_reads' HO10.out).2.1);(case side3=>exact zc_ (Kd.R_reads' HO5.out).2.2);(case side4=>exact (Kd.R_reads' HO5.out).2.1);(case side5=>exact zc_ (Kd.R_reads' HO7.out).2.2);(case side6=>exact (Kd.R_reads' HO7.out).2.1);rintro e w75 ⟨v13,rfl,ho0,hb⟩;replace HO5:=am_ (Kd.R_below (zr_ HO5) hb);replace HO7:=am_ (Kd.R_below (zr_ HO7) hb);replace HO10:=am_ (Kd.R_below (zr_ HO10) hb);have HO14:=am_ (Kd.R_lower ho0 (below_size (zl0_ HB)));replace HB:=am_ (below_step (zl0_ HB) hb);(try clear hb);(try clear hb2);(try clear hk);(try clear hi);(try clear ho0))|(go_at_call 25;(with_reducible refine (law1_Num.calls t12 t15 _ A12.out).mono ?_);rintro e w' ⟨rfl,⟨nd,rfl⟩⟩;(try first|exact ⟨rfl,_,World.drewN_drewN _ _ _⟩|exact ⟨rfl,_,Eq.trans (World.drewN_drewN _ _ _) (congrArg (World.drewN _) (Nat.add_assoc _ _ _))⟩);obtain ⟨Ao76,co76,eo76⟩:=Kd.R_slice HO14.out;subst eo76)|(go_at_call 47;(with_reducible refine (law18_awake.calls t16 _ A69.out).mono ?_);rintro e w77 ⟨rfl,hb⟩;replace HO5:=am_ (Kd.R_below (zr_ HO5) hb);replace HO7:=am_ (Kd.R_below (zr_ HO7) hb);replace HO10:=am_ (Kd.R_below (zr_ HO10) hb);replace HO14:=am_ (Kd.R_below (zr_ HO14) hb);replace HB:=am_ (below_step (zl0_ HB) hb);(try clear hb);(try clear hb2);(try clear hk);(try clear hi))))
    all_goals (go_ret;exact ⟨by first|rfl|(simp [errW_none,errW_some]<;>rfl)|(simp [*,errW_none,errW_some]<;>rfl),zl0_ HB⟩)
   rw [if_pos c13] at H
   have c13b0:(t15==0)=true:=beq_iff_eq.mpr c13
   have c13b1:(t15 !=0)=false:=bne_eq_false_iff_eq.mpr c13
   clear c13
   have H':=Aside0.mk H
   clear H
   go_wp2_with (first|(go_at_call 50;(with_reducible refine (law18_Live.calls kj3 _ _ l0 a2 t2 t3 _ ?side1 ?side2 A9.out).mono ?_);(case side1=>exact zc_ (Kd.C_below HR0.out HB.out));(case side2=>exact HC0.out);rintro e w14 ⟨v4,v6,rfl,ho0,ho1,hb⟩;have HO5:=am_ (Kd.R_lower ho0 (below_size (zl0_ HB)));have HO7:=am_ (Kd.R_lower ho1 (below_size (zl0_ HB)));replace HB:=am_ (below_step (zl0_ HB) hb);(try clear hb);(try clear hb2);(try clear hk);(try clear hi);(try clear ho0);(try clear ho1))|(go_at_call 32;(with_reducible refine (law11_Make.calls kj3 _ _ l1 false t8 _ ?side1 ?side2 A10.out).mono ?_);(case side1=>exact zc_ (Kd.C_below HR1.out HB.out));(case side2=>exact HC1.out);rintro e w15 ⟨v9,rfl,ho0,hb⟩;replace HO5:=am_ (Kd.R_below (zr_ HO5) hb);replace HO7:=am_ (Kd.R_below (zr_ HO7) hb);have HO10:=am_ (Kd.R_lower ho0 (below_size (zl0_ HB)));replace HB:=am_ (below_step (zl0_ HB) hb);(try clear hb);(try clear hb2);(try clear hk);(try clear hi);(try clear ho0);obtain ⟨Ao16,co16,eo16⟩:=Kd.R_slice HO10.out;subst eo16;obtain ⟨Ao17,co17,eo17⟩:=Kd.R_slice HO5.out;subst eo17;obtain ⟨Ao18,co18,eo18⟩:=Kd.R_slice HO7.out;subst eo18)|(go_at_call 48;(with_reducible refine (plan_Steps.calls _ _ t8 _ _ t2 _ _ t3 t11 t12 _ ?side1 ?side2 ?side3 ?side4 ?side5 ?side6 A11.out).mono ?_);(case side1=>exact zc_ (Kd.R_reads' HO10.out).2.2);(case side2=>exact (Kd.R_reads' HO10.out).2.1);(case side3=>exact zc_ (Kd.R_reads' HO5.out).2.2);(case side4=>exact (Kd.R_reads' HO5.out).2.1);(case side5=>exact zc_ (Kd.R_reads' HO7.out).2.2);(case side6=>exact (Kd.R_reads' HO7.out).2.1);rintro e w19 ⟨v13,rfl,ho0,hb⟩;replace HO5:=am_ (Kd.R_below (zr_ HO5) hb);replace HO7:=am_ (Kd.R_below (zr_ HO7) hb);replace HO10:=am_ (Kd.R_below (zr_ HO10) hb);have HO14:=am_ (Kd.R_lower ho0 (below_size (zl0_ HB)));replace HB:=am_ (below_step (zl0_ HB) hb);(try clear hb);(try clear hb2);(try clear hk);(try clear hi);(try clear ho0))|(go_at_call 25;(with_reducible refine (law1_Num.calls t12 t15 _ A12.out).mono ?_);rintro e w' ⟨rfl,⟨nd,rfl⟩⟩;(try first|exact ⟨rfl,_,World.drewN_drewN _ _ _⟩|exact ⟨rfl,_,Eq.trans (World.drewN_drewN _ _ _) (congrArg (World.drewN _) (Nat.add_assoc _ _ _))⟩)))
   repeat (go_quiet (first|(go_at_call 50;(with_reducible refine (law18_Live.calls kj3 _ _ l0 a2 t2 t3 _ ?side1 ?side2 A9.out).mono ?_);(case side1=>exact zc_ (Kd.C_below HR0.out HB.out));(case side2=>exact HC0.out);rintro e w14 ⟨v4,v6,rfl,ho0,ho1,hb⟩;have HO5:=am_ (Kd.R_lower ho0 (below_size (zl0_ HB)));have HO7:=am_ (Kd.R_lower ho1 (below_size (zl0_ HB)));replace HB:=am_ (below_step (zl0_ HB) hb);(try clear hb);(try clear hb2);(try clear hk);(try clear hi);(try clear ho0);(try clear ho1))|(go_at_call 32;(with_reducible refine (law11_Make.calls kj3 _ _ l1 false t8 _ ?side1 ?side2 A10.out).mono ?_);(case side1=>exact zc_ (Kd.C_below HR1.out HB.out));(case side2=>exact HC1.out);rintro e w15 ⟨v9,rfl,ho0,hb⟩;replace HO5:=am_ (Kd.R_below (zr_ HO5) hb);replace HO7:=am_ (Kd.R_below (zr_ HO7) hb);have HO10:=am_ (Kd.R_lower ho0 (below_size (zl0_ HB)));replace HB:=am_ (below_step (zl0_ HB) hb);(try clear hb);(try clear hb2);(try clear hk);(try clear hi);(try clear ho0);obtain ⟨Ao16,co16,eo16⟩:=Kd.R_slice HO10.out;subst eo16;obtain ⟨Ao17,co17,eo17⟩:=Kd.R_slice HO5.out;subst eo17;obtain ⟨Ao18,co18,eo18⟩:=Kd.R_slice HO7.out;subst eo18)|(go_at_call 48;(with_reducible refine (plan_Steps.calls _ _ t8 _ _ t2 _ _ t3 t11 t12 _ ?side1 ?side2 ?side3 ?side4 ?side5 ?side6 A11.out).mono ?_);(case side1=>exact zc_ (Kd.R_reads' HO10.out).2.2);(case side2=>exact (Kd.R_reads' HO10.out).2.1);(case side3=>exact zc_ (Kd.R_reads' HO5.out).2.2);(case side4=>exact (Kd.R_reads' HO5.out).2.1);(case side5=>exact zc_ (Kd.R_reads' HO7.out).2.2);(case side6=>exact (Kd.R_reads' HO7.out).2.1);rintro e w19 ⟨v13,rfl,ho0,hb⟩;replace HO5:=am_ (Kd.R_below (zr_ HO5) hb);replace HO7:=am_ (Kd.R_below (zr_ HO7) hb);replace HO10:=am_ (Kd.R_below (zr_ HO10) hb);have HO14:=am_ (Kd.R_lower ho0 (below_size (zl0_ HB)));replace HB:=am_ (below_step (zl0_ HB) hb);(try clear hb);(try clear hb2);(try clear hk);(try clear hi);(try clear ho0))|(go_at_call 25;(with_reducible refine (law1_Num.calls t12 t15 _ A12.out).mono ?_);rintro e w' ⟨rfl,⟨nd,rfl⟩⟩;(try first|exact ⟨rfl,_,World.drewN_drewN _ _ _⟩|exact ⟨rfl,_,Eq.trans (World.drewN_drewN _ _ _) (congrArg (World.drewN _) (Nat.add_assoc _ _ _))⟩)));try go_wp2_with (first|(go_at_call 50;(with_reducible refine (law18_Live.calls kj3 _ _ l0 a2 t2 t3 _ ?side1 ?side2 A9.out).mono ?_);(case side1=>exact zc_ (Kd.C_below HR0.out HB.out));(case side2=>exact HC0.out);rintro e w14 ⟨v4,v6,rfl,ho0,ho1,hb⟩;have HO5:=am_ (Kd.R_lower ho0 (below_size (zl0_ HB)));have HO7:=am_ (Kd.R_lower ho1 (below_size (zl0_ HB)));replace HB:=am_ (below_step (zl0_ HB) hb);(try clear hb);(try clear hb2);(try clear hk);(try clear hi);(try clear ho0);(try clear ho1))|(go_at_call 32;(with_reducible refine (law11_Make.calls kj3 _ _ l1 false t8 _ ?side1 ?side2 A10.out).mono ?_);(case side1=>exact zc_ (Kd.C_below HR1.out HB.out));(case side2=>exact HC1.out);rintro e w15 ⟨v9,rfl,ho0,hb⟩;replace HO5:=am_ (Kd.R_below (zr_ HO5) hb);replace HO7:=am_ (Kd.R_below (zr_ HO7) hb);have HO10:=am_ (Kd.R_lower ho0 (below_size (zl0_ HB)));replace HB:=am_ (below_step (zl0_ HB) hb);(try clear hb);(try clear hb2);(try clear hk);(try clear hi);(try clear ho0);obtain ⟨Ao16,co16,eo16⟩:=Kd.R_slice HO10.out;subst eo16;obtain ⟨Ao17,co17,eo17⟩:=Kd.R_slice HO5.out;subst eo17;obtain ⟨Ao18,co18,eo18⟩:=Kd.R_slice HO7.out;subst eo18)|(go_at_call 48;(with_reducible refine (plan_Steps.calls _ _ t8 _ _ t2 _ _ t3 t11 t12 _ ?side1 ?side2 ?side3 ?side4 ?side5 ?side6 A11.out).mono ?_);(case side1=>exact zc_ (Kd.R_reads' HO10.out).2.2);(case side2=>exact (Kd.R_reads' HO10.out).2.1);(case side3=>exact zc_ (Kd.R_reads' HO5.out).2.2);(case side4=>exact (Kd.R_reads' HO5.out).2.1);(case side5=>exact zc_ (Kd.R_reads' HO7.out).2.2);(case side6=>exact (Kd.R_reads' HO7.out).2.1);rintro e w19 ⟨v13,rfl,ho0,hb⟩;replace HO5:=am_ (Kd.R_below (zr_ HO5) hb);replace HO7:=am_ (Kd.R_below (zr_ HO7) hb);replace HO10:=am_ (Kd.R_below (zr_ HO10) hb);have HO14:=am_ (Kd.R_lower ho0 (below_size (zl0_ HB)));replace HB:=am_ (below_step (zl0_ HB) hb);(try clear hb);(try clear hb2);(try clear hk);(try clear hi);(try clear ho0))|(go_at_call 25;(with_reducible refine (law1_Num.calls t12 t15 _ A12.out).mono ?_);rintro e w' ⟨rfl,⟨nd,rfl⟩⟩;(try first|exact ⟨rfl,_,World.drewN_drewN _ _ _⟩|exact ⟨rfl,_,Eq.trans (World.drewN_drewN _ _ _) (congrArg (World.drewN _) (Nat.add_assoc _ _ _))⟩))))
   go_loopg [12,13] kj3 (fun kq sv12 sv13 w'=> ∃(x12_2:Int) (x13_2:Int),sv12= .int .i64 x12_2∧sv13= .int .i64 x13_2∧Aside0 (law18_PlanOrder.l0 kq t2 t8 t11 x12_2 x13_2=some r)∧Aside0 (kq≤kj3)∧Aside0 (Kd.R k84 84 w' w.heap.size (fun _=>True) (.slice Ao17 t2.length co17) t2)∧Aside0 (Kd.R k39 39 w' w.heap.size (fun _=>True) (.slice Ao16 t8.length co16) t8)∧Aside0 (Kd.R k76 76 w' w.heap.size (fun _=>True) v13 t11)∧Aside0 (Below w.heap.size w w'))
   case atStart=>exact ⟨(1),(0),(by first|rfl|(simp;done)|(simp [*];done)),(by first|rfl|(simp;done)|(simp [*];done)),H',⟨Nat.le_refl _⟩,⟨by (with_reducible repeat (first|apply Kd.R_alloc|apply Kd.R_drewN|apply Kd.R_drew));exact HO5.out⟩,⟨by (with_reducible repeat (first|apply Kd.R_alloc|apply Kd.R_drewN|apply Kd.R_drew));exact HO10.out⟩,⟨by (with_reducible repeat (first|apply Kd.R_alloc|apply Kd.R_drewN|apply Kd.R_drew));exact HO14.out⟩,⟨zl0_ HB⟩⟩
   case round=>
    clear H'
    try clear c1
    try clear p2
    try clear c5
    try clear c5b0
    try clear c5b1
    try clear c6
    try clear c13
    try clear c13b0
    try clear c13b1
    try clear p2
    obtain ⟨x12_2,x13_2,rfl,rfl,HA,HK2,HO_7,HO_9,HO_10,HB⟩:=hrel
    cases gk with
    |zero=>exact absurd HA.out (by simp [law18_PlanOrder.l0])
    |succ k2=>
     have H:=HA.out
     clear HA
     simp only [law18_PlanOrder.l0] at H
     by_cases c20:x13_2<(t11.length:Int)
     rotate_left
     ·rw [if_neg c20] at H
      have c20b0:decide (x13_2<(t11.length:Int))=false:=decide_eq_false c20
      clear c20
      replace H:=Option.bind_eq_some_iff.mp H
      obtain ⟨t17,A650,H⟩:=H
      try dsimp only at H
      have A65:=Aside0.mk A650
      clear A650
      obtain rfl:=Option.some.inj H
      obtain ⟨Ao66,co66,eo66⟩:=Kd.R_slice HO_10.out
      subst eo66
      go_wp2_with (first|(go_at_call 47;(with_reducible refine (law18_awake.calls t17 _ A65.out).mono ?_);rintro e w67 ⟨rfl,hb⟩;replace HO_7:=am_ (Kd.R_below (zr_ HO_7) hb);replace HO_9:=am_ (Kd.R_below (zr_ HO_9) hb);replace HO_10:=am_ (Kd.R_below (zr_ HO_10) hb);replace HB:=am_ (below_step (zl0_ HB) hb);(try clear hb);(try clear hb2);(try clear hk);(try clear hi)))
      repeat (go_quiet (first|(go_at_call 47;(with_reducible refine (law18_awake.calls t17 _ A65.out).mono ?_);rintro e w67 ⟨rfl,hb⟩;replace HO_7:=am_ (Kd.R_below (zr_ HO_7) hb);replace HO_9:=am_ (Kd.R_below (zr_ HO_9) hb);replace HO_10:=am_ (Kd.R_below (zr_ HO_10) hb);replace HB:=am_ (below_step (zl0_ HB) hb);(try clear hb);(try clear hb2);(try clear hk);(try clear hi)));try go_wp2_with (first|(go_at_call 47;(with_reducible refine (law18_awake.calls t17 _ A65.out).mono ?_);rintro e w67 ⟨rfl,hb⟩;replace HO_7:=am_ (Kd.R_below (zr_ HO_7) hb);replace HO_9:=am_ (Kd.R_below (zr_ HO_9) hb);replace HO_10:=am_ (Kd.R_below (zr_ HO_10) hb);replace HB:=am_ (below_step (zl0_ HB) hb);(try clear hb);(try clear hb2);(try clear hk);(try clear hi))))
      all_goals (go_ret;exact ⟨by first|rfl|(simp [errW_none,errW_some]<;>rfl)|(simp [*,errW_none,errW_some]<;>rfl),zl0_ HB⟩)
     rw [if_pos c20] at H
     have c20b0:decide (x13_2<(t11.length:Int))=true:=decide_eq_true c20
     clear c20
     have H':=Aside0.mk H
     clear H
     obtain ⟨Ao21,co21,eo21⟩:=Kd.R_slice HO_10.out
     subst eo21
     go_wp2
     repeat (go_quiet (fail);try go_wp2)
     go_loopg [15,16] k2 (fun kq sv15 sv16 w'=> ∃(x15_3:Bool) (x16_3:Int),sv15= .bool x15_3∧sv16= .int .i64 x16_3∧Aside0 (law18_PlanOrder.l1 kq t2 t8 t11 x12_2 x13_2 0 x15_3 x16_3=some r)∧Aside0 (kq≤k2)∧Aside0 (Kd.R k84 84 w' w.heap.size (fun _=>True) (.slice Ao17 t2.length co17) t2)∧Aside0 (Kd.R k39 39 w' w.heap.size (fun _=>True) (.slice Ao16 t8.length co16) t8)∧Aside0 (Kd.R k76 76 w' w.heap.size (fun _=>True) (.slice Ao21 t11.length co21) t11)∧Aside0 (Below w.heap.size w w'))
     case atStart=>exact ⟨(false),(0),(by first|rfl|(simp;done)|(simp [*];done)),(by first|rfl|(simp;done)|(simp [*];done)),H',⟨Nat.le_refl _⟩,⟨by (with_reducible repeat (first|apply Kd.R_alloc|apply Kd.R_drewN|apply Kd.R_drew));exact HO_7.out⟩,⟨by (with_reducible repeat (first|apply Kd.R_alloc|apply Kd.R_drewN|apply Kd.R_drew));exact HO_9.out⟩,⟨by (with_reducible repeat (first|apply Kd.R_alloc|apply Kd.R_drewN|apply Kd.R_drew));exact HO_10.out⟩,⟨zl0_ HB⟩⟩
     case round=>
      clear H'
      try clear c1
      try clear c2
      try clear p2
      try clear c5
      try clear c5b0
      try clear c5b1
      try clear c6
      try clear c13
      try clear c13b0
      try clear c13b1
      try clear c20
      try clear c20b0
      try clear p2
      obtain ⟨x15_3,x16_3,rfl,rfl,HA,HK3,HO_7,HO_9,HO_10,HB⟩:=hrel
      cases gk with
      |zero=>exact absurd HA.out (by simp [law18_PlanOrder.l1])
      |succ k3=>
       have H:=HA.out
       clear HA
       simp only [law18_PlanOrder.l1] at H
       by_cases c22:x16_3<(t8.length:Int)
       ·rw [if_pos c22] at H
        have c22b0:decide (x16_3<(t8.length:Int))=true:=decide_eq_true c22
        clear c22
        by_cases c23:x15_3=true
        ·subst c23
         have H1:(law18_PlanOrder.l1 k3 t2 t8 t11 x12_2 x13_2 0 true (wrap64 (x16_3+1)))=some r:=by rw [if_pos rfl] at H;exact H
         clear H
         have H:=H1
         clear H1
         have H':=Aside0.mk H
         clear H
         go_wp2
         repeat (go_quiet (fail);try go_wp2)
         go_roundg k3
         case measure=>have:=HJ3.out;have:=HK2.out;have:=HK3.out;omega
         case rel=>exact ⟨(true),(wrap64 (x16_3+1)),(by first|rfl|(simp;done)|(simp [*];done)),(by first|rfl|(simp;done)|(simp [*];done)),H',⟨by have:=HJ3.out;have:=HK2.out;have:=HK3.out;omega⟩,⟨by (with_reducible repeat (first|apply Kd.R_alloc|apply Kd.R_drewN|apply Kd.R_drew));exact HO_7.out⟩,⟨by (with_reducible repeat (first|apply Kd.R_alloc|apply Kd.R_drewN|apply Kd.R_drew));exact HO_9.out⟩,⟨by (with_reducible repeat (first|apply Kd.R_alloc|apply Kd.R_drewN|apply Kd.R_drew));exact HO_10.out⟩,⟨zl0_ HB⟩⟩
        replace c23:=Bool.eq_false_iff.mpr c23
        subst c23
        have H1:(if 0≤x16_3 then (if 0≤x13_2 then (if x13_2<(t11.length:Int) then (if ((rd_T39 t8 x16_3).f0).toList=((rd_T76 t11 x13_2).f1).toList then (law18_PlanOrder.l1 k3 t2 t8 t11 x12_2 x13_2 0 (((rd_T76 t11 x13_2).f0) !=4) (wrap64 (x16_3+1))) else (law18_PlanOrder.l1 k3 t2 t8 t11 x12_2 x13_2 0 false (wrap64 (x16_3+1)))) else (none)) else (none)) else (none))=some r:=by rw [if_neg (show¬(false=true) by decide)] at H;exact H
        clear H
        have H:=H1
        clear H1
        by_cases c24:0≤x16_3
        rotate_left
        ·rw [if_neg c24] at H
         exact absurd H (by simp)
        rw [if_pos c24] at H
        have c24b0:decide (0≤x16_3)=true:=decide_eq_true c24
        clear c24
        by_cases c25:0≤x13_2
        rotate_left
        ·rw [if_neg c25] at H
         exact absurd H (by simp)
        rw [if_pos c25] at H
        have c25b0:decide (0≤x13_2)=true:=decide_eq_true c25
        clear c25
        by_cases c26:x13_2<(t11.length:Int)
        rotate_left
        ·rw [if_neg c26] at H
         exact absurd H (by simp)
        rw [if_pos c26] at H
        have c26b0:decide (x13_2<(t11.length:Int))=true:=decide_eq_true c26
        clear c26
        by_cases c27:((rd_T39 t8 x16_3).f0).toList=((rd_T76 t11 x13_2).f1).toList
        rotate_left
        ·rw [if_neg c27] at H
         have c27b0:(((rd_T39 t8 x16_3).f0).toList==((rd_T76 t11 x13_2).f1).toList)=false:=beq_eq_false_iff_ne.mpr c27
         have c27b1:(((rd_T39 t8 x16_3).f0).toList !=((rd_T76 t11 x13_2).f1).toList)=true:=bne_iff_ne.mpr c27
         have H':=Aside0.mk H
         clear H
         have p18:0≤(x16_3:Int):=of_decide_eq_true zq_
         have q18:x16_3<(t8.length:Int):=of_decide_eq_true zq_
         obtain ⟨ad18,e18,hx18_0,hx18_1,hx18_2,hx18_3,hx18_4⟩:=at_T39 (Kd.R_reads' HO_9.out).2.2 x16_3 p18 q18
         cases e18
         replace p18:=eq_true p18
         replace q18:=eq_true q18
         have p19:0≤(x13_2:Int):=of_decide_eq_true zq_
         have q19:x13_2<(t11.length:Int):=of_decide_eq_true zq_
         obtain ⟨ad19,e19,hx19_0,hx19_1,hx19_2,hx19_3,hx19_4,hx19_5⟩:=at_T76 (Kd.R_reads' HO_10.out).2.2 x13_2 p19 q19
         cases e19
         replace p19:=eq_true p19
         replace q19:=eq_true q19
         go_wp2
         repeat (go_quiet (fail);try go_wp2)
         go_roundg k3
         case measure=>have:=HJ3.out;have:=HK2.out;have:=HK3.out;omega
         case rel=>exact ⟨(false),(wrap64 (x16_3+1)),(by first|rfl|(simp;done)|(simp [*];done)),(by first|rfl|(simp;done)|(simp [*];done)),H',⟨by have:=HJ3.out;have:=HK2.out;have:=HK3.out;omega⟩,⟨by (with_reducible repeat (first|apply Kd.R_alloc|apply Kd.R_drewN|apply Kd.R_drew));exact HO_7.out⟩,⟨by (with_reducible repeat (first|apply Kd.R_alloc|apply Kd.R_drewN|apply Kd.R_drew));exact HO_9.out⟩,⟨by (with_reducible repeat (first|apply Kd.R_alloc|apply Kd.R_drewN|apply Kd.R_drew));exact HO_10.out⟩,⟨zl0_ HB⟩⟩
        rw [if_pos c27] at H
        have c27b0:(((rd_T39 t8 x16_3).f0).toList==((rd_T76 t11 x13_2).f1).toList)=true:=beq_iff_eq.mpr c27
        have c27b1:(((rd_T39 t8 x16_3).f0).toList !=((rd_T76 t11 x13_2).f1).toList)=false:=bne_eq_false_iff_eq.mpr c27
        clear c27
        have H':=Aside0.mk H
        clear H
        have p18:0≤(x16_3:Int):=of_decide_eq_true zq_
        have q18:x16_3<(t8.length:Int):=of_decide_eq_true zq_
        obtain ⟨ad18,e18,hx18_0,hx18_1,hx18_2,hx18_3,hx18_4⟩:=at_T39 (Kd.R_reads' HO_9.out).2.2 x16_3 p18 q18
        cases e18
        replace p18:=eq_true p18
        replace q18:=eq_true q18
        have p19:0≤(x13_2:Int):=of_decide_eq_true zq_
        have q19:x13_2<(t11.length:Int):=of_decide_eq_true zq_
        obtain ⟨ad19,e19,hx19_0,hx19_1,hx19_2,hx19_3,hx19_4,hx19_5⟩:=at_T76 (Kd.R_reads' HO_10.out).2.2 x13_2 p19 q19
        cases e19
        replace p19:=eq_true p19
        replace q19:=eq_true q19
        have p20:0≤(x13_2:Int):=of_decide_eq_true zq_
        have q20:x13_2<(t11.length:Int):=of_decide_eq_true zq_
        obtain ⟨ad20,e20,hx20_0,hx20_1,hx20_2,hx20_3,hx20_4,hx20_5⟩:=at_T76 (Kd.R_reads' HO_10.out).2.2 x13_2 p20 q20
        obtain rfl:ad19=ad20:=(by injection e20)
        replace p20:=eq_true p20
        replace q20:=eq_true q20
        go_wp2
        repeat (go_quiet (fail);try go_wp2)
        go_roundg k3
        case measure=>have:=HJ3.out;have:=HK2.out;have:=HK3.out;omega
        case rel=>exact ⟨((((rd_T76 t11 x13_2).f0) !=4)),(wrap64 (x16_3+1)),(by first|rfl|(simp;done)|(simp [*];done)),(by first|rfl|(simp;done)|(simp [*];done)),H',⟨by have:=HJ3.out;have:=HK2.out;have:=HK3.out;omega⟩,⟨by (with_reducible repeat (first|apply Kd.R_alloc|apply Kd.R_drewN|apply Kd.R_drew));exact HO_7.out⟩,⟨by (with_reducible repeat (first|apply Kd.R_alloc|apply Kd.R_drewN|apply Kd.R_drew));exact HO_9.out⟩,⟨by (with_reducible repeat (first|apply Kd.R_alloc|apply Kd.R_drewN|apply Kd.R_drew));exact HO_10.out⟩,⟨zl0_ HB⟩⟩
       rw [if_neg c22] at H
       have c22b0:decide (x16_3<(t8.length:Int))=false:=decide_eq_false c22
       clear c22
       have H':=Aside0.mk H
       clear H
       go_wp2
       repeat (go_quiet (fail);try go_wp2)
       go_loopg [15,17] k3 (fun kq sv15 sv17 w'=> ∃(x15_4:Bool) (x17_4:Int),sv15= .bool x15_4∧sv17= .int .i64 x17_4∧Aside0 (law18_PlanOrder.l2 kq t2 t8 t11 x12_2 x13_2 0 x15_4 x17_4=some r)∧Aside0 (kq≤k3)∧Aside0 (Kd.R k84 84 w' w.heap.size (fun _=>True) (.slice Ao17 t2.length co17) t2)∧Aside0 (Kd.R k39 39 w' w.heap.size (fun _=>True) (.slice Ao16 t8.length co16) t8)∧Aside0 (Kd.R k76 76 w' w.heap.size (fun _=>True) (.slice Ao21 t11.length co21) t11)∧Aside0 (Below w.heap.size w w'))
       case atStart=>exact ⟨(x15_3),(0),(by first|rfl|(simp;done)|(simp [*];done)),(by first|rfl|(simp;done)|(simp [*];done)),H',⟨Nat.le_refl _⟩,⟨by (with_reducible repeat (first|apply Kd.R_alloc|apply Kd.R_drewN|apply Kd.R_drew));exact HO_7.out⟩,⟨by (with_reducible repeat (first|apply Kd.R_alloc|apply Kd.R_drewN|apply Kd.R_drew));exact HO_9.out⟩,⟨by (with_reducible repeat (first|apply Kd.R_alloc|apply Kd.R_drewN|apply Kd.R_drew));exact HO_10.out⟩,⟨zl0_ HB⟩⟩
       case round=>
        clear H'
        try clear c1
        try clear p1
        try clear q1
        try clear hx1
        try clear c2
        try clear p2
        try clear q2
        try clear hx2
        try clear c5
        try clear c5b0
        try clear c5b1
        try clear c6
        try clear p6
        try clear c13
        try clear c13b0
        try clear c13b1
        try clear p18
        try clear q18
        try clear hx18
        try clear p19
        try clear q19
        try clear hx19
        try clear c20
        try clear c20b0
        try clear p20
        try clear q20
        try clear hx20
        try clear c22
        try clear c22b0
        try clear c23
        try clear c24
        try clear c24b0
        try clear c25
        try clear c25b0
        try clear c26
        try clear c26b0
        try clear c27
        try clear c27b0
        try clear c27b1
        try clear hx18_0
        try clear hx18_1
        try clear hx18_2
        try clear hx18_3
        try clear hx18_4
        try clear hx19_0
        try clear hx19_1
        try clear hx19_2
        try clear hx19_3
        try clear hx19_4
        try clear hx19_5
        try clear hx20_0
        try clear hx20_1
        try clear hx20_2
        try clear hx20_3
        try clear hx20_4
        try clear hx20_5
        try clear p18
        try clear p19
        try clear p2
        try clear p20
        try clear q18
        try clear q19
        try clear q20
        obtain ⟨x15_4,x17_4,rfl,rfl,HA,HK4,HO_7,HO_9,HO_10,HB⟩:=hrel
        cases gk with
        |zero=>exact absurd HA.out (by simp [law18_PlanOrder.l2])
        |succ k4=>
         have H:=HA.out
         clear HA
         simp only [law18_PlanOrder.l2] at H
         by_cases c28:x17_4<(t2.length:Int)
         ·rw [if_pos c28] at H
          have c28b0:decide (x17_4<(t2.length:Int))=true:=decide_eq_true c28
          clear c28
          by_cases c29:x15_4=true
          ·subst c29
           have H1:(law18_PlanOrder.l2 k4 t2 t8 t11 x12_2 x13_2 0 true (wrap64 (x17_4+1)))=some r:=by rw [if_pos rfl] at H;exact H
           clear H
           have H:=H1
           clear H1
           have H':=Aside0.mk H
           clear H
           go_wp2
           repeat (go_quiet (fail);try go_wp2)
           go_roundg k4
           case measure=>have:=HJ3.out;have:=HK2.out;have:=HK3.out;have:=HK4.out;omega
           case rel=>exact ⟨(true),(wrap64 (x17_4+1)),(by first|rfl|(simp;done)|(simp [*];done)),(by first|rfl|(simp;done)|(simp [*];done)),H',⟨by have:=HJ3.out;have:=HK2.out;have:=HK3.out;have:=HK4.out;omega⟩,⟨by (with_reducible repeat (first|apply Kd.R_alloc|apply Kd.R_drewN|apply Kd.R_drew));exact HO_7.out⟩,⟨by (with_reducible repeat (first|apply Kd.R_alloc|apply Kd.R_drewN|apply Kd.R_drew));exact HO_9.out⟩,⟨by (with_reducible repeat (first|apply Kd.R_alloc|apply Kd.R_drewN|apply Kd.R_drew));exact HO_10.out⟩,⟨zl0_ HB⟩⟩
          replace c29:=Bool.eq_false_iff.mpr c29
          subst c29
          have H1:(if 0≤x17_4 then (if 0≤x13_2 then (if x13_2<(t11.length:Int) then (law18_PlanOrder.l2 k4 t2 t8 t11 x12_2 x13_2 0 (((rd_T84 t2 x17_4).f0).toList==((rd_T76 t11 x13_2).f1).toList) (wrap64 (x17_4+1))) else (none)) else (none)) else (none))=some r:=by rw [if_neg (show¬(false=true) by decide)] at H;exact H
          clear H
          have H:=H1
          clear H1
          by_cases c30:0≤x17_4
          rotate_left
          ·rw [if_neg c30] at H
           exact absurd H (by simp)
          rw [if_pos c30] at H
          have c30b0:decide (0≤x17_4)=true:=decide_eq_true c30
          clear c30
          by_cases c31:0≤x13_2
          rotate_left
          ·rw [if_neg c31] at H
           exact absurd H (by simp)
          rw [if_pos c31] at H
          have c31b0:decide (0≤x13_2)=true:=decide_eq_true c31
          clear c31
          by_cases c32:x13_2<(t11.length:Int)
          rotate_left
          ·rw [if_neg c32] at H
           exact absurd H (by simp)
          rw [if_pos c32] at H
          have c32b0:decide (x13_2<(t11.length:Int))=true:=decide_eq_true c32
          clear c32
          have H':=Aside0.mk H
          clear H
          have p21:0≤(x17_4:Int):=of_decide_eq_true zq_
          have q21:x17_4<(t2.length:Int):=of_decide_eq_true zq_
          obtain ⟨ad21,e21,hx21_0,hx21_1,hx21_2,hx21_3,hx21_4,hx21_5⟩:=at_T84 (Kd.R_reads' HO_7.out).2.2 x17_4 p21 q21
          cases e21
          replace p21:=eq_true p21
          replace q21:=eq_true q21
          have p22:0≤(x13_2:Int):=of_decide_eq_true zq_
          have q22:x13_2<(t11.length:Int):=of_decide_eq_true zq_
          obtain ⟨ad22,e22,hx22_0,hx22_1,hx22_2,hx22_3,hx22_4,hx22_5⟩:=at_T76 (Kd.R_reads' HO_10.out).2.2 x13_2 p22 q22
          cases e22
          replace p22:=eq_true p22
          replace q22:=eq_true q22
          go_wp2
          repeat (go_quiet (fail);try go_wp2)
          go_roundg k4
          case measure=>have:=HJ3.out;have:=HK2.out;have:=HK3.out;have:=HK4.out;omega
          case rel=>exact ⟨((((rd_T84 t2 x17_4).f0).toList==((rd_T76 t11 x13_2).f1).toList)),(wrap64 (x17_4+1)),(by first|rfl|(simp;done)|(simp [*];done)),(by first|rfl|(simp;done)|(simp [*];done)),H',⟨by have:=HJ3.out;have:=HK2.out;have:=HK3.out;have:=HK4.out;omega⟩,⟨by (with_reducible repeat (first|apply Kd.R_alloc|apply Kd.R_drewN|apply Kd.R_drew));exact HO_7.out⟩,⟨by (with_reducible repeat (first|apply Kd.R_alloc|apply Kd.R_drewN|apply Kd.R_drew));exact HO_9.out⟩,⟨by (with_reducible repeat (first|apply Kd.R_alloc|apply Kd.R_drewN|apply Kd.R_drew));exact HO_10.out⟩,⟨zl0_ HB⟩⟩
         rw [if_neg c28] at H
         have c28b0:decide (x17_4<(t2.length:Int))=false:=decide_eq_false c28
         clear c28
         by_cases c33:0≤x13_2
         rotate_left
         ·rw [if_neg c33] at H
          exact absurd H (by simp)
         rw [if_pos c33] at H
         have c33b0:decide (0≤x13_2)=true:=decide_eq_true c33
         clear c33
         by_cases c34:x13_2<(t11.length:Int)
         rotate_left
         ·rw [if_neg c34] at H
          exact absurd H (by simp)
         rw [if_pos c34] at H
         have c34b0:decide (x13_2<(t11.length:Int))=true:=decide_eq_true c34
         clear c34
         by_cases c35:((rd_T76 t11 x13_2).f0)=1
         ·rw [if_pos c35] at H
          have c35b0:(((rd_T76 t11 x13_2).f0)==1)=true:=beq_iff_eq.mpr c35
          have c35b1:(((rd_T76 t11 x13_2).f0) !=1)=false:=bne_eq_false_iff_eq.mpr c35
          clear c35
          by_cases c36:1<x12_2
          ·rw [if_pos c36] at H
           have c36b0:decide (1<x12_2)=true:=decide_eq_true c36
           clear c36
           obtain rfl:=Option.some.inj H
           have p23:0≤(x13_2:Int):=of_decide_eq_true zq_
           have q23:x13_2<(t11.length:Int):=of_decide_eq_true zq_
           obtain ⟨ad23,e23,hx23_0,hx23_1,hx23_2,hx23_3,hx23_4,hx23_5⟩:=at_T76 (Kd.R_reads' HO_10.out).2.2 x13_2 p23 q23
           cases e23
           replace p23:=eq_true p23
           replace q23:=eq_true q23
           go_wp2
           repeat (go_quiet (fail);try go_wp2)
           all_goals (go_ret;exact ⟨by first|rfl|(simp [errW_none,errW_some]<;>rfl)|(simp [*,errW_none,errW_some]<;>rfl),zl0_ HB⟩)
          rw [if_neg c36] at H
          have c36b0:decide (1<x12_2)=false:=decide_eq_false c36
          clear c36
          by_cases c37:1=4
          ·exact absurd c37 (by decide)
          (first|rw [if_neg c37] at H|rw [if_neg (show¬(1:Int)=4 by decide)] at H|rw [if_neg (fun h_=>h_)] at H)
          have c37b0:(1==4)=false:=beq_eq_false_iff_ne.mpr c37
          have c37b1:(1 !=4)=true:=bne_iff_ne.mpr c37
          by_cases c40:x15_4=true
          rotate_left
          ·replace c40:=Bool.eq_false_iff.mpr c40
           subst c40
           have H1:(some false)=some r:=by rw [if_neg (show¬(false=true) by decide)] at H;exact H
           clear H
           have H:=H1
           clear H1
           obtain rfl:=Option.some.inj H
           have p23:0≤(x13_2:Int):=of_decide_eq_true zq_
           have q23:x13_2<(t11.length:Int):=of_decide_eq_true zq_
           obtain ⟨ad23,e23,hx23_0,hx23_1,hx23_2,hx23_3,hx23_4,hx23_5⟩:=at_T76 (Kd.R_reads' HO_10.out).2.2 x13_2 p23 q23
           cases e23
           replace p23:=eq_true p23
           replace q23:=eq_true q23
           go_wp2
           repeat (go_quiet (fail);try go_wp2)
           all_goals (go_ret;exact ⟨by first|rfl|(simp [errW_none,errW_some]<;>rfl)|(simp [*,errW_none,errW_some]<;>rfl),zl0_ HB⟩)
          subst c40
          have H1:(law18_PlanOrder.l0 k4 t2 t8 t11 1 (wrap64 (x13_2+1)))=some r:=by rw [if_pos rfl] at H;exact H
          clear H
          have H:=H1
          clear H1
          have H':=Aside0.mk H
          clear H
          have p23:0≤(x13_2:Int):=of_decide_eq_true zq_
          have q23:x13_2<(t11.length:Int):=of_decide_eq_true zq_
          obtain ⟨ad23,e23,hx23_0,hx23_1,hx23_2,hx23_3,hx23_4,hx23_5⟩:=at_T76 (Kd.R_reads' HO_10.out).2.2 x13_2 p23 q23
          cases e23
          replace p23:=eq_true p23
          replace q23:=eq_true q23
          go_wp2
          repeat (go_quiet (fail);try go_wp2)
          go_roundg k4
          case measure=>have:=HJ3.out;have:=HK2.out;have:=HK3.out;have:=HK4.out;omega
          case rel=>exact ⟨(1),(wrap64 (x13_2+1)),(by first|rfl|(simp;done)|(simp [*];done)),(by first|rfl|(simp;done)|(simp [*];done)),H',⟨by have:=HJ3.out;have:=HK2.out;have:=HK3.out;have:=HK4.out;omega⟩,⟨by (with_reducible repeat (first|apply Kd.R_alloc|apply Kd.R_drewN|apply Kd.R_drew));exact HO_7.out⟩,⟨by (with_reducible repeat (first|apply Kd.R_alloc|apply Kd.R_drewN|apply Kd.R_drew));exact HO_9.out⟩,⟨by (with_reducible repeat (first|apply Kd.R_alloc|apply Kd.R_drewN|apply Kd.R_drew));exact HO_10.out⟩,⟨zl0_ HB⟩⟩
         rw [if_neg c35] at H
         have c35b0:(((rd_T76 t11 x13_2).f0)==1)=false:=beq_eq_false_iff_ne.mpr c35
         have c35b1:(((rd_T76 t11 x13_2).f0) !=1)=true:=bne_iff_ne.mpr c35
         by_cases c41:((rd_T76 t11 x13_2).f0)=3
         ·rw [if_pos c41] at H
          have c41b0:(((rd_T76 t11 x13_2).f0)==3)=true:=beq_iff_eq.mpr c41
          have c41b1:(((rd_T76 t11 x13_2).f0) !=3)=false:=bne_eq_false_iff_eq.mpr c41
          clear c41
          by_cases c42:2<x12_2
          ·rw [if_pos c42] at H
           have c42b0:decide (2<x12_2)=true:=decide_eq_true c42
           clear c42
           obtain rfl:=Option.some.inj H
           have p23:0≤(x13_2:Int):=of_decide_eq_true zq_
           have q23:x13_2<(t11.length:Int):=of_decide_eq_true zq_
           obtain ⟨ad23,e23,hx23_0,hx23_1,hx23_2,hx23_3,hx23_4,hx23_5⟩:=at_T76 (Kd.R_reads' HO_10.out).2.2 x13_2 p23 q23
           cases e23
           replace p23:=eq_true p23
           replace q23:=eq_true q23
           go_wp2
           repeat (go_quiet (fail);try go_wp2)
           all_goals (go_ret;exact ⟨by first|rfl|(simp [errW_none,errW_some]<;>rfl)|(simp [*,errW_none,errW_some]<;>rfl),zl0_ HB⟩)
          rw [if_neg c42] at H
          have c42b0:decide (2<x12_2)=false:=decide_eq_false c42
          clear c42
          by_cases c43:2=4
          ·exact absurd c43 (by decide)
          (first|rw [if_neg c43] at H|rw [if_neg (show¬(2:Int)=4 by decide)] at H|rw [if_neg (fun h_=>h_)] at H)
          have c43b0:(2==4)=false:=beq_eq_false_iff_ne.mpr c43
          have c43b1:(2 !=4)=true:=bne_iff_ne.mpr c43
          by_cases c46:x15_4=true
          rotate_left
          ·replace c46:=Bool.eq_false_iff.mpr c46
           subst c46
           have H1:(some false)=some r:=by rw [if_neg (show¬(false=true) by decide)] at H;exact H
           clear H
           have H:=H1
           clear H1
           obtain rfl:=Option.some.inj H
           have p23:0≤(x13_2:Int):=of_decide_eq_true zq_
           have q23:x13_2<(t11.length:Int):=of_decide_eq_true zq_
           obtain ⟨ad23,e23,hx23_0,hx23_1,hx23_2,hx23_3,hx23_4,hx23_5⟩:=at_T76 (Kd.R_reads' HO_10.out).2.2 x13_2 p23 q23
           cases e23
           replace p23:=eq_true p23
           replace q23:=eq_true q23
           go_wp2
           repeat (go_quiet (fail);try go_wp2)
           all_goals (go_ret;exact ⟨by first|rfl|(simp [errW_none,errW_some]<;>rfl)|(simp [*,errW_none,errW_some]<;>rfl),zl0_ HB⟩)
          subst c46
          have H1:(law18_PlanOrder.l0 k4 t2 t8 t11 2 (wrap64 (x13_2+1)))=some r:=by rw [if_pos rfl] at H;exact H
          clear H
          have H:=H1
          clear H1
          have H':=Aside0.mk H
          clear H
          have p23:0≤(x13_2:Int):=of_decide_eq_true zq_
          have q23:x13_2<(t11.length:Int):=of_decide_eq_true zq_
          obtain ⟨ad23,e23,hx23_0,hx23_1,hx23_2,hx23_3,hx23_4,hx23_5⟩:=at_T76 (Kd.R_reads' HO_10.out).2.2 x13_2 p23 q23
          cases e23
          replace p23:=eq_true p23
          replace q23:=eq_true q23
          go_wp2
          repeat (go_quiet (fail);try go_wp2)
          go_roundg k4
          case measure=>have:=HJ3.out;have:=HK2.out;have:=HK3.out;have:=HK4.out;omega
          case rel=>exact ⟨(2),(wrap64 (x13_2+1)),(by first|rfl|(simp;done)|(simp [*];done)),(by first|rfl|(simp;done)|(simp [*];done)),H',⟨by have:=HJ3.out;have:=HK2.out;have:=HK3.out;have:=HK4.out;omega⟩,⟨by (with_reducible repeat (first|apply Kd.R_alloc|apply Kd.R_drewN|apply Kd.R_drew));exact HO_7.out⟩,⟨by (with_reducible repeat (first|apply Kd.R_alloc|apply Kd.R_drewN|apply Kd.R_drew));exact HO_9.out⟩,⟨by (with_reducible repeat (first|apply Kd.R_alloc|apply Kd.R_drewN|apply Kd.R_drew));exact HO_10.out⟩,⟨zl0_ HB⟩⟩
         rw [if_neg c41] at H
         have c41b0:(((rd_T76 t11 x13_2).f0)==3)=false:=beq_eq_false_iff_ne.mpr c41
         have c41b1:(((rd_T76 t11 x13_2).f0) !=3)=true:=bne_iff_ne.mpr c41
         by_cases c47:((rd_T76 t11 x13_2).f0)=4
         ·rw [if_pos c47] at H
          have c47b0:(((rd_T76 t11 x13_2).f0)==4)=true:=beq_iff_eq.mpr c47
          have c47b1:(((rd_T76 t11 x13_2).f0) !=4)=false:=bne_eq_false_iff_eq.mpr c47
          clear c47
          by_cases c48:4<x12_2
          ·rw [if_pos c48] at H
           have c48b0:decide (4<x12_2)=true:=decide_eq_true c48
           clear c48
           obtain rfl:=Option.some.inj H
           have p23:0≤(x13_2:Int):=of_decide_eq_true zq_
           have q23:x13_2<(t11.length:Int):=of_decide_eq_true zq_
           obtain ⟨ad23,e23,hx23_0,hx23_1,hx23_2,hx23_3,hx23_4,hx23_5⟩:=at_T76 (Kd.R_reads' HO_10.out).2.2 x13_2 p23 q23
           cases e23
           replace p23:=eq_true p23
           replace q23:=eq_true q23
           go_wp2
           repeat (go_quiet (fail);try go_wp2)
           all_goals (go_ret;exact ⟨by first|rfl|(simp [errW_none,errW_some]<;>rfl)|(simp [*,errW_none,errW_some]<;>rfl),zl0_ HB⟩)
          rw [if_neg c48] at H
          have c48b0:decide (4<x12_2)=false:=decide_eq_false c48
          clear c48
          by_cases c49:4=4
          rotate_left
          ·exact absurd rfl c49
          (first|rw [if_pos c49] at H|rw [if_pos (show (4:Int)=4 by decide)] at H|rw [if_pos trivial] at H)
          have c49b0:(4==4)=true:=beq_iff_eq.mpr c49
          have c49b1:(4 !=4)=false:=bne_eq_false_iff_eq.mpr c49
          clear c49
          by_cases c50:((rd_T76 t11 x13_2).f0)=2
          ·rw [if_pos c50] at H
           have c50b0:(((rd_T76 t11 x13_2).f0)==2)=true:=beq_iff_eq.mpr c50
           have c50b1:(((rd_T76 t11 x13_2).f0) !=2)=false:=bne_eq_false_iff_eq.mpr c50
           clear c50
           obtain rfl:=Option.some.inj H
           have p23:0≤(x13_2:Int):=of_decide_eq_true zq_
           have q23:x13_2<(t11.length:Int):=of_decide_eq_true zq_
           obtain ⟨ad23,e23,hx23_0,hx23_1,hx23_2,hx23_3,hx23_4,hx23_5⟩:=at_T76 (Kd.R_reads' HO_10.out).2.2 x13_2 p23 q23
           cases e23
           replace p23:=eq_true p23
           replace q23:=eq_true q23
           have p26:0≤(x13_2:Int):=of_decide_eq_true zq_
           have q26:x13_2<(t11.length:Int):=of_decide_eq_true zq_
           obtain ⟨ad26,e26,hx26_0,hx26_1,hx26_2,hx26_3,hx26_4,hx26_5⟩:=at_T76 (Kd.R_reads' HO_10.out).2.2 x13_2 p26 q26
           obtain rfl:ad23=ad26:=(by injection e26)
           replace p26:=eq_true p26
           replace q26:=eq_true q26
           go_wp2
           repeat (go_quiet (fail);try go_wp2)
           all_goals (go_ret;exact ⟨by first|rfl|(simp [errW_none,errW_some]<;>rfl)|(simp [*,errW_none,errW_some]<;>rfl),zl0_ HB⟩)
          rw [if_neg c50] at H
          have c50b0:(((rd_T76 t11 x13_2).f0)==2)=false:=beq_eq_false_iff_ne.mpr c50
          have c50b1:(((rd_T76 t11 x13_2).f0) !=2)=true:=bne_iff_ne.mpr c50
          by_cases c51:x15_4=true
          rotate_left
          ·replace c51:=Bool.eq_false_iff.mpr c51
           subst c51
           have H1:(some false)=some r:=by rw [if_neg (show¬(false=true) by decide)] at H;exact H
           clear H
           have H:=H1
           clear H1
           obtain rfl:=Option.some.inj H
           have p23:0≤(x13_2:Int):=of_decide_eq_true zq_
           have q23:x13_2<(t11.length:Int):=of_decide_eq_true zq_
           obtain ⟨ad23,e23,hx23_0,hx23_1,hx23_2,hx23_3,hx23_4,hx23_5⟩:=at_T76 (Kd.R_reads' HO_10.out).2.2 x13_2 p23 q23
           cases e23
           replace p23:=eq_true p23
           replace q23:=eq_true q23
           have p26:0≤(x13_2:Int):=of_decide_eq_true zq_
           have q26:x13_2<(t11.length:Int):=of_decide_eq_true zq_
           obtain ⟨ad26,e26,hx26_0,hx26_1,hx26_2,hx26_3,hx26_4,hx26_5⟩:=at_T76 (Kd.R_reads' HO_10.out).2.2 x13_2 p26 q26
           obtain rfl:ad23=ad26:=(by injection e26)
           replace p26:=eq_true p26
           replace q26:=eq_true q26
           go_wp2
           repeat (go_quiet (fail);try go_wp2)
           all_goals (go_ret;exact ⟨by first|rfl|(simp [errW_none,errW_some]<;>rfl)|(simp [*,errW_none,errW_some]<;>rfl),zl0_ HB⟩)
          subst c51
          have H1:(law18_PlanOrder.l0 k4 t2 t8 t11 4 (wrap64 (x13_2+1)))=some r:=by rw [if_pos rfl] at H;exact H
          clear H
          have H:=H1
          clear H1
          have H':=Aside0.mk H
          clear H
          have p23:0≤(x13_2:Int):=of_decide_eq_true zq_
          have q23:x13_2<(t11.length:Int):=of_decide_eq_true zq_
          obtain ⟨ad23,e23,hx23_0,hx23_1,hx23_2,hx23_3,hx23_4,hx23_5⟩:=at_T76 (Kd.R_reads' HO_10.out).2.2 x13_2 p23 q23
          cases e23
          replace p23:=eq_true p23
          replace q23:=eq_true q23
          have p26:0≤(x13_2:Int):=of_decide_eq_true zq_
          have q26:x13_2<(t11.length:Int):=of_decide_eq_true zq_
          obtain ⟨ad26,e26,hx26_0,hx26_1,hx26_2,hx26_3,hx26_4,hx26_5⟩:=at_T76 (Kd.R_reads' HO_10.out).2.2 x13_2 p26 q26
          obtain rfl:ad23=ad26:=(by injection e26)
          replace p26:=eq_true p26
          replace q26:=eq_true q26
          go_wp2
          repeat (go_quiet (fail);try go_wp2)
          go_roundg k4
          case measure=>have:=HJ3.out;have:=HK2.out;have:=HK3.out;have:=HK4.out;omega
          case rel=>exact ⟨(4),(wrap64 (x13_2+1)),(by first|rfl|(simp;done)|(simp [*];done)),(by first|rfl|(simp;done)|(simp [*];done)),H',⟨by have:=HJ3.out;have:=HK2.out;have:=HK3.out;have:=HK4.out;omega⟩,⟨by (with_reducible repeat (first|apply Kd.R_alloc|apply Kd.R_drewN|apply Kd.R_drew));exact HO_7.out⟩,⟨by (with_reducible repeat (first|apply Kd.R_alloc|apply Kd.R_drewN|apply Kd.R_drew));exact HO_9.out⟩,⟨by (with_reducible repeat (first|apply Kd.R_alloc|apply Kd.R_drewN|apply Kd.R_drew));exact HO_10.out⟩,⟨zl0_ HB⟩⟩
         rw [if_neg c47] at H
         have c47b0:(((rd_T76 t11 x13_2).f0)==4)=false:=beq_eq_false_iff_ne.mpr c47
         have c47b1:(((rd_T76 t11 x13_2).f0) !=4)=true:=bne_iff_ne.mpr c47
         by_cases c53:((rd_T76 t11 x13_2).f0)=2
         rotate_left
         ·rw [if_neg c53] at H
          have c53b0:(((rd_T76 t11 x13_2).f0)==2)=false:=beq_eq_false_iff_ne.mpr c53
          have c53b1:(((rd_T76 t11 x13_2).f0) !=2)=true:=bne_iff_ne.mpr c53
          by_cases c61:0<x12_2
          ·rw [if_pos c61] at H
           have c61b0:decide (0<x12_2)=true:=decide_eq_true c61
           clear c61
           obtain rfl:=Option.some.inj H
           have p23:0≤(x13_2:Int):=of_decide_eq_true zq_
           have q23:x13_2<(t11.length:Int):=of_decide_eq_true zq_
           obtain ⟨ad23,e23,hx23_0,hx23_1,hx23_2,hx23_3,hx23_4,hx23_5⟩:=at_T76 (Kd.R_reads' HO_10.out).2.2 x13_2 p23 q23
           cases e23
           replace p23:=eq_true p23
           replace q23:=eq_true q23
           go_wp2
           repeat (go_quiet (fail);try go_wp2)
           all_goals (go_ret;exact ⟨by first|rfl|(simp [errW_none,errW_some]<;>rfl)|(simp [*,errW_none,errW_some]<;>rfl),zl0_ HB⟩)
          rw [if_neg c61] at H
          have c61b0:decide (0<x12_2)=false:=decide_eq_false c61
          clear c61
          by_cases c62:0=4
          ·exact absurd c62 (by decide)
          (first|rw [if_neg c62] at H|rw [if_neg (show¬(0:Int)=4 by decide)] at H|rw [if_neg (fun h_=>h_)] at H)
          have c62b0:(0==4)=false:=beq_eq_false_iff_ne.mpr c62
          have c62b1:(0 !=4)=true:=bne_iff_ne.mpr c62
          by_cases c64:x15_4=true
          rotate_left
          ·replace c64:=Bool.eq_false_iff.mpr c64
           subst c64
           have H1:(some false)=some r:=by rw [if_neg (show¬(false=true) by decide)] at H;exact H
           clear H
           have H:=H1
           clear H1
           obtain rfl:=Option.some.inj H
           have p23:0≤(x13_2:Int):=of_decide_eq_true zq_
           have q23:x13_2<(t11.length:Int):=of_decide_eq_true zq_
           obtain ⟨ad23,e23,hx23_0,hx23_1,hx23_2,hx23_3,hx23_4,hx23_5⟩:=at_T76 (Kd.R_reads' HO_10.out).2.2 x13_2 p23 q23
           cases e23
           replace p23:=eq_true p23
           replace q23:=eq_true q23
           go_wp2
           repeat (go_quiet (fail);try go_wp2)
           all_goals (go_ret;exact ⟨by first|rfl|(simp [errW_none,errW_some]<;>rfl)|(simp [*,errW_none,errW_some]<;>rfl),zl0_ HB⟩)
          subst c64
          have H1:(law18_PlanOrder.l0 k4 t2 t8 t11 0 (wrap64 (x13_2+1)))=some r:=by rw [if_pos rfl] at H;exact H
          clear H
          have H:=H1
          clear H1
          have H':=Aside0.mk H
          clear H
          have p23:0≤(x13_2:Int):=of_decide_eq_true zq_
          have q23:x13_2<(t11.length:Int):=of_decide_eq_true zq_
          obtain ⟨ad23,e23,hx23_0,hx23_1,hx23_2,hx23_3,hx23_4,hx23_5⟩:=at_T76 (Kd.R_reads' HO_10.out).2.2 x13_2 p23 q23
          cases e23
          replace p23:=eq_true p23
          replace q23:=eq_true q23
          go_wp2
          repeat (go_quiet (fail);try go_wp2)
          go_roundg k4
          case measure=>have:=HJ3.out;have:=HK2.out;have:=HK3.out;have:=HK4.out;omega
          case rel=>exact ⟨(0),(wrap64 (x13_2+1)),(by first|rfl|(simp;done)|(simp [*];done)),(by first|rfl|(simp;done)|(simp [*];done)),H',⟨by have:=HJ3.out;have:=HK2.out;have:=HK3.out;have:=HK4.out;omega⟩,⟨by (with_reducible repeat (first|apply Kd.R_alloc|apply Kd.R_drewN|apply Kd.R_drew));exact HO_7.out⟩,⟨by (with_reducible repeat (first|apply Kd.R_alloc|apply Kd.R_drewN|apply Kd.R_drew));exact HO_9.out⟩,⟨by (with_reducible repeat (first|apply Kd.R_alloc|apply Kd.R_drewN|apply Kd.R_drew));exact HO_10.out⟩,⟨zl0_ HB⟩⟩
         rw [if_pos c53] at H
         have c53b0:(((rd_T76 t11 x13_2).f0)==2)=true:=beq_iff_eq.mpr c53
         have c53b1:(((rd_T76 t11 x13_2).f0) !=2)=false:=bne_eq_false_iff_eq.mpr c53
         clear c53
         by_cases c54:x12_2=2
         ·rw [if_pos c54] at H
          have c54b0:(x12_2==2)=true:=beq_iff_eq.mpr c54
          have c54b1:(x12_2 !=2)=false:=bne_eq_false_iff_eq.mpr c54
          clear c54
          by_cases c55:3<x12_2
          ·rw [if_pos c55] at H
           have c55b0:decide (3<x12_2)=true:=decide_eq_true c55
           clear c55
           obtain rfl:=Option.some.inj H
           have p23:0≤(x13_2:Int):=of_decide_eq_true zq_
           have q23:x13_2<(t11.length:Int):=of_decide_eq_true zq_
           obtain ⟨ad23,e23,hx23_0,hx23_1,hx23_2,hx23_3,hx23_4,hx23_5⟩:=at_T76 (Kd.R_reads' HO_10.out).2.2 x13_2 p23 q23
           cases e23
           replace p23:=eq_true p23
           replace q23:=eq_true q23
           go_wp2
           repeat (go_quiet (fail);try go_wp2)
           all_goals (go_ret;exact ⟨by first|rfl|(simp [errW_none,errW_some]<;>rfl)|(simp [*,errW_none,errW_some]<;>rfl),zl0_ HB⟩)
          rw [if_neg c55] at H
          have c55b0:decide (3<x12_2)=false:=decide_eq_false c55
          clear c55
          by_cases c56:3=4
          ·exact absurd c56 (by decide)
          (first|rw [if_neg c56] at H|rw [if_neg (show¬(3:Int)=4 by decide)] at H|rw [if_neg (fun h_=>h_)] at H)
          have c56b0:(3==4)=false:=beq_eq_false_iff_ne.mpr c56
          have c56b1:(3 !=4)=true:=bne_iff_ne.mpr c56
          by_cases c57:x15_4=true
          rotate_left
          ·replace c57:=Bool.eq_false_iff.mpr c57
           subst c57
           have H1:(some false)=some r:=by rw [if_neg (show¬(false=true) by decide)] at H;exact H
           clear H
           have H:=H1
           clear H1
           obtain rfl:=Option.some.inj H
           have p23:0≤(x13_2:Int):=of_decide_eq_true zq_
           have q23:x13_2<(t11.length:Int):=of_decide_eq_true zq_
           obtain ⟨ad23,e23,hx23_0,hx23_1,hx23_2,hx23_3,hx23_4,hx23_5⟩:=at_T76 (Kd.R_reads' HO_10.out).2.2 x13_2 p23 q23
           cases e23
           replace p23:=eq_true p23
           replace q23:=eq_true q23
           go_wp2
           repeat (go_quiet (fail);try go_wp2)
           all_goals (go_ret;exact ⟨by first|rfl|(simp [errW_none,errW_some]<;>rfl)|(simp [*,errW_none,errW_some]<;>rfl),zl0_ HB⟩)
          subst c57
          have H1:(law18_PlanOrder.l0 k4 t2 t8 t11 3 (wrap64 (x13_2+1)))=some r:=by rw [if_pos rfl] at H;exact H
          clear H
          have H:=H1
          clear H1
          have H':=Aside0.mk H
          clear H
          have p23:0≤(x13_2:Int):=of_decide_eq_true zq_
          have q23:x13_2<(t11.length:Int):=of_decide_eq_true zq_
          obtain ⟨ad23,e23,hx23_0,hx23_1,hx23_2,hx23_3,hx23_4,hx23_5⟩:=at_T76 (Kd.R_reads' HO_10.out).2.2 x13_2 p23 q23
          cases e23
          replace p23:=eq_true p23
          replace q23:=eq_true q23
          go_wp2
          repeat (go_quiet (fail);try go_wp2)
          go_roundg k4
          case measure=>have:=HJ3.out;have:=HK2.out;have:=HK3.out;have:=HK4.out;omega
          case rel=>exact ⟨(3),(wrap64 (x13_2+1)),(by first|rfl|(simp;done)|(simp [*];done)),(by first|rfl|(simp;done)|(simp [*];done)),H',⟨by have:=HJ3.out;have:=HK2.out;have:=HK3.out;have:=HK4.out;omega⟩,⟨by (with_reducible repeat (first|apply Kd.R_alloc|apply Kd.R_drewN|apply Kd.R_drew));exact HO_7.out⟩,⟨by (with_reducible repeat (first|apply Kd.R_alloc|apply Kd.R_drewN|apply Kd.R_drew));exact HO_9.out⟩,⟨by (with_reducible repeat (first|apply Kd.R_alloc|apply Kd.R_drewN|apply Kd.R_drew));exact HO_10.out⟩,⟨zl0_ HB⟩⟩
         rw [if_neg c54] at H
         have c54b0:(x12_2==2)=false:=beq_eq_false_iff_ne.mpr c54
         have c54b1:(x12_2 !=2)=true:=bne_iff_ne.mpr c54
         by_cases c58:x12_2<x12_2
         ·exact absurd c58 (Int.lt_irrefl _)
         (first|rw [if_neg c58] at H|rw [if_neg (show¬(x12_2:Int)<x12_2 by decide)] at H|rw [if_neg (fun h_=>h_)] at H)
         have c58b0:decide (x12_2<x12_2)=false:=decide_eq_false c58
         clear c58
         by_cases c59:x12_2=4
         ·rw [if_pos c59] at H
          have c59b0:(x12_2==4)=true:=beq_iff_eq.mpr c59
          have c59b1:(x12_2 !=4)=false:=bne_eq_false_iff_eq.mpr c59
          clear c59
          obtain rfl:=Option.some.inj H
          have p23:0≤(x13_2:Int):=of_decide_eq_true zq_
          have q23:x13_2<(t11.length:Int):=of_decide_eq_true zq_
          obtain ⟨ad23,e23,hx23_0,hx23_1,hx23_2,hx23_3,hx23_4,hx23_5⟩:=at_T76 (Kd.R_reads' HO_10.out).2.2 x13_2 p23 q23
          cases e23
          replace p23:=eq_true p23
          replace q23:=eq_true q23
          have p28:0≤(x13_2:Int):=of_decide_eq_true zq_
          have q28:x13_2<(t11.length:Int):=of_decide_eq_true zq_
          obtain ⟨ad28,e28,hx28_0,hx28_1,hx28_2,hx28_3,hx28_4,hx28_5⟩:=at_T76 (Kd.R_reads' HO_10.out).2.2 x13_2 p28 q28
          obtain rfl:ad23=ad28:=(by injection e28)
          replace p28:=eq_true p28
          replace q28:=eq_true q28
          go_wp2
          repeat (go_quiet (fail);try go_wp2)
          all_goals (go_ret;exact ⟨by first|rfl|(simp [errW_none,errW_some]<;>rfl)|(simp [*,errW_none,errW_some]<;>rfl),zl0_ HB⟩)
         rw [if_neg c59] at H
         have c59b0:(x12_2==4)=false:=beq_eq_false_iff_ne.mpr c59
         have c59b1:(x12_2 !=4)=true:=bne_iff_ne.mpr c59
         by_cases c60:x15_4=true
         rotate_left
         ·replace c60:=Bool.eq_false_iff.mpr c60
          subst c60
          have H1:(some false)=some r:=by rw [if_neg (show¬(false=true) by decide)] at H;exact H
          clear H
          have H:=H1
          clear H1
          obtain rfl:=Option.some.inj H
          have p23:0≤(x13_2:Int):=of_decide_eq_true zq_
          have q23:x13_2<(t11.length:Int):=of_decide_eq_true zq_
          obtain ⟨ad23,e23,hx23_0,hx23_1,hx23_2,hx23_3,hx23_4,hx23_5⟩:=at_T76 (Kd.R_reads' HO_10.out).2.2 x13_2 p23 q23
          cases e23
          replace p23:=eq_true p23
          replace q23:=eq_true q23
          go_wp2
          repeat (go_quiet (fail);try go_wp2)
          all_goals (go_ret;exact ⟨by first|rfl|(simp [errW_none,errW_some]<;>rfl)|(simp [*,errW_none,errW_some]<;>rfl),zl0_ HB⟩)
         subst c60
         have H1:(law18_PlanOrder.l0 k4 t2 t8 t11 x12_2 (wrap64 (x13_2+1)))=some r:=by rw [if_pos rfl] at H;exact H
         clear H
         have H:=H1
         clear H1
         have H':=Aside0.mk H
         clear H
         have p23:0≤(x13_2:Int):=of_decide_eq_true zq_
         have q23:x13_2<(t11.length:Int):=of_decide_eq_true zq_
         obtain ⟨ad23,e23,hx23_0,hx23_1,hx23_2,hx23_3,hx23_4,hx23_5⟩:=at_T76 (Kd.R_reads' HO_10.out).2.2 x13_2 p23 q23
         cases e23
         replace p23:=eq_true p23
         replace q23:=eq_true q23
         go_wp2
         repeat (go_quiet (fail);try go_wp2)
         go_roundg k4
         case measure=>have:=HJ3.out;have:=HK2.out;have:=HK3.out;have:=HK4.out;omega
         case rel=>exact ⟨(x12_2),(wrap64 (x13_2+1)),(by first|rfl|(simp;done)|(simp [*];done)),(by first|rfl|(simp;done)|(simp [*];done)),H',⟨by have:=HJ3.out;have:=HK2.out;have:=HK3.out;have:=HK4.out;omega⟩,⟨by (with_reducible repeat (first|apply Kd.R_alloc|apply Kd.R_drewN|apply Kd.R_drew));exact HO_7.out⟩,⟨by (with_reducible repeat (first|apply Kd.R_alloc|apply Kd.R_drewN|apply Kd.R_drew));exact HO_9.out⟩,⟨by (with_reducible repeat (first|apply Kd.R_alloc|apply Kd.R_drewN|apply Kd.R_drew));exact HO_10.out⟩,⟨zl0_ HB⟩⟩
noncomputable def law18_PlanOrder.Pure:Prop:= ∀(l0:List Int) (l1:List Int) (a2:Int),l0.length≤maxLen→l0.length*1≤140737488351232→(∀x∈l0,(Lit.int .u8 x).wf=true)→l1.length≤maxLen→l1.length*1≤140737488351232→(∀x∈l1,(Lit.int .u8 x).wf=true)→(Lit.int .u8 a2).wf=true→ ∃k,law18_PlanOrder.f k l0 l1 a2=some true
theorem law18_PlanOrder.walk (P:law18_PlanOrder.Pure) (a0:Option Addr) (len0 cap0:Nat) (z0:List Int) (a1:Option Addr) (len1 cap1:Nat) (z1:List Int) (a2:Int) (w:World) (w0:(a0=none∧len0=0∧cap0=0∧z0=[])∨ ∃x,a0=some x∧len0≤cap0∧cap0≤maxLen∧z0.length=cap0∧(∀i,i<z0.length→w.cell? (x.add i)=some (.int .u8 (z0.getD i 0)))∧ ∀n∈z0,(Lit.int .u8 n).wf=true) (y0:len0*1≤140737488351232) (w1:(a1=none∧len1=0∧cap1=0∧z1=[])∨ ∃x,a1=some x∧len1≤cap1∧cap1≤maxLen∧z1.length=cap1∧(∀i,i<z1.length→w.cell? (x.add i)=some (.int .u8 (z1.getD i 0)))∧ ∀n∈z1,(Lit.int .u8 n).wf=true) (y1:len1*1≤140737488351232) (w2:(Lit.int .u8 a2).wf=true):
  Calls Try.prog 13 #[.slice a0 len0 cap0, .slice a1 len1 cap1, .int .u8 a2] w fun e w'=>e= .returned (.bool true)∧Below w.heap.size w w':=by
 obtain ⟨l0,rfl,hr0,hm0,hw0,hc0⟩:=ReadsInt.ofRowC w0
 obtain ⟨l1,rfl,hr1,hm1,hw1,hc1⟩:=ReadsInt.ofRowC w1
 obtain ⟨k,h⟩:=P l0 l1 a2 hm0 y0 hw0 hm1 y1 hw1 w2
 refine (law18_PlanOrder.calls k _ _ l0 _ _ l1 a2 true w (Kd.C_of_reads (d:=(0:Int)) (h1:=fun _=>rfl) hr0) hc0 (Kd.C_of_reads (d:=(0:Int)) (h1:=fun _=>rfl) hr1) hc1 h).mono ?_
 rintro e w' ⟨rfl,hd⟩
 exact ⟨rfl,hd⟩

def slices_Clone_Item.f (l0:List (S79)):Option (List (S79)):=if l0.length<1256584717458 then some l0 else none
def shape_made.f (l0:List (S79)) (a1:ByteArray):Option ((List (S79))×Int):=(slices_Clone_Item.f l0).bind fun t2=>((tree_Find.f l0 a1).bind fun t5=>(some (t2,t5)))
def shape_change_parent.f (l0_0:List (S79)) (a0_1:Int) (a1:ByteArray):Option (Bool):=if a1.toList=([]:List UInt8) then (some true) else ((tree_Find.f l0_0 a1).bind fun t2=>(some (decide (t2≥0))))
def guardF (l:List S79) (j ver:Int):Option Int:=if j<0 then some 2 else if j<(l.length:Int) then (if 0≤ver∧(rd_T79 l j).f5≠ver then some 14 else some 0) else none
def verF (y:S79):S79:=⟨y.f0,y.f1,y.f2,y.f3,y.f4,wrap64 (y.f5+1)⟩
def olderF (l:List S79) (j:Int):Option (Int×List S79):=if 0≤j∧j<(l.length:Int) then (if (rd_T79 l j).f5≥9007199254740992 then some (4,l) else some (0,l.set j.toNat (verF (rd_T79 l j)))) else none
structure Turned (W w':World) (base:Nat) (v:Value):Prop where
 below:Below base W w'
 block: ∀(k:Nat) o,W.heap[k]?=some o→some k≠v.ownBlock→w'.heap[k]?=some o
theorem Turned.of_below {W w':World} {base:Nat} {v:Value} (h:Below W.heap.size W w') (hb:base≤W.heap.size):Turned W w' base v:=⟨⟨h.os,h.tape,h.output,h.size,fun k hk=>h.block k (Nat.lt_of_lt_of_le hk hb)⟩,fun k o hk _=>blk_below hk h⟩
end Go.Proofs.Ytahidkjncljkaaa.Print

namespace Go.Proofs.Ytahidkjncljkaaa.Print
open Go.RowKit Go.Proofs.YtahidkjncljkaaaW.PrintWords Go.Proofs.YtahidkjncljkaaaW.PrintLast Go.Proofs.YtahidkjncljkaaaW.PrintMore
end Go.Proofs.Ytahidkjncljkaaa.Print

namespace Go.Proofs.Ytahidkjncljkaaa.Print
open Go.RowKit Go.Proofs.YtahidkjncljkaaaW.PrintWords Go.Proofs.YtahidkjncljkaaaW.PrintLast Go.Proofs.YtahidkjncljkaaaW.PrintMore
attribute [local go_sem] max2_int min2_int max_two min_two max_three min_three max_four min_four
def placeL (l:List S79) (n:ByteArray):Nat:=(l.takeWhile fun y=>Op.bytesLess y.f0.toList n.toList).length
def shape_Create.f (l0:List (S79)) (a1:ByteArray) (a2:ByteArray) (a3_0:Int) (a3_1:Int) (a3_2:Int):Option ((List (S79))×Int):=
 (shape_made.f l0 a1).bind fun p=>if a1.toList=([]:List UInt8) then some ([],1) else if (a1.size:Int)>24 then some ([],1) else (vec_May.f a3_0 a3_1 a3_2).bind fun m=>if m=false then some ([],1) else
  if p.2≥0 then some ([],3) else (shape_change_parent.f p.1 p.2 a2).bind fun q=>if q=false then some ([],2) else if (l0.length:Int)≥120 then some ([],4) else
   some (p.1.take (placeL l0 a1)++⟨a1,a2,⟨a3_0,a3_1,a3_2⟩,⟨0,0,0⟩,⟨0,0,0⟩,1⟩::p.1.drop (placeL l0 a1),0)
end Go.Proofs.Ytahidkjncljkaaa.Print

namespace Go.Proofs.Ytahidkjncljkaaa.Print
open Go.RowKit Go.Proofs.YtahidkjncljkaaaW.PrintWords Go.Proofs.YtahidkjncljkaaaW.PrintLast Go.Proofs.YtahidkjncljkaaaW.PrintMore
def shSub (op:S37→S37) (y:S79):S79:=⟨y.f0,y.f1,y.f2,y.f3,op y.f4,y.f5⟩
def shiftF (op:S37→S37):List ByteArray→List S79→Option (List S79)
 |[],out=>some out
 |s::us,out=>(tree_Find.f out s).bind fun j=>if 0≤j∧j<(out.length:Int) then shiftF op us (out.set j.toNat (shSub op (rd_T79 out j))) else none
end Go.Proofs.Ytahidkjncljkaaa.Print

namespace Go.Proofs.Ytahidkjncljkaaa.Print
open Go.RowKit Go.Proofs.YtahidkjncljkaaaW.PrintWords Go.Proofs.YtahidkjncljkaaaW.PrintLast Go.Proofs.YtahidkjncljkaaaW.PrintMore
attribute [local go_sem] max2_int min2_int max_two min_two max_three min_three max_four min_four

def limF (v:S37) (y:S79):S79:=⟨y.f0,y.f1,v,y.f3,y.f4,y.f5⟩
def shape_Limit.f (l0:List (S79)) (a1:ByteArray) (a2_0:Int) (a2_1:Int) (a2_2:Int) (a3:Int):Option ((List (S79))×Int):=
 (vec_May.f a2_0 a2_1 a2_2).bind fun m=>if m=false then some ([],1) else (shape_made.f l0 a1).bind fun p=>(guardF p.1 p.2 a3).bind fun e=>if e≠0 then some ([],e) else (olderF p.1 p.2).bind fun q=>if q.1≠0 then some ([],q.1) else
  (vec_Le.f (rd_T79 q.2 p.2).f4.f0 (rd_T79 q.2 p.2).f4.f1 (rd_T79 q.2 p.2).f4.f2 a2_0 a2_1 a2_2).bind fun b=>if b=false then some ([],12) else some (q.2.set p.2.toNat (limF ⟨a2_0,a2_1,a2_2⟩ (rd_T79 q.2 p.2)),0)
def slices_Index_string_string.l0:Nat→List ByteArray→ByteArray→Int→Int→Option (Int)
 |0,_,_,_,_=>none
 |k+1,x0,x1,x7,x8=>if x8<x7 then (if 0≤x8 then (if x8<(x0.length:Int) then (if x1.toList=(rdOf ByteArray.empty x0 x8).toList then (some x8) else (slices_Index_string_string.l0 k x0 x1 x7 (wrap64 (x8+1)))) else (none)) else (none)) else (some (-1))
def slices_Index_string_string.f (k:Nat) (l0:List ByteArray) (a1:ByteArray):Option (Int):=slices_Index_string_string.l0 k l0 a1 (l0.length:Int) 0
theorem slices_Index_string_string.mono_l: ∀k,(∀y0 y1 y2 y3,LeO (slices_Index_string_string.l0 k y0 y1 y2 y3) (slices_Index_string_string.l0 (k+1) y0 y1 y2 y3))
 |0=>fun _ _ _ _ r h=>by simp [slices_Index_string_string.l0] at h
 |k+1=>by
  have ih0:=slices_Index_string_string.mono_l k
  intro y0 y1 y2 y3
  unfold slices_Index_string_string.l0
  repeat' first
  |(with_reducible exact ih0 _ _ _ _)
  |(with_reducible exact LeO.refl _)
  |(with_reducible exact LeO.none _)
  |(with_reducible refine LeO.ite ?_ ?_)
  |(with_reducible refine LeO.bind ?_ (fun _=> ?_))
  |exact ih0 _ _ _ _
  |exact LeO.none _
  |refine LeO.ite ?_ ?_
  |refine LeO.bind ?_ (fun _=> ?_)
theorem slices_Index_string_string.mono: ∀a0 a1 k,LeO (slices_Index_string_string.f k a0 a1) (slices_Index_string_string.f (k+1) a0 a1):=by
 intro a0 a1 k
 have ih0:=slices_Index_string_string.mono_l k
 unfold slices_Index_string_string.f
 repeat' first
  |(with_reducible exact ih0 _ _ _ _)
  |(with_reducible exact LeO.refl _)
  |(with_reducible exact LeO.none _)
  |(with_reducible refine LeO.ite ?_ ?_)
  |(with_reducible refine LeO.bind ?_ (fun _=> ?_))
  |exact ih0 _ _ _ _
  |exact LeO.none _
  |refine LeO.ite ?_ ?_
  |refine LeO.bind ?_ (fun _=> ?_)
def slices_Contains_string_string.f (k:Nat) (l0:List ByteArray) (a1:ByteArray):Option (Bool):=(slices_Index_string_string.f k l0 a1).bind fun t1=>(some (decide (t1≥0)))
theorem slices_Contains_string_string.mono: ∀a0 a1 k,LeO (slices_Contains_string_string.f k a0 a1) (slices_Contains_string_string.f (k+1) a0 a1):=by
 intro a0 a1 k
 unfold slices_Contains_string_string.f
 repeat' first
  |(with_reducible exact slices_Index_string_string.mono _ _ _)
  |(with_reducible exact LeO.refl _)
  |(with_reducible exact LeO.none _)
  |(with_reducible refine LeO.ite ?_ ?_)
  |(with_reducible refine LeO.bind ?_ (fun _=> ?_))
  |exact slices_Index_string_string.mono _ _ _
  |exact LeO.none _
  |refine LeO.ite ?_ ?_
  |refine LeO.bind ?_ (fun _=> ?_)
def mvAdd (v u:S37):S37:=⟨((vec_Add.f [u,v]).getD (0,0,0)).1,((vec_Add.f [u,v]).getD (0,0,0)).2.1,((vec_Add.f [u,v]).getD (0,0,0)).2.2⟩
def mvSub (v u:S37):S37:=⟨wrap64 (u.f0 - v.f0),wrap64 (u.f1 - v.f1),wrap64 (u.f2 - v.f2)⟩
def fitsF (k:Nat) (l:List S79) (from_:List ByteArray) (sub:S37):List ByteArray→Option Bool
  |[]=>some true
  | s :: us => (tree_Find.f l s).bind fun j => if 0 ≤ j ∧ j < (l.length : Int) then (slices_Contains_string_string.f k from_ s).bind fun c => if c = true then fitsF k l from_ sub us else
      (vec_Le.f (mvAdd sub (rd_T79 l j).f4).f0 (mvAdd sub (rd_T79 l j).f4).f1 (mvAdd sub (rd_T79 l j).f4).f2 (rd_T79 l j).f2.f0 (rd_T79 l j).f2.f1 (rd_T79 l j).f2.f2).bind fun b=>if b=true then fitsF k l from_ sub us else some false else none
theorem fitsF_mono (l:List S79) (from_:List ByteArray) (sub:S37) (k:Nat): ∀us,LeO (fitsF k l from_ sub us) (fitsF (k+1) l from_ sub us)
  |[]=>LeO.refl _
  | s :: us => by
    unfold fitsF
    refine LeO.bind (LeO.refl _) (fun j=>LeO.ite (LeO.bind (slices_Contains_string_string.mono _ _ _) (fun c=>LeO.ite (fitsF_mono l from_ sub k us) (LeO.bind (LeO.refl _) (fun b=>LeO.ite (fitsF_mono l from_ sub k us) (LeO.refl _))))) (LeO.refl _))
def parF (p:ByteArray) (y:S79):S79:=⟨y.f0,p,y.f2,y.f3,y.f4,y.f5⟩
def shape_Move.f (k:Nat) (l0:List (S79)) (a1:ByteArray) (a2:ByteArray) (a3:Int):Option ((List (S79))×Int):=
 (shape_made.f l0 a1).bind fun p=>(guardF p.1 p.2 a3).bind fun e=>if e≠0 then some ([],e) else (tree_Up.f k l0 a2).bind fun ts=>(shape_change_parent.f p.1 p.2 a2).bind fun q=>if q=false then some ([],2) else
  (slices_Contains_string_string.f k ts a1).bind fun c=>if c=true then some ([],10) else (olderF p.1 p.2).bind fun o=>if o.1≠0 then some ([],o.1) else
   (tree_Up.f k l0 (rd_T79 o.2 p.2).f1).bind fun fs=>(fitsF k l0 fs (rd_T79 o.2 p.2).f4 ts).bind fun b=>if b=false then some ([],12) else
    (shiftF (mvSub (rd_T79 o.2 p.2).f4) fs o.2).bind fun l3=>(shiftF (mvAdd (rd_T79 o.2 p.2).f4) ts l3).bind fun l4=>some (l4.set p.2.toNat (parF a2 (rd_T79 l4 p.2)),0)
theorem shape_Move.mono: ∀a0 a1 a2 a3 k,LeO (shape_Move.f k a0 a1 a2 a3) (shape_Move.f (k+1) a0 a1 a2 a3):=by
 intro a0 a1 a2 a3 k
 unfold shape_Move.f
 repeat' first
  |(with_reducible exact tree_Up.mono _ _ _)
  |(with_reducible exact slices_Contains_string_string.mono _ _ _)
  |(with_reducible exact fitsF_mono _ _ _ _ _)
  |(with_reducible exact LeO.refl _)
  |(with_reducible exact LeO.none _)
  |(with_reducible refine LeO.ite ?_ ?_)
  |(with_reducible refine LeO.bind ?_ (fun _=> ?_))
def tree_Below.l0:Nat→ByteArray→List ByteArray→List (S79)→Int→Int→Option (List ByteArray)
 |0,_,_,_,_,_=>none
 |k+1,x1,x5,x8,x9,x10=>if x10<x9 then (if 0≤x10 then (if x10<(x8.length:Int) then (if ((rd_T79 x8 x10).f1).toList=x1.toList then (if x5.length<8796093022208 then (tree_Below.l0 k x1 (x5++ [(rd_T79 x8 x10).f0]) x8 x9 (wrap64 (x10+1))) else (none)) else (tree_Below.l0 k x1 x5 x8 x9 (wrap64 (x10+1)))) else (none)) else (none)) else (some x5)
def tree_Below.f (k:Nat) (l0:List (S79)) (a1:ByteArray):Option (List ByteArray):=tree_Below.l0 k a1 ([]:List ByteArray) l0 (l0.length:Int) 0
theorem tree_Below.mono_l: ∀k,(∀y0 y1 y2 y3 y4,LeO (tree_Below.l0 k y0 y1 y2 y3 y4) (tree_Below.l0 (k+1) y0 y1 y2 y3 y4))
 |0=>fun _ _ _ _ _ r h=>by simp [tree_Below.l0] at h
 |k+1=>by
  have ih0:=tree_Below.mono_l k
  intro y0 y1 y2 y3 y4
  unfold tree_Below.l0
  repeat' first
  |(with_reducible exact ih0 _ _ _ _ _)
  |(with_reducible exact LeO.refl _)
  |(with_reducible exact LeO.none _)
  |(with_reducible refine LeO.ite ?_ ?_)
  |(with_reducible refine LeO.bind ?_ (fun _=> ?_))
  |exact ih0 _ _ _ _ _
  |exact LeO.none _
  |refine LeO.ite ?_ ?_
  |refine LeO.bind ?_ (fun _=> ?_)
theorem tree_Below.mono: ∀a0 a1 k,LeO (tree_Below.f k a0 a1) (tree_Below.f (k+1) a0 a1):=by
 intro a0 a1 k
 have ih0:=tree_Below.mono_l k
 unfold tree_Below.f
 repeat' first
  |(with_reducible exact ih0 _ _ _ _ _)
  |(with_reducible exact LeO.refl _)
  |(with_reducible exact LeO.none _)
  |(with_reducible refine LeO.ite ?_ ?_)
  |(with_reducible refine LeO.bind ?_ (fun _=> ?_))
  |exact ih0 _ _ _ _ _
  |exact LeO.none _
  |refine LeO.ite ?_ ?_
  |refine LeO.bind ?_ (fun _=> ?_)
def shape_Delete.f (k:Nat) (l0:List (S79)) (a1:ByteArray) (a2:Int):Option ((List (S79))×Int):=
 (shape_made.f l0 a1).bind fun p=>(guardF p.1 p.2 a2).bind fun e=>if e≠0 then some ([],e) else (tree_Below.f k l0 a1).bind fun b=>if (b.length:Int)>0 then some ([],13) else
  if (rd_T79 p.1 p.2).f3.f0=0∧(rd_T79 p.1 p.2).f3.f1=0∧(rd_T79 p.1 p.2).f3.f2=0 then some (p.1.take p.2.toNat++p.1.drop (p.2.toNat+1),0) else some ([],13)
theorem shape_Delete.mono: ∀a0 a1 a2 k,LeO (shape_Delete.f k a0 a1 a2) (shape_Delete.f (k+1) a0 a1 a2):=by
 intro a0 a1 a2 k
 unfold shape_Delete.f
 repeat' first
  |(with_reducible exact tree_Below.mono _ _ _)
  |(with_reducible exact LeO.refl _)
  |(with_reducible exact LeO.none _)
  |(with_reducible refine LeO.ite ?_ ?_)
  |(with_reducible refine LeO.bind ?_ (fun _=> ?_))
def shape_Do.f (k:Nat) (l0:List (S79)) (a1_0:Int) (a1_1:ByteArray) (a1_2:ByteArray) (a1_3:Int) (a1_4:Int) (a1_5:Int) (a2:Int):Option ((List (S79))×Int):=if a1_0=1 then ((shape_Create.f l0 a1_1 a1_2 a1_3 a1_4 a1_5).bind fun bt2=>(some (bt2.1,bt2.2))) else (if a1_0=2 then ((shape_Limit.f l0 a1_1 a1_3 a1_4 a1_5 a2).bind fun bt6=>(some (bt6.1,bt6.2))) else (if a1_0=3 then ((shape_Move.f k l0 a1_1 a1_2 a2).bind fun bt10=>(some (bt10.1,bt10.2))) else (if a1_0=4 then ((shape_Delete.f k l0 a1_1 a2).bind fun bt14=>(some (bt14.1,bt14.2))) else (some (([]:List (S79)),1)))))
theorem shape_Do.mono: ∀a0 a1 a2 a3 a4 a5 a6 a7 k,LeO (shape_Do.f k a0 a1 a2 a3 a4 a5 a6 a7) (shape_Do.f (k+1) a0 a1 a2 a3 a4 a5 a6 a7):=by
 intro a0 a1 a2 a3 a4 a5 a6 a7 k
 unfold shape_Do.f
 repeat' first
  |(with_reducible exact shape_Delete.mono _ _ _ _)
  |(with_reducible exact shape_Move.mono _ _ _ _ _)
  |(with_reducible exact LeO.refl _)
  |(with_reducible exact LeO.none _)
  |(with_reducible refine LeO.ite ?_ ?_)
  |(with_reducible refine LeO.bind ?_ (fun _=> ?_))
  |exact shape_Delete.mono _ _ _ _
  |exact shape_Move.mono _ _ _ _ _
  |exact LeO.none _
  |refine LeO.ite ?_ ?_
  |refine LeO.bind ?_ (fun _=> ?_)
def Kept (b:Nat) (W w:World):Prop:=(∀g ob,g≠b→W.heap[g]?=some ob→w.heap[g]?=some ob)∧W.heap.size≤w.heap.size
def trial_try.l0:Nat→List (S76)→Int→List (S79)→Int→Option ((List (S79))×Int×Int)
 |0,_,_,_,_=>none
 |k+1,ss,x,lc,dc=>if x<(ss.length:Int) then (if 0≤x then ((shape_Do.f k lc (rd_T76 ss x).f0 (rd_T76 ss x).f1 (rd_T76 ss x).f2 (rd_T76 ss x).f3.f0 (rd_T76 ss x).f3.f1 (rd_T76 ss x).f3.f2 (-1)).bind fun bt7=>if bt7.2=0 then trial_try.l0 k ss (wrap64 (x+1)) bt7.1 (wrap64 (dc+1)) else some (lc,dc,bt7.2)) else none) else some (lc,dc,0)
theorem trial_try.mono_l: ∀k y0 y1 y2 y3,LeO (trial_try.l0 k y0 y1 y2 y3) (trial_try.l0 (k+1) y0 y1 y2 y3)
  |0=>fun _ _ _ _ r h=>by simp [trial_try.l0] at h
  | k + 1 => by
    have ih0:=trial_try.mono_l k
    intro y0 y1 y2 y3
    unfold trial_try.l0
    repeat' first
      |(with_reducible exact ih0 _ _ _ _)
      |(with_reducible exact shape_Do.mono _ _ _ _ _ _ _ _ _)
      |(with_reducible exact LeO.refl _)
      |(with_reducible exact LeO.none _)
      |(with_reducible refine LeO.ite ?_ ?_)
      |(with_reducible refine LeO.bind ?_ (fun _=> ?_))
theorem eqA79 (d:Nat) (w:World) (x0 y0:ByteArray) (x1 y1:ByteArray) (x2 y2:Int) (x3 y3:Int) (x4 y4:Int) (x5 y5:Int) (x6 y6:Int) (x7 y7:Int) (x8 y8:Int) (x9 y9:Int) (x10 y10:Int) (x11 y11:Int):
  (Op.equalIn (d+3) 79 (.agg #[.string x0, .string x1, .int .i64 x2, .int .i64 x3, .int .i64 x4, .int .i64 x5, .int .i64 x6, .int .i64 x7, .int .i64 x8, .int .i64 x9, .int .i64 x10, .int .i64 x11]) (.agg #[.string y0, .string y1, .int .i64 y2, .int .i64 y3, .int .i64 y4, .int .i64 y5, .int .i64 y6, .int .i64 y7, .int .i64 y8, .int .i64 y9, .int .i64 y10, .int .i64 y11])).run Try.prog w= .ok (x0.toList==y0.toList && (x1.toList==y1.toList && ((x2==y2 && (x3==y3 && (x4==y4))) && ((x5==y5 && (x6==y6 && (x7==y7))) && ((x8==y8 && (x9==y9 && (x10==y10))) && (x11==y11)))))) w:=by
 refine eqA_of Try.underlying79 (by kernel_rfl) ?_
 refine eqf_cons (by rfl) (by go_simp;rfl) (by go_simp;rfl) (by go_simp) ?_
 refine eqf_cons (by rfl) (by go_simp;rfl) (by go_simp;rfl) (by go_simp) ?_
 refine eqf_cons (by rfl) (by go_simp) (by go_simp) (eqA37 (d+0) w _ _ _ _ _ _) ?_
 refine eqf_cons (by rfl) (by go_simp) (by go_simp) (eqA37 (d+0) w _ _ _ _ _ _) ?_
 refine eqf_cons (by rfl) (by go_simp) (by go_simp) (eqA37 (d+0) w _ _ _ _ _ _) ?_
 exact eqf_last (by rfl) (by go_simp;rfl) (by go_simp;rfl) (by go_simp)
attribute [local go_sem high] eqA79
end Go.Proofs.Ytahidkjncljkaaa.Print

namespace Go.Proofs.Ytahidkjncljkaaa.Print
open Go.RowKit Go.Proofs.YtahidkjncljkaaaW.PrintWords Go.Proofs.YtahidkjncljkaaaW.PrintLast Go.Proofs.YtahidkjncljkaaaW.PrintMore
end Go.Proofs.Ytahidkjncljkaaa.Print

namespace Go.Proofs.Ytahidkjncljkaaa.Print
open Go.RowKit Go.Proofs.YtahidkjncljkaaaW.PrintWords Go.Proofs.YtahidkjncljkaaaW.PrintLast Go.Proofs.YtahidkjncljkaaaW.PrintMore
attribute [local go_sem] max2_int min2_int max_two min_two max_three min_three max_four min_four

end Go.Proofs.Ytahidkjncljkaaa.Print

namespace Go.Proofs.Ytahidkjncljkaaa.Print
open Go.RowKit Go.Proofs.YtahidkjncljkaaaW.PrintWords Go.Proofs.YtahidkjncljkaaaW.PrintLast Go.Proofs.YtahidkjncljkaaaW.PrintMore
end Go.Proofs.Ytahidkjncljkaaa.Print

namespace Go.Proofs.Ytahidkjncljkaaa.Print
open Go.RowKit Go.Proofs.YtahidkjncljkaaaW.PrintWords Go.Proofs.YtahidkjncljkaaaW.PrintLast Go.Proofs.YtahidkjncljkaaaW.PrintMore
attribute [local go_sem] max2_int min2_int max_two min_two max_three min_three max_four min_four

end Go.Proofs.Ytahidkjncljkaaa.Print

namespace Go.Proofs.Ytahidkjncljkaaa.Print
open Go.RowKit Go.Proofs.YtahidkjncljkaaaW.PrintWords Go.Proofs.YtahidkjncljkaaaW.PrintLast Go.Proofs.YtahidkjncljkaaaW.PrintMore
end Go.Proofs.Ytahidkjncljkaaa.Print

namespace Go.Proofs.Ytahidkjncljkaaa.Print
open Go.RowKit Go.Proofs.YtahidkjncljkaaaW.PrintWords Go.Proofs.YtahidkjncljkaaaW.PrintLast Go.Proofs.YtahidkjncljkaaaW.PrintMore
attribute [local go_sem] max2_int min2_int max_two min_two max_three min_three max_four min_four

attribute [local go_sem high] eqA37
end Go.Proofs.Ytahidkjncljkaaa.Print

namespace Go.Proofs.Ytahidkjncljkaaa.Print
open Go.RowKit Go.Proofs.YtahidkjncljkaaaW.PrintWords Go.Proofs.YtahidkjncljkaaaW.PrintLast Go.Proofs.YtahidkjncljkaaaW.PrintMore
end Go.Proofs.Ytahidkjncljkaaa.Print

namespace Go.Proofs.Ytahidkjncljkaaa.Print
open Go.RowKit Go.Proofs.YtahidkjncljkaaaW.PrintWords Go.Proofs.YtahidkjncljkaaaW.PrintLast Go.Proofs.YtahidkjncljkaaaW.PrintMore
attribute [local go_sem] max2_int min2_int max_two min_two max_three min_three max_four min_four

end Go.Proofs.Ytahidkjncljkaaa.Print

namespace Go.Proofs.Ytahidkjncljkaaa.Print
open Go.RowKit Go.Proofs.YtahidkjncljkaaaW.PrintWords Go.Proofs.YtahidkjncljkaaaW.PrintLast Go.Proofs.YtahidkjncljkaaaW.PrintMore
end Go.Proofs.Ytahidkjncljkaaa.Print

namespace Go.Proofs.Ytahidkjncljkaaa.Print
open Go.RowKit Go.Proofs.YtahidkjncljkaaaW.PrintWords Go.Proofs.YtahidkjncljkaaaW.PrintLast Go.Proofs.YtahidkjncljkaaaW.PrintMore
attribute [local go_sem] max2_int min2_int max_two min_two max_three min_three max_four min_four

end Go.Proofs.Ytahidkjncljkaaa.Print

namespace Go.Proofs.Ytahidkjncljkaaa.Print
open Go.RowKit Go.Proofs.YtahidkjncljkaaaW.PrintWords Go.Proofs.YtahidkjncljkaaaW.PrintLast Go.Proofs.YtahidkjncljkaaaW.PrintMore
end Go.Proofs.Ytahidkjncljkaaa.Print

namespace Go.Proofs.Ytahidkjncljkaaa.Print
open Go.RowKit Go.Proofs.YtahidkjncljkaaaW.PrintWords Go.Proofs.YtahidkjncljkaaaW.PrintLast Go.Proofs.YtahidkjncljkaaaW.PrintMore
attribute [local go_sem] max2_int min2_int max_two min_two max_three min_three max_four min_four

end Go.Proofs.Ytahidkjncljkaaa.Print

namespace Go.Proofs.Ytahidkjncljkaaa.Print
open Go.RowKit Go.Proofs.YtahidkjncljkaaaW.PrintWords Go.Proofs.YtahidkjncljkaaaW.PrintLast Go.Proofs.YtahidkjncljkaaaW.PrintMore
end Go.Proofs.Ytahidkjncljkaaa.Print

namespace Go.Proofs.Ytahidkjncljkaaa.Print
open Go.RowKit Go.Proofs.YtahidkjncljkaaaW.PrintWords Go.Proofs.YtahidkjncljkaaaW.PrintLast
def idle (x:Item):Item:=⟨x.f0,x.f1,x.f2,⟨0,0,0⟩,⟨0,0,0⟩,x.f5⟩
structure St (t:List Item) (v m:Nat) (A:ByteArray→Option ByteArray):Prop where
 right:RightP t
 idle: ∀x∈t,x.f3=⟨0,0,0⟩∧x.f4=⟨0,0,0⟩
 ver: ∀x∈t,x.f5≤v
 len:t.length≤m
 par: ∀n,(look t n).map (·.f1)=A n
theorem St.some {t:List Item} {v m:Nat} {A:ByteArray→Option ByteArray} (S:St t v m A) {n p:ByteArray} (h:A n=some p): ∃x,look t n=some x∧x.f1=p:=by
  have:=S.par n
  rw [h] at this
  cases e:look t n with
  |none=>rw [e] at this;cases this
  | some x =>
    rw [e] at this
    exact ⟨x,rfl,Option.some.inj this⟩
theorem St.none {t:List Item} {v m:Nat} {A:ByteArray→Option ByteArray} (S:St t v m A) {n:ByteArray} (h:A n=none):look t n=none:=by
 have:=S.par n
 rw [h] at this
 cases e:look t n with
 |none=>rfl
 |some x=>rw [e] at this;cases this
theorem St.le {t:List Item} {v m v' m':Nat} {A:ByteArray→Option ByteArray} (S:St t v m A) (h:v≤v') (k:m≤m'):St t v' m' A:=⟨S.right,S.idle,fun x hx=>by have:=S.ver x hx;omega,by have:=S.len;omega,S.par⟩
theorem St.congr {t:List Item} {v m:Nat} {A B:ByteArray→Option ByteArray} (S:St t v m A) (h: ∀n,A n=B n):St t v m B:=⟨S.right,S.idle,S.ver,S.len,fun n=>(S.par n).trans (h n)⟩
theorem zero_le {v:Vec} (h:MayP v):LeP (⟨0,0,0⟩:Vec) v:=by
 obtain ⟨a,b,c⟩:=v
 rw [mayP_iff] at h
 rw [leP_iff]
 omega
structure TopOK (top:List Want):Prop where
 nodup:(top.map (·.f0)).Nodup
 par: ∀(pre post:List Want) (w:Want),top=pre++w::post→w.f1=⟨#[]⟩∨ ∃u∈pre,u.f0=w.f1
 may: ∀w∈top,(w.f0≠⟨#[]⟩∧w.f0.size≤24)∧MayP w.f2
def A0 (l:List Item) (n:ByteArray):Option ByteArray:=(look l n).map (·.f1)
section
variable {l:List Item} {top:List Want}
end
theorem befG_iff {l:List Item} {n a:ByteArray}:befG l n a=true↔depU l n<depU l a∨(depU l a=depU l n∧lt a n=true):=by unfold befG;simp
theorem befG_trans {l:List Item} {a b c:ByteArray} (h:befG l b a=true) (k:befG l c b=true):befG l c a=true:=by
  rw [befG_iff] at h k ⊢
  rcases h with h|⟨h,h'⟩<;>rcases k with k|⟨k,k'⟩
  · exact .inl (by omega)
  · exact .inl (by omega)
  · exact .inl (by omega)
  exact .inr ⟨by omega,lt_trans h' k'⟩
theorem befG_total {l:List Item} {a n:ByteArray} (h:befG l n a=false) (hn:a≠n):befG l a n=true:=by
  rw [←Bool.not_eq_true,befG_iff] at h
  rw [befG_iff]
  by_cases e:depU l a=depU l n
  rotate_left
  · exact .inl (by have: ¬depU l n<depU l a:=fun q=>h (.inl q);omega)
  refine .inr ⟨e.symm,lt_total ?_ hn⟩
  rw [←Bool.not_eq_true]
  exact fun q=>h (.inr ⟨e,q⟩)
theorem insG_perm (l:List Item) (n:ByteArray) (out:List ByteArray):(insG l n out).Perm (n::out):=by
 unfold insG
 have:=List.perm_middle (a:=n) (l₁:=out.takeWhile (befG l n)) (l₂:=out.dropWhile (befG l n))
 rwa [List.takeWhile_append_dropWhile] at this
def goneN (ws:List Want) (ms:List PMark):List ByteArray:=(ms.filter (fun m=> !isWant ws m.f0)).map (·.f0)
theorem goesGo_perm (ws:List Want) (l:List Item): ∀(ms:List PMark) (out:List ByteArray),(goesGo ws l out ms).Perm (out++goneN ws ms)
  |[],out=>by rw [goesGo];show List.Perm out (out++ []);rw [List.append_nil]
  | m :: ms, out => by
    rw [goesGo]
    by_cases c:isWant ws m.f0=true
    · rw [if_pos c]
      have:goneN ws (m::ms)=goneN ws ms:=by unfold goneN;rw [List.filter_cons_of_neg (by rw [c];simp)]
      rw [this]
      exact goesGo_perm ws l ms out
    rw [if_neg c]
    have:goneN ws (m::ms)=m.f0::goneN ws ms:=by unfold goneN;rw [List.filter_cons_of_pos (by rw [Bool.eq_false_iff.2 c];rfl)];rfl
    rw [this]
    refine (goesGo_perm ws l ms _).trans (((insG_perm l m.f0 out).append_right _).trans ?_)
    exact List.perm_middle.symm
end Go.Proofs.Ytahidkjncljkaaa.Print

namespace Go.Proofs.Ytahidkjncljkaaa.Print
open Go.RowKit Go.Proofs.YtahidkjncljkaaaW.PrintWords Go.Proofs.YtahidkjncljkaaaW.PrintLast Go.Proofs.YtahidkjncljkaaaW.PrintMore
theorem mx_zero {a:Int} (h:0≤a):mx 0 a=a:=by unfold mx;split<;>omega
theorem mx3 {a b:Int} (h:0≤b):mx (mx 0 a) b=mx a b:=by unfold mx;repeat' split<;>omega
theorem nowG_eq {l:List Item} (wide:Bool) {y:Want} (h:MayP y.f2):nowG wide (goalOf l y)=upV l wide y:=by
  have h0:=(mayP_iff.1 h).1.1
  have h1:=(mayP_iff.1 h).2.1.1
  have h2:=(mayP_iff.1 h).2.2.1
  unfold nowG upV
  cases wide with
  |true=>rfl
  | false =>
    rw [if_neg (by simp),if_neg (by simp)]
    unfold goalOf
    cases look l y.f0 with
    | none =>
      show (⟨mx (mx 0 0) y.f2.f0,mx (mx 0 0) y.f2.f1,mx (mx 0 0) y.f2.f2⟩:Vec)=y.f2
      rw [mx3 h0,mx3 h1,mx3 h2,mx_zero h0,mx_zero h1,mx_zero h2]
    | some x =>
      show (⟨mx (mx 0 x.f2.f0) y.f2.f0,mx (mx 0 x.f2.f1) y.f2.f1,mx (mx 0 x.f2.f2) y.f2.f2⟩:Vec)=_
      rw [mx3 h0,mx3 h1,mx3 h2]
theorem bq (a b:Int):(a==b)=(b==a):=by
 rw [Bool.eq_iff_iff,beq_iff_eq,beq_iff_eq]
 exact ⟨Eq.symm,Eq.symm⟩
theorem neG_neV (a b:Vec):neG a b=neV b a:=by
 unfold neG neV
 rw [show (a.f0==b.f0)=(b.f0==a.f0) from bq _ _,show (a.f1==b.f1)=(b.f1==a.f1) from bq _ _,show (a.f2==b.f2)=(b.f2==a.f2) from bq _ _]
theorem upG_f (l:List Item) (wide:Bool) (y:Want):(upG wide (goalOf l y)).f0=y∧(upG wide (goalOf l y)).f1=(goalOf l y).f1∧(upG wide (goalOf l y)).f2=(goalOf l y).f2∧(goalOf l y).f0=y:=by
 have:(goalOf l y).f0=y:=by unfold goalOf;split<;>rfl
 exact ⟨this,rfl,rfl,this⟩
theorem raise_eq {l:List Item} (wide:Bool) {y:Want} (h:MayP y.f2):raiseG wide (goalOf l y)=raiseS l wide y:=by
 have e:=nowG_eq (l:=l) wide h
 have q: ∀z:PGoal,raiseG wide z=if z.f2=false then [⟨1,z.f0.f0,z.f0.f1,nowG wide z⟩] else if neG (nowG wide z) z.f1.f2=true then [⟨2,z.f0.f0,⟨#[]⟩,nowG wide z⟩] else []:=fun z=>rfl
 rw [q,e,neG_neV,(upG_f l wide y).2.2.2]
 unfold raiseS goalOf
 cases look l y.f0 with
 |none=>exact if_pos rfl
 |some x=>exact if_neg (by simp)
theorem move_eq {l:List Item} (wide:Bool) (y:Want):moveG (upG wide (goalOf l y))=moveS l y:=by
  have q: ∀z:PGoal,moveG (upG wide z)=if z.f2=true∧z.f1.f1.toList≠z.f0.f1.toList then [⟨3,z.f0.f0,z.f0.f1,⟨0,0,0⟩⟩] else []:=fun z=>rfl
  rw [q,(upG_f l wide y).2.2.2]
  unfold moveS goalOf
  cases look l y.f0 with
  |none=>exact if_neg (by simp [gzero])
  | some x =>
    dsimp only
    by_cases c:x.f1=y.f1
    · rw [if_pos c,if_neg (by rw [c];simp)]
    rw [if_neg c,if_pos ⟨rfl,nm_ne.2 c⟩]
theorem lower_eq {l:List Item} (wide:Bool) {y:Want} (h:MayP y.f2):lowerG (upG wide (goalOf l y))=lowerS l wide y:=by
 have q: ∀z:PGoal,lowerG (upG wide z)=if neG (nowG wide z) z.f0.f2=true then [⟨2,z.f0.f0,⟨#[]⟩,z.f0.f2⟩] else []:=fun z=>rfl
 rw [q,nowG_eq wide h,neG_neV,(upG_f l wide y).2.2.2]
 unfold lowerS
 rw [show neV y.f2 (upV l wide y)=neV (upV l wide y) y.f2 from Bool.eq_iff_iff.2 (by rw [neV_iff,neV_iff];exact ⟨fun a b=>a b.symm,fun a b=>a b.symm⟩)]
theorem wide_eq (l:List Item) (ms:List PMark): ∀(ys:List Want) (b:Bool),wideP l ms b ys=wideGo l ms b ys
  |[],b=>rfl
  | y :: ys, b => by
    have q:(ms.any (fun m=>m.f0.toList==y.f0.toList))=(mlook ms y.f0).isSome:=by
      unfold mlook
      rw [List.isSome_find?]
      congr 1
      funext m
      exact nm_beq _ _
    unfold wideP wideGo badW wideOf
    rw [q,wide_eq l ms ys]
    cases look l y.f0 with
    |none=>rw [if_neg (by simp)];dsimp only;rw [Bool.or_false]
    | some x =>
      dsimp only
      cases mlook ms y.f0 with
      |none=>rw [if_pos (by simp),if_pos rfl]
      | some m =>
        rw [if_neg (by simp),if_neg (by simp)]
        rw [show (x.f1.toList !=y.f1.toList)= !decide (x.f1=y.f1) from by unfold bne;rw [nm_beq]]
theorem flat_congr {α β:Type} {f g:α→List β}: ∀{l:List α},(∀x∈l,f x=g x)→l.flatMap f=l.flatMap g
  |[],_=>rfl
  | x :: l, h => by
    rw [List.flatMap_cons,List.flatMap_cons,h x (by simp),flat_congr fun y hy=>h y (List.mem_cons_of_mem _ hy)]
theorem befG_asym {l:List Item} {a b:ByteArray} (h:befG l a b=true):befG l b a=false:=by
  rw [←Bool.not_eq_true]
  intro k
  rw [befG_iff] at h k
  rcases h with h|⟨h,h'⟩<;>rcases k with k|⟨k,k'⟩
  · omega
  · omega
  · omega
  exact absurd (lt_trans h' k') (by rw [lt_irrefl];simp)
theorem befG_neg {l:List Item} {a b c:ByteArray} (h:befG l a b=false) (k:befG l b c=false):befG l a c=false:=by
  rw [←Bool.not_eq_true]
  intro q
  by_cases e:b=a
  · subst e;rw [q] at k;cases k
  have h1:=befG_total h e
  have h2:=befG_trans q h1
  rw [h2] at k;cases k
theorem insG_weak {l:List Item} {n:ByteArray}: ∀{out:List ByteArray},out.Pairwise (fun a b=>befG l a b=false)→(insG l n out).Pairwise (fun a b=>befG l a b=false)
  |[],h=>by simp [insG]
  | x :: out, h => by
    rw [List.pairwise_cons] at h
    unfold insG
    rw [List.takeWhile_cons,List.dropWhile_cons]
    by_cases c:befG l n x=true
    · rw [c]
      show (x::insG l n out).Pairwise _
      rw [List.pairwise_cons]
      refine ⟨fun a ha=> ?_,insG_weak h.2⟩
      rcases List.mem_cons.1 ((insG_perm l n out).mem_iff.1 ha) with rfl|ha
      · exact befG_asym c
      exact h.1 a ha
    rw [Bool.eq_false_iff.2 c]
    show (n::x::out).Pairwise _
    rw [List.pairwise_cons,List.pairwise_cons]
    refine ⟨fun a ha=> ?_,h⟩
    rcases List.mem_cons.1 ha with rfl|ha
    · exact Bool.eq_false_iff.2 c
    exact befG_neg (Bool.eq_false_iff.2 c) (h.1 a ha)
theorem goesGo_weak (ws:List Want) (l:List Item): ∀(ms:List PMark) (out:List ByteArray),out.Pairwise (fun a b=>befG l a b=false)→(goesGo ws l out ms).Pairwise (fun a b=>befG l a b=false)
  |[],out,h=>by rw [goesGo];exact h
  | m :: ms, out, h => by
    rw [goesGo]
    by_cases c:isWant ws m.f0=true
    · rw [if_pos c];exact goesGo_weak ws l ms out h
    rw [if_neg c];exact goesGo_weak ws l ms _ (insG_weak h)
theorem drop_eq (l:List Item) (wide:Bool) (ws:List Want): ∀ms:List PMark,dropN (((topR ws).map (goalOf l)).map (upG wide)) ms=goneN ws ms
  |[]=>rfl
  | m :: ms => by
    have q:hasG (((topR ws).map (goalOf l)).map (upG wide)) m=isWant ws m.f0:=by
      unfold hasG isWant
      rw [List.any_map,List.any_map,Bool.eq_iff_iff,List.any_eq_true,List.any_eq_true]
      constructor
      · rintro ⟨y, hy, e⟩
        refine ⟨y,(topR_perm ws).mem_iff.1 hy, ?_⟩
        have e2:(y.f0.toList==m.f0.toList)=true:=by rw [←(upG_f l wide y).1];exact e
        rwa [nm_beq] at e2
      rintro ⟨y,hy,e⟩
      refine ⟨y,(topR_perm ws).mem_iff.2 hy, ?_⟩
      show ((upG wide (goalOf l y)).f0.f0.toList==m.f0.toList)=true
      rw [(upG_f l wide y).1,nm_beq]
      exact e
    show (if hasG _ m=true then dropN _ ms else m.f0::dropN _ ms)=_
    rw [q,drop_eq l wide ws ms]
    unfold goneN
    by_cases c:isWant ws m.f0=true
    · rw [if_pos c,List.filter_cons_of_neg (by rw [c];simp)]
    rw [if_neg c,List.filter_cons_of_pos (by rw [Bool.eq_false_iff.2 c];rfl)];rfl
theorem gone_eq {l:List Item} {wide:Bool} {ws:List Want} {ms:List PMark} {ns:List ByteArray} (h:GoneIs (((topR ws).map (goalOf l)).map (upG wide)) ms l ns):ns=goesR ws ms l:=by
  obtain ⟨h1,h2⟩:=h
  rw [drop_eq] at h1
  have k1:(goesR ws ms l).Perm (goneN ws ms):=(goesGo_perm ws l ms []).trans (by rw [List.nil_append])
  have k2:=goesGo_weak ws l ms [] List.Pairwise.nil
  refine List.Perm.eq_of_pairwise (le:=fun a b=>befG l a b=false) ?_ ?_ k2 (h1.trans k1.symm)
  · intro a b _ _ hab hba
    by_cases e:a=b
    · exact e
    have:=befG_total hba e
    rw [hab] at this;cases this
  refine h2.imp ?_
  intro a b hab
  rw [←Bool.not_eq_true]
  intro q
  refine hab (cmpW_neg.2 ?_)
  rw [befG_iff] at q
  unfold depN
  rcases q with q|⟨q,q'⟩
  · exact .inl (by omega)
  exact .inr ⟨by omega,q'⟩
theorem gone_is (l:List Item) (wide:Bool) (ws:List Want) (ms:List PMark):GoneIs (((topR ws).map (goalOf l)).map (upG wide)) ms l (goesR ws ms l):=by
  refine ⟨?_, ?_⟩
  · rw [drop_eq]
    exact (goesGo_perm ws l ms []).trans (by rw [List.nil_append])
  refine (goesGo_weak ws l ms [] List.Pairwise.nil).imp ?_
  intro a b hab q
  rw [←Bool.not_eq_true] at hab
  refine hab (befG_iff.2 ?_)
  have q:=cmpW_neg.1 q
  unfold depN at q
  rcases q with q|⟨q,q'⟩
  · exact .inl (by omega)
  exact .inr ⟨by omega,q'⟩
theorem mayW_may {y:Want} (h:mayW y=true):MayP y.f2:=by
 unfold mayW at h
 exact (of_decide_eq_true h).2
theorem plan_is {ws:List Want} {ms:List PMark} {l:List Item} (r:List PStep) (e:Int):PlanIs ws (topR ws) ms l r e↔(r,e)=planR ws ms l:=by
  unfold PlanIs planR
  by_cases hz:checkR ws=0
  rotate_left
  · rw [if_neg hz, if_neg hz]
    exact ⟨fun ⟨a,b⟩=>by rw [a,b],fun h=>by injection h with a b;exact ⟨a,b⟩⟩
  rw [if_pos hz,if_pos hz,wide_eq]
  have T:=checkR_tree (.inl hz)
  have hm: ∀y∈topR ws,MayP y.f2:=fun y hy=>mayW_may (T.may y ((topR_perm ws).mem_iff.1 hy))
  cases wideGo l ms false (topR ws) with
  |none=>exact ⟨fun ⟨a,b⟩=>by rw [a,b],fun h=>by injection h with a b;exact ⟨a,b⟩⟩
  | some wide =>
    dsimp only
    have e1:((topR ws).map (goalOf l)).flatMap (raiseG wide)=(topR ws).flatMap (raiseS l wide):=by
      rw [List.flatMap_map]
      exact flat_congr fun y hy=>raise_eq wide (hm y hy)
    have e2:(((topR ws).map (goalOf l)).map (upG wide)).flatMap moveG=(topR ws).flatMap (moveS l):=by
      rw [List.flatMap_map,List.flatMap_map]
      exact flat_congr fun y hy=>move_eq wide y
    have e3:(((topR ws).map (goalOf l)).map (upG wide)).reverse.flatMap lowerG=(topR ws).reverse.flatMap (lowerS l wide):=by
      rw [←List.map_reverse,←List.map_reverse,List.flatMap_map,List.flatMap_map]
      exact flat_congr fun y hy=>lower_eq wide (hm y (List.mem_reverse.1 hy))
    rw [e1,e2,e3]
    constructor
    · rintro ⟨rfl, ns, hg, rfl⟩
      rw [gone_eq hg]
    intro h
    injection h with a b
    exact ⟨b,_,gone_is l wide ws ms,a⟩
theorem plan_Steps_ev {ws:List Want} {ms:List PMark} {l:List Item} (hs:smallW ws) (hl:l.length<10000) (hm:ms.length<10000):plan_Steps.f ws ms l=some (planR ws ms l):=by
 have hx:(smallW ws∧l.length<10000∧ms.length<10000)∧ ∃p:List PStep×Int,PlanIs ws (topR ws) ms l p.1 p.2∧ ∀q:List PStep×Int,PlanIs ws (topR ws) ms l q.1 q.2→q=p:=
  ⟨⟨hs,hl,hm⟩,planR ws ms l,(plan_is _ _).2 rfl,fun q hq=>(plan_is q.1 q.2).1 hq⟩
 unfold plan_Steps.f
 rw [dif_pos hx]
 have:=hx.2.choose_spec.1
 rw [plan_is] at this
 exact congrArg some this
def creS (w:Want):PStep:=⟨1,w.f0,w.f1,w.f2⟩
theorem wide_nil (ms:List PMark): ∀ys:List Want,wideGo [] ms false ys=some false
 |[]=>rfl
 |y::ys=>wide_nil ms ys
theorem plan_fresh {ws:List Want} (h:checkR ws=0):planR ws [] []=((topR ws).map creS,0):=by
 unfold planR
 rw [if_pos h,wide_nil]
 dsimp only
 have e1:(topR ws).flatMap (raiseS [] false)=(topR ws).map creS:=by
  rw [List.map_eq_flatMap]
  rfl
 have e2:(topR ws).flatMap (moveS [])=[]:=by
  rw [List.flatMap_eq_nil_iff]
  intro y _
  rfl
 have e3:(topR ws).reverse.flatMap (lowerS [] false)=[]:=by
  rw [List.flatMap_eq_nil_iff]
  intro y _
  exact if_neg (by rw [show upV [] false y=y.f2 from rfl,neV_iff];simp)
 rw [e1,e2,e3]
 show (_++_++_++List.map delS [],0)=_
 rw [List.map_nil,List.append_nil,List.append_nil,List.append_nil]
def exS:List Want:=[⟨⟨#[97]⟩,⟨#[]⟩,⟨0,0,0⟩⟩]
theorem exS_small:smallW exS:=by
 intro w hw
 unfold exS at hw
 simp only [List.mem_cons,List.not_mem_nil,or_false] at hw
 subst hw
 exact ⟨by decide,by decide⟩
theorem awake18:law18_awake.f=some true:=by
 have h1:=(plan_Steps_ev (ws:=exS) (ms:=[]) (l:=[]) exS_small (by decide) (by decide)).trans (congrArg some (plan_fresh (ws:=exS) (by decide)))
 have h2:=(plan_Steps_ev (ws:=[]) (ms:=[]) (l:=[]) nil_small (by decide) (by decide)).trans (congrArg some (plan_fresh (ws:=[]) (by decide)))
 rw [show topR exS=exS from by kernel_rfl] at h1
 rw [show topR []=[] from rfl] at h2
 unfold law18_awake.f
 rw [show exS=[⟨⟨#[97]⟩,⟨#[]⟩,⟨0,0,0⟩⟩] from rfl] at h1
 rw [h1,h2]
 refine Eq.trans (b:=some true) ?_ rfl
 kernel_rfl
theorem awake18_ev:Ev (fun _=>(law18_awake.f).bind fun t=>some t) true:=by
 rw [awake18]
 exact Ev.const rfl
theorem live_l0 {l:List Item} (hl:l.length≤1000) (a:Int): ∀(d i:Nat) (m0:List PMark),l.length - i=d→i≤l.length→m0.length≤i→ ∃m,m.length≤l.length+1∧Ev (fun k=>law18_Live.l0 k a l m0 (i:Int)) (m,l)
  | 0, i, m0, hd, hi, hm => by
    by_cases c:Int.tmod a 5=0
    · exact ⟨m0++ [⟨⟨#[122,122]⟩,⟨#[]⟩,⟨0,0,0⟩,1⟩],by rw [List.length_append,List.length_singleton];omega,Ev.step (fun k=>law18_Live.l0.eq_2 (k:=k) ..) (Ev.congr (fun k=>by rw [if_neg (by omega),if_pos c,if_pos (by omega)]) (Ev.now _))⟩
    exact ⟨m0,by omega,Ev.step (fun k=>law18_Live.l0.eq_2 (k:=k) ..) (Ev.congr (fun k=>by rw [if_neg (by omega),if_neg c]) (Ev.now _))⟩
  | d + 1, i, m0, hd, hi, hm => by
    have e1:wrap64 ((i:Int)+1)=((i+1:Nat):Int):=by rw [w64 (by omega) (by omega)];rfl
    by_cases c:Int.tmod (wrap64 ((i:Int)+wrap64 a)) 4>0
    · obtain ⟨m, h1, h2⟩ := live_l0 hl a d (i + 1) (m0 ++ [⟨(rd_T79 l (i : Int)).f0, (rd_T79 l (i : Int)).f1, ⟨(rd_T79 l (i : Int)).f2.f0, (rd_T79 l (i : Int)).f2.f1, (rd_T79 l (i : Int)).f2.f2⟩, (rd_T79 l (i : Int)).f5⟩]) (by omega) (by omega) (by rw [List.length_append, List.length_singleton]; omega)
      exact ⟨m,h1,Ev.step (fun k=>law18_Live.l0.eq_2 (k:=k) ..) (Ev.congr (fun k=>by rw [if_pos (by omega),if_pos c,if_pos (by omega),if_pos (by omega),e1]) h2)⟩
    obtain ⟨m,h1,h2⟩:=live_l0 hl a d (i+1) m0 (by omega) (by omega) (by omega)
    exact ⟨m,h1,Ev.step (fun k=>law18_Live.l0.eq_2 (k:=k) ..) (Ev.congr (fun k=>by rw [if_pos (by omega),if_neg c,e1]) h2)⟩
theorem live_ev {ns:List Int} {l:List Item} (hev:Ev (fun k=>law12_Make.f k ns) l) (hl:l.length≤1000) (a:Int): ∃m,m.length≤l.length+1∧Ev (fun k=>law18_Live.f k ns a) (m,l):=by
 obtain ⟨m,h1,h2⟩:=live_l0 hl a l.length 0 [] (by omega) (by omega) (by simp)
 refine ⟨m,h1, ?_⟩
 unfold law18_Live.f
 exact Ev.bind hev h2
def inW (x:PStep) (w:Want):Bool:=decide (w.f0=x.f1) && (x.f0 !=4)
def inM (x:PStep) (m:PMark):Bool:=m.f0.toList==x.f1.toList
theorem raise_kind2 {l:List Item} {wide:Bool} {y:Want} {x:PStep} (h:x∈raiseS l wide y):(x.f0=1∨x.f0=2)∧x.f1=y.f0:=by
  unfold raiseS at h
  split at h
  · rw [List.mem_singleton] at h;subst h;exact ⟨.inl rfl,rfl⟩
  split at h
  · rw [List.mem_singleton] at h;subst h;exact ⟨.inr rfl,rfl⟩
  cases h
theorem move_kind2 {l:List Item} {y:Want} {x:PStep} (h:x∈moveS l y):x.f0=3∧x.f1=y.f0:=by
  unfold moveS at h
  split at h
  · cases h
  split at h
  · cases h
  rw [List.mem_singleton] at h;subst h;exact ⟨rfl,rfl⟩
theorem lower_kind2 {l:List Item} {wide:Bool} {y:Want} {x:PStep} (h:x∈lowerS l wide y):x.f0=2∧x.f1=y.f0:=by
  unfold lowerS at h
  split at h
  · rw [List.mem_singleton] at h;subst h;exact ⟨rfl,rfl⟩
  cases h
theorem flat_lenP {α β:Type} (f:α→List β) (hf: ∀w,(f w).length≤1): ∀xs:List α,(xs.flatMap f).length≤xs.length
 |[]=>Nat.le_refl _
 |x::xs=>by rw [List.flatMap_cons,List.length_append,List.length_cons];have:=hf x;have:=flat_lenP f hf xs;omega
theorem plan_len (ws:List Want) (m:List PMark) (l:List Item) (wd:Bool):((((topR ws).flatMap (raiseS l wd)++(topR ws).flatMap (moveS l))++(topR ws).reverse.flatMap (lowerS l wd))++(goesR ws m l).map delS).length≤3*ws.length+m.length:=by
 have h1: ∀w,(raiseS l wd w).length≤1:=fun w=>by unfold raiseS;split<;>(try split)<;>simp
 have h2: ∀w,(moveS l w).length≤1:=fun w=>by unfold moveS;split<;>(try split)<;>simp
 have h3: ∀w,(lowerS l wd w).length≤1:=fun w=>by unfold lowerS;split<;>simp
 have g1:=flat_lenP _ h1 (topR ws)
 have g2:=flat_lenP _ h2 (topR ws)
 have g3:=flat_lenP _ h3 (topR ws).reverse
 have g4:(goesR ws m l).length≤m.length:=by have:=len_goesGo ws l m [];rw [List.length_nil,Nat.zero_add] at this;exact this
 have hp:=(topR_perm ws).length_eq
 rw [List.length_reverse] at g3
 rw [List.length_append,List.length_append,List.length_append,List.length_map]
 omega
theorem plan_names (ws:List Want) (m:List PMark) (l:List Item) (wd:Bool): ∀x∈(((topR ws).flatMap (raiseS l wd)++(topR ws).flatMap (moveS l))++(topR ws).reverse.flatMap (lowerS l wd))++(goesR ws m l).map delS,(ws.any (inW x)||m.any (inM x))=true:=by
  have hw: ∀(y:Want) (x:PStep),y∈topR ws→x.f1=y.f0→x.f0≠4→(ws.any (inW x)||m.any (inM x))=true:=fun y x hy h1 h4=>by
    rw [Bool.or_eq_true]
    refine .inl (List.any_eq_true.2 ⟨y,(topR_perm ws).mem_iff.1 hy, ?_⟩)
    unfold inW
    rw [decide_eq_true h1.symm,Bool.true_and]
    exact bne_iff_ne.2 h4
  intro x hx
  rw [List.mem_append,List.mem_append,List.mem_append] at hx
  rcases hx with ((hx|hx)|hx)|hx
  · obtain ⟨y, hy, hx⟩ := List.mem_flatMap.1 hx
    obtain ⟨k,e⟩:=raise_kind2 hx
    exact hw y x hy e (by rcases k with k|k<;>rw [k]<;>decide)
  · obtain ⟨y, hy, hx⟩ := List.mem_flatMap.1 hx
    obtain ⟨k,e⟩:=move_kind2 hx
    exact hw y x hy e (by rw [k];decide)
  · obtain ⟨y, hy, hx⟩ := List.mem_flatMap.1 hx
    obtain ⟨k,e⟩:=lower_kind2 hx
    exact hw y x (List.mem_reverse.1 hy) e (by rw [k];decide)
  obtain ⟨n,hn,rfl⟩:=List.mem_map.1 hx
  have hg:=(goesGo_perm ws l m []).mem_iff.1 hn
  rw [List.nil_append] at hg
  unfold goneN at hg
  rw [List.mem_map] at hg
  obtain ⟨q,hq,e⟩:=hg
  rw [Bool.or_eq_true]
  refine .inr (List.any_eq_true.2 ⟨q,(List.mem_filter.1 hq).1, ?_⟩)
  unfold inM
  rw [beq_iff_eq,e]
  rfl
end Go.Proofs.Ytahidkjncljkaaa.Print

namespace Go.Proofs.Ytahidkjncljkaaa.Print
open Go.RowKit Go.Proofs.YtahidkjncljkaaaW.PrintWords Go.Proofs.YtahidkjncljkaaaW.PrintLast
def upM (p:Nat→Bool):Nat→Bool
 |0=>true
 |n+1=>p n && upM p n
theorem upM_all {p:Nat→Bool}: ∀{n i:Nat},upM p n=true→i<n→p i=true
  | n + 1, i, h, hi => by
    unfold upM at h
    rw [Bool.and_eq_true] at h
    by_cases e:i=n
    · rw [e];exact h.1
    exact upM_all h.2 (by omega)
def nmM (i:Nat):ByteArray:=⟨#[UInt8.ofNat (97+(i*7) % 24)]⟩
theorem nmM_strs:upM (fun i=>decide (strOfNums [(wrap64 (97+(Int.tmod (wrap64 ((i:Int)*7)) 24))) % 256]=nmM i)) 24=true:=by kernel_rfl
theorem nmM_str {i:Nat} (h:i<24):strOfNums [(wrap64 (97+(Int.tmod (wrap64 ((i:Int)*7)) 24))) % 256]=nmM i:=by
 have:=upM_all nmM_strs h
 rwa [decide_eq_true_iff] at this
theorem nmM_injs:upM (fun i=>upM (fun j=>decide (nmM i≠nmM j∨i=j)) 24) 24=true:=by kernel_rfl
theorem nmM_inj {i j:Nat} (hi:i<24) (hj:j<24) (h:nmM i=nmM j):i=j:=by
 have a:upM (fun j=>decide (nmM i≠nmM j∨i=j)) 24=true:=upM_all (p:=fun i=>upM (fun j=>decide (nmM i≠nmM j∨i=j)) 24) nmM_injs hi
 have:=upM_all a hj
 rw [decide_eq_true_iff] at this
 exact this.resolve_left (fun q=>q h)
theorem nmM_ne (i:Nat):nmM i≠⟨#[]⟩:=fun h=>by
 have:=congrArg ByteArray.size h
 cases this
theorem nmM_size (i:Nat):(nmM i).size=1:=rfl
theorem sumGo_snoc (n:ByteArray) (w:Want): ∀(l:List Want) (v:Vec),sumGo n (l++ [w]) v=if w.f1=n then vadd (sumGo n l v) w.f2 else sumGo n l v
  |[],v=>by simp only [List.nil_append,sumGo]
  | x :: l, v => by
    rw [List.cons_append]
    unfold sumGo
    exact sumGo_snoc n w l _
theorem sumGo_zero (n:ByteArray): ∀(l:List Want) (v:Vec),(∀x∈l,x.f1≠n)→sumGo n l v=v
  |[],v,_=>rfl
  | x :: l, v, h => by
    unfold sumGo
    rw [if_neg (h x (by simp))]
    exact sumGo_zero n l v (fun y hy=>h y (by simp [hy]))
structure MkI (c:Bool) (l:List Want) (left:List Int):Prop where
 len:left.length=l.length
 n24:l.length≤24
 nm: ∀(i:Nat) (w:Want),l[i]?=some w→w.f0=nmM i
 par: ∀(i:Nat) (w:Want),l[i]?=some w→w.f1=⟨#[]⟩∨ ∃p,p<i∧w.f1=nmM p
 may: ∀w∈l,MayP w.f2
 lo: ∀(i:Nat) (x:Int),left[i]?=some x→0≤x∧x≤8193
 sum:c=false→ ∀(i:Nat) (w:Want) (x:Int),l[i]?=some w→left[i]?=some x→ ∀o:Comp,o.of (sumW l w.f0)+x≤o.of w.f2
theorem mkI_nil (c:Bool):MkI c [] []:=⟨rfl,Nat.zero_le _,(fun i w h=>by simp at h),(fun i w h=>by simp at h),(fun w h=>by simp at h),(fun i x h=>by simp at h),(fun _ i w x h=>by simp at h)⟩
theorem snoc_get {α:Type} {l:List α} {a w:α} {i:Nat} (h:(l++ [a])[i]?=some w):(l[i]?=some w∧i<l.length)∨(i=l.length∧w=a):=by
  by_cases c:i<l.length
  · rw [List.getElem?_append_left c] at h
    exact .inl ⟨h,c⟩
  rw [List.getElem?_append_right (by omega)] at h
  have hi:i - l.length=0:=by
    have:=(List.getElem?_eq_some_iff.1 h).1
    simp only [List.length_singleton] at this
    omega
  rw [hi] at h
  simp only [List.getElem?_cons_zero,Option.some.injEq] at h
  exact .inr ⟨by omega,h.symm⟩
theorem mk_add {c:Bool} {l:List Want} {left left1:List Int} (I:MkI c l left) (h:l.length<24) {lim b:Int} (hl:0≤lim∧lim≤8193) (hb:b=0∨b=1) {par:ByteArray} (hlen:left1.length=left.length) (hp:par=⟨#[]⟩∨ ∃p,p<l.length∧par=nmM p)
    (hlo: ∀(i:Nat) (x:Int),left1[i]?=some x→0≤x∧x≤8193) (hs:c=false→ ∀(i:Nat) (x1:Int),left1[i]?=some x1→ ∃x,left[i]?=some x∧x1≤x∧(par=nmM i→x1+lim≤x)):MkI c (l++ [⟨nmM l.length,par,⟨lim,lim,lim - lim / 3*b⟩⟩]) (left1++ [lim - lim / 3]) where
  len:=by rw [List.length_append,List.length_append,hlen,I.len];rfl
  n24:=by rw [List.length_append,List.length_singleton];omega
  nm:=fun i w q=>by
    rcases snoc_get q with ⟨q,_⟩|⟨rfl,rfl⟩
    · exact I.nm i w q
    rfl
  par:=fun i w q=>by
    rcases snoc_get q with ⟨q,_⟩|⟨rfl,rfl⟩
    · exact I.par i w q
    exact hp
  may:=fun w q=>by
    rcases List.mem_append.1 q with q|q
    · exact I.may w q
    rw [List.mem_singleton] at q
    subst q
    rw [mayP_iff]
    rcases hb with rfl|rfl<;>omega
  lo:=fun i x q=>by
    rcases snoc_get q with ⟨q,_⟩|⟨rfl,rfl⟩
    · exact hlo i x q
    omega
  sum:=fun hc i w x q1 q2 o=>by
    have e:sumW (l++ [⟨nmM l.length,par,⟨lim,lim,lim - lim / 3*b⟩⟩]) w.f0=if par=w.f0 then vadd (sumW l w.f0) ⟨lim,lim,lim - lim / 3*b⟩ else sumW l w.f0:=sumGo_snoc _ _ _ _
    have hv:o.of (⟨lim,lim,lim - lim / 3*b⟩:Vec)≤lim∧lim - lim / 3≤o.of (⟨lim,lim,lim - lim / 3*b⟩:Vec):=by
      cases o<;>simp only [Comp.of]<;>rcases hb with rfl|rfl<;>omega
    rcases snoc_get q1 with ⟨q1,hi⟩|⟨rfl,rfl⟩
    · rcases snoc_get q2 with ⟨q2, _⟩ | ⟨rfl, _⟩
      rotate_left
      · rw [hlen,I.len] at hi;omega
      obtain ⟨x0,g1,g2,g3⟩:=hs hc i x q2
      have g:=I.sum hc i w x0 q1 g1 o
      rw [e]
      by_cases d:par=w.f0
      rotate_left
      · rw [if_neg d];omega
      have:=g3 (by rw [d];exact I.nm i w q1)
      rw [if_pos d,of_vadd]
      omega
    rcases snoc_get q2 with ⟨q2,hi⟩|⟨_,rfl⟩
    · rw [hlen,I.len] at hi;omega
    have z:sumW l (nmM l.length)=⟨0,0,0⟩:=sumGo_zero _ _ _ (fun y hy=>by
      obtain ⟨i,hi,rfl⟩:=List.getElem_of_mem hy
      rcases I.par i l[i] (List.getElem?_eq_getElem hi) with q|⟨p,hp,q⟩
      · rw [q];exact fun k=>nmM_ne _ k.symm
      rw [q];exact fun k=>by have:=nmM_inj (by omega) (by omega) k;omega)
    have e2: ¬par=nmM l.length:=fun k=>by
      rcases hp with q|⟨p,hp,q⟩
      · rw [q] at k;exact nmM_ne _ k.symm
      rw [q] at k;have:=nmM_inj (by omega) (by omega) k;omega
    rw [e]
    show o.of (if par=nmM l.length then _ else sumW l (nmM l.length))+_≤_
    rw [if_neg e2,z]
    have:o.of (⟨0,0,0⟩:Vec)=0:=by cases o<;>rfl
    show _≤o.of (⟨lim,lim,lim - lim / 3*b⟩:Vec)
    omega
theorem mk_root {c:Bool} {l:List Want} {left:List Int} (I:MkI c l left) (h:l.length<24) {lim b:Int} (hl:0≤lim∧lim≤8193) (hb:b=0∨b=1):MkI c (l++ [⟨nmM l.length,⟨#[]⟩,⟨lim,lim,lim - lim / 3*b⟩⟩]) (left++ [lim - lim / 3]):=
 mk_add I h hl hb rfl (.inl rfl) I.lo (fun _ i x q=>⟨x,q,Int.le_refl _,fun k=>absurd k.symm (nmM_ne i)⟩)
theorem mk_kid {c:Bool} {l:List Want} {left:List Int} (I:MkI c l left) (h:l.length<24) {lim b:Int} (hl:0≤lim∧lim≤8193) (hb:b=0∨b=1) {p:Nat} (hp:p<l.length) {x q:Int} (hx:left[p]?=some x) (hq:0≤q∧q≤x) (hc:c=false→lim=q):
    MkI c (l++ [⟨nmM l.length,nmM p,⟨lim,lim,lim - lim / 3*b⟩⟩]) (left.set p (x - q)++ [lim - lim / 3]):=by
  have hpl:p<left.length:=by rw [I.len];exact hp
  have g:=I.lo p x hx
  refine mk_add I h hl hb (List.length_set ..) (.inr ⟨p,hp,rfl⟩) (fun i y hy=> ?_) (fun hc' i y hy=> ?_)
  · rw [List.getElem?_set] at hy
    by_cases e:p=i
    · rw [if_pos e, if_pos hpl] at hy
      obtain rfl:=Option.some.inj hy
      omega
    rw [if_neg e] at hy
    exact I.lo i y hy
  rw [List.getElem?_set] at hy
  by_cases e:p=i
  · rw [if_pos e, if_pos hpl] at hy
    obtain rfl:=Option.some.inj hy
    subst e
    have:=hc hc'
    exact ⟨x,hx,by omega,fun _=>by omega⟩
  rw [if_neg e] at hy
  refine ⟨y,hy,Int.le_refl _,fun k=> ?_⟩
  have hi:=(List.getElem?_eq_some_iff.1 hy).1
  exact absurd (nmM_inj (by omega) (by rw [I.len] at hi;omega) k) e
theorem mk_look {c:Bool} {l:List Want} {left:List Int} (I:MkI c l left) {i:Nat} {w:Want} (h:l[i]?=some w):lookW l (nmM i)=some w:=by
  obtain ⟨hi,rfl⟩:=List.getElem?_eq_some_iff.1 h
  have hn:=I.nm i _ h
  cases e:lookW l (nmM i) with
  |none=>exact absurd hn (lookW_none.1 e _ (List.getElem_mem hi))
  | some x =>
    obtain ⟨hm,hf⟩:=lookW_mem e
    obtain ⟨j,hj,rfl⟩:=List.getElem_of_mem hm
    have:=I.nm j _ (List.getElem?_eq_getElem hj)
    rw [this] at hf
    have:=nmM_inj (by have:=I.n24;omega) (by have:=I.n24;omega) hf
    subst this
    rfl
theorem mk_parW {c:Bool} {l:List Want} {left:List Int} (I:MkI c l left):ParW l:=by
  refine ⟨fun w hw=> ?_,fun w hw e=> ?_⟩
  · obtain ⟨i, hi, rfl⟩ := List.getElem_of_mem hw
    rw [I.nm i _ (List.getElem?_eq_getElem hi)]
    exact nmM_ne i
  obtain ⟨i,hi,rfl⟩:=List.getElem_of_mem hw
  rcases I.par i _ (List.getElem?_eq_getElem hi) with q|⟨p,hp,q⟩
  · exact absurd q e
  rw [q]
  exact ⟨_,mk_look I (List.getElem?_eq_getElem (show p<l.length by omega))⟩
theorem mk_chain {c:Bool} {l:List Want} {left:List Int} (I:MkI c l left): ∀(n i:Nat) (hi:i<l.length),i<n→ ∃us,ChainW l (nmM i) (nmM i::us)
  | n + 1, i, hi, hn => by
    have hl:=mk_look I (List.getElem?_eq_getElem hi)
    rcases I.par i _ (List.getElem?_eq_getElem hi) with q|⟨p,hp,q⟩
    · exact ⟨[],chainW_cons hl (by rw [q];exact chainW_nil (mk_parW I).root)⟩
    obtain ⟨us,k⟩:=mk_chain I n p (by omega) (by omega)
    exact ⟨_,chainW_cons hl (by rw [q];exact k)⟩
theorem mk_nodup {c:Bool} {l:List Want} {left:List Int} (I:MkI c l left):(l.map (·.f0)).Nodup:=by
 rw [List.nodup_iff_pairwise_ne,List.pairwise_iff_getElem]
 intro i j hi hj hij
 rw [List.length_map] at hi hj
 rw [List.getElem_map,List.getElem_map,I.nm i _ (List.getElem?_eq_getElem hi),I.nm j _ (List.getElem?_eq_getElem hj)]
 have:=I.n24
 exact fun k=>by have:=nmM_inj (by omega) (by omega) k;omega
theorem mk_tree {c:Bool} {l:List Want} {left:List Int} (I:MkI c l left):TreeW l where
 len:=by have:=I.n24;omega
 may:=fun w hw=>mayW_iff.2 ⟨by
  obtain ⟨i,hi,rfl⟩:=List.getElem_of_mem hw
  rw [I.nm i _ (List.getElem?_eq_getElem hi)]
  exact ⟨nmM_ne i,by rw [nmM_size];omega⟩,I.may w hw⟩
 nodup:=mk_nodup I
 par:=mk_parW I
 dep:=fun w hw=>by
  obtain ⟨i,hi,rfl⟩:=List.getElem_of_mem hw
  obtain ⟨us,k⟩:=mk_chain I (i+1) i hi (by omega)
  rw [I.nm i _ (List.getElem?_eq_getElem hi),depR_chain (mk_parW I) k,List.length_cons]
  omega
theorem mk_small {c:Bool} {l:List Want} {left:List Int} (I:MkI c l left):smallW l:=fun w hw=>by
  obtain ⟨i,hi,rfl⟩:=List.getElem_of_mem hw
  refine ⟨?_, ?_⟩
  · rw [I.nm i _ (List.getElem?_eq_getElem hi),nmM_size];omega
  rcases I.par i _ (List.getElem?_eq_getElem hi) with q|⟨p,hp,q⟩
  · rw [q];decide
  rw [q,nmM_size];omega
theorem mk_check {l:List Want} {left:List Int} (I:MkI false l left):checkR l=0:=by
 rw [checkR_of (mk_tree I),if_neg]
 rw [any_false]
 intro w hw
 obtain ⟨i,hi,rfl⟩:=List.getElem_of_mem hw
 have h2:i<left.length:=by rw [I.len];exact hi
 have lo:=I.lo i _ (List.getElem?_eq_getElem h2)
 have:LeP (sumW l l[i].f0) l[i].f2:=fun o=>by
  have:=I.sum rfl i _ _ (List.getElem?_eq_getElem hi) (List.getElem?_eq_getElem h2) o
  omega
 rw [decide_eq_true this]
 rfl
theorem lims_eq {lim x:Int} (hl:0≤lim∧lim≤8193) (hx:0≤x∧x≤255): ∃b:Int,(b=0∨b=1)∧wrap64 (lim - (wrap64 ((wrap64 (Int.tdiv lim 3))*(wrap64 (Int.tmod x 2)))))=lim - lim / 3*b∧wrap64 (lim - (wrap64 (Int.tdiv lim 3)))=lim - lim / 3:=by
  have e1:Int.tdiv lim 3=lim / 3:=Int.tdiv_eq_ediv_of_nonneg hl.1
  have e2:Int.tmod x 2=x % 2:=Int.tmod_eq_emod_of_nonneg hx.1
  rw [e1,e2,w64 (n:=lim / 3) (by omega) (by omega),w64 (n:=x % 2) (by omega) (by omega),w64 (n:=lim - lim / 3) (by omega) (by omega)]
  refine ⟨x % 2,by omega, ?_,rfl⟩
  rcases (show x % 2=0∨x % 2=1 by omega) with q|q
  · rw [q,Int.mul_zero,w64 (n:=0) (by omega) (by omega),w64 (by omega) (by omega)]
  rw [q,Int.mul_one,w64 (n:=lim / 3) (by omega) (by omega),w64 (by omega) (by omega)]
theorem rd_nat (l:List Int) {i:Nat} (h:i<l.length):rd l (i:Int)=l[i]:=by
 unfold rd
 rw [Int.toNat_natCast,List.getD_eq_getElem?_getD,List.getElem?_eq_getElem h,Option.getD_some]
theorem mkE1:wrap64 ((wrap64 (4096*2))+1)=8193:=by unfold wrap64;rfl
theorem make_go {ns:List Int} {c:Bool} (hns:ns.length≤60) (hb: ∀x∈ns,0≤x∧x≤255): ∀(d j:Nat) (l:List Want) (left:List Int),ns.length - 2*j≤d→2*j≤ns.length+1→MkI c l left→ ∃r left',Ev (fun k=>law11_Make.l0 k ns c l left ((2*j:Nat):Int)) r∧MkI c r left'
  | d, j, l, left, hd, hj, I => by
    have e1:wrap64 (((2*j:Nat):Int)+1)=((2*j+1:Nat):Int):=by rw [w64 (by omega) (by omega)];rfl
    have e3:wrap64 (((2*j:Nat):Int)+2)=((2*(j+1):Nat):Int):=by rw [w64 (by omega) (by omega)];omega
    by_cases h:2*j+1<ns.length∧l.length<24
    rotate_left
    · have stop : Ev (fun k => law11_Make.j1 k ns c l left ((2 * j : Nat) : Int) false) l := Ev.step (fun k => law11_Make.j1.eq_2 (k := k) ..) (Ev.congr (fun k => if_neg (by simp)) (Ev.now _))
      refine ⟨l,left,Ev.step (fun k=>law11_Make.l0.eq_2 (k:=k) ..) ?_,I⟩
      by_cases a:2*j+1<ns.length
      · refine Ev.congr (fun k => ?_) stop
        rw [e1,if_pos (show ((2*j+1:Nat):Int)<(ns.length:Int) by omega),decide_eq_false (show¬(l.length:Int)<24 by omega)]
      refine Ev.congr (fun k=> ?_) stop
      rw [e1,if_neg (show¬((2*j+1:Nat):Int)<(ns.length:Int) by omega)]
    obtain ⟨h1,h24⟩:=h
    match d,hd with
    |0,hd=>omega
    |d+1,hd=>
    have IH:=make_go (c:=c) hns hb d (j+1)
    obtain ⟨x,hx⟩: ∃x,x=ns[2*j]:=⟨_,rfl⟩
    obtain ⟨y,hy⟩: ∃y,y=ns[2*j+1]:=⟨_,rfl⟩
    have bx:=hb x (by rw [hx];exact List.getElem_mem _)
    have by':=hb y (by rw [hy];exact List.getElem_mem _)
    have rx:rd ns ((2*j:Nat):Int)=x:=by rw [rd_nat ns (by omega),hx]
    have ry:rd ns ((2*j+1:Nat):Int)=y:=by rw [rd_nat ns h1,hy]
    have wx:wrap64 x=x:=w64 (by omega) (by omega)
    have hnm:=nmM_str h24
    have hlen:=I.len
    have c1:(0:Int)≤((2*j:Nat):Int):=by omega
    have c2:((2*j:Nat):Int)<(ns.length:Int):=by omega
    have c3:(0:Int)≤((2*j+1:Nat):Int):=by omega
    have c4:((2*j+1:Nat):Int)<(ns.length:Int):=by omega
    have g1:l.length<2513169434916:=by omega
    have g2:left.length<17592186044416:=by omega
    have leaf: ∀(L:Int) (par:ByteArray) (left1:List Int),0≤L∧L≤8193→(∀b:Int,(b=0∨b=1)→MkI c (l++ [⟨nmM l.length,par,⟨L,L,L - L / 3*b⟩⟩]) (left1++ [L - L / 3]))→
        ∃r left',Ev (fun k=>law11_Make.l0 k ns c (l++ [⟨nmM l.length,par,⟨L,L,wrap64 (L - (wrap64 ((wrap64 (Int.tdiv L 3))*(wrap64 (Int.tmod y 2)))))⟩⟩]) (left1++ [wrap64 (L - (wrap64 (Int.tdiv L 3)))]) ((2*(j+1):Nat):Int)) r∧MkI c r left':=fun L par left1 hL k=>by
      obtain ⟨b,hbb,q1,q2⟩:=lims_eq hL by'
      rw [q1,q2]
      exact IH _ _ (by omega) (by omega) (k b hbb)
    have root: ∃r left',Ev (fun k=>law11_Make.j2 k ns c l left ((2*j:Nat):Int) (l.length:Int) x 4096 false (nmM l.length) ⟨#[]⟩ 4096 4096 4096) r∧MkI c r left':=by
      have lo:=leaf 4096 ⟨#[]⟩ left (by omega) (fun b hbb=>mk_root I h24 (by omega) hbb)
      have hi:=leaf 8193 ⟨#[]⟩ left (by omega) (fun b hbb=>mk_root I h24 (by omega) hbb)
      cases hc:c with
      | true =>
        subst hc
        by_cases m:Int.tmod y 16=0
        · obtain ⟨r, left', ev, I'⟩ := hi
          refine ⟨r,left',Ev.step (fun k=>law11_Make.j2.eq_2 (k:=k) ..) (Ev.congr (fun k=> ?_) ev),I'⟩
          rw [if_neg (by simp),if_pos rfl,e1,if_pos c3,if_pos c4,ry,if_pos m,if_pos g1,if_pos g2,mkE1,e3]
        obtain ⟨r,left',ev,I'⟩:=lo
        refine ⟨r,left',Ev.step (fun k=>law11_Make.j2.eq_2 (k:=k) ..) (Ev.congr (fun k=> ?_) ev),I'⟩
        rw [if_neg (by simp),if_pos rfl,e1,if_pos c3,if_pos c4,ry,if_neg m,if_pos g1,if_pos g2,e3]
      | false =>
        subst hc
        obtain ⟨r,left',ev,I'⟩:=lo
        refine ⟨r,left',Ev.step (fun k=>law11_Make.j2.eq_2 (k:=k) ..) (Ev.congr (fun k=> ?_) ev),I'⟩
        rw [if_neg (by simp),if_neg (by simp),e1,if_pos c3,if_pos c4,ry,if_pos g1,if_pos g2,e3]
    have kid:0<l.length→ ∃r left',Ev (fun k=>law11_Make.j2 k ns c l left ((2*j:Nat):Int) (l.length:Int) x 4096 true (nmM l.length) ⟨#[]⟩ 4096 4096 4096) r∧MkI c r left':=fun h0=>by
      obtain ⟨p,hp,hpl⟩: ∃p:Nat,Int.tmod (wrap64 (Int.tdiv x 3)) (l.length:Int)=(p:Int)∧p<l.length:=by
        have q1:Int.tdiv x 3=x / 3:=Int.tdiv_eq_ediv_of_nonneg bx.1
        rw [q1,w64 (n:=x / 3) (by omega) (by omega),Int.tmod_eq_emod_of_nonneg (by omega)]
        have a:=Int.emod_nonneg (x / 3) (show (l.length:Int)≠0 by omega)
        have b:=Int.emod_lt_of_pos (x / 3) (show (0:Int)<l.length by omega)
        exact ⟨(x / 3 % (l.length:Int)).toNat,by omega,by omega⟩
      have hpf:p<left.length:=by omega
      obtain ⟨f,hf⟩: ∃f,f=left[p]:=⟨_,rfl⟩
      have rf:rd left (p:Int)=f:=by rw [rd_nat left hpf,hf]
      have hg:left[p]?=some f:=by rw [List.getElem?_eq_getElem hpf,hf]
      have bf:=I.lo p f hg
      have q1:wrap64 (Int.tdiv f 2)=f / 2:=by rw [Int.tdiv_eq_ediv_of_nonneg bf.1,w64 (by omega) (by omega)]
      have q2:wrap64 (f - f / 2)=f - f / 2:=w64 (by omega) (by omega)
      have q3:wrap64 (wrap64 (f / 2*2)+1)=f / 2*2+1:=by rw [w64 (n:=f / 2*2) (by omega) (by omega),w64 (by omega) (by omega)]
      have rn:(rd_T39 l (p:Int)).f0=nmM p:=by rw [rd_wantN l hpl];exact I.nm p _ (List.getElem?_eq_getElem hpl)
      have d1: ¬(l.length:Int)=0:=by omega
      have d2:(0:Int)≤(p:Int):=by omega
      have d3:(p:Int)<(l.length:Int):=by omega
      have d4:(p:Int)<(left.length:Int):=by omega
      have g3:(left.set p (f - f / 2)).length<17592186044416:=by rw [List.length_set];exact g2
      have lo:=leaf (f / 2) (nmM p) (left.set p (f - f / 2)) (by omega) (fun b hbb=>mk_kid I h24 (by omega) hbb hpl hg (by omega) (fun _=>rfl))
      cases hc:c with
      | true =>
        have hi:=leaf (f / 2*2+1) (nmM p) (left.set p (f - f / 2)) (by omega) (fun b hbb=>mk_kid I h24 (by omega) hbb hpl hg (by omega) (fun e=>by rw [hc] at e;cases e))
        subst hc
        by_cases m:Int.tmod y 16=0
        · obtain ⟨r, left', ev, I'⟩ := hi
          refine ⟨r,left',Ev.step (fun k=>law11_Make.j2.eq_2 (k:=k) ..) (Ev.congr (fun k=> ?_) ev),I'⟩
          rw [if_pos rfl,if_neg d1,hp,if_pos d2,if_pos d3,if_pos d4,Option.bind_some,if_pos rfl,e1,if_pos c3,if_pos c4,ry,if_pos m,if_pos g1,rf,q1,q2,Int.toNat_natCast,if_pos g3,q3,rn,e3]
        obtain ⟨r,left',ev,I'⟩:=lo
        refine ⟨r,left',Ev.step (fun k=>law11_Make.j2.eq_2 (k:=k) ..) (Ev.congr (fun k=> ?_) ev),I'⟩
        rw [if_pos rfl,if_neg d1,hp,if_pos d2,if_pos d3,if_pos d4,Option.bind_some,if_pos rfl,e1,if_pos c3,if_pos c4,ry,if_neg m,if_pos g1,rf,q1,q2,Int.toNat_natCast,if_pos g3,rn,e3]
      | false =>
        subst hc
        obtain ⟨r,left',ev,I'⟩:=lo
        refine ⟨r,left',Ev.step (fun k=>law11_Make.j2.eq_2 (k:=k) ..) (Ev.congr (fun k=> ?_) ev),I'⟩
        rw [if_pos rfl,if_neg d1,hp,if_pos d2,if_pos d3,if_pos d4,Option.bind_some,if_neg (by simp),e1,if_pos c3,if_pos c4,ry,if_pos g1,rf,q1,q2,Int.toNat_natCast,if_pos g3,rn,e3]
    have fin: ∃r left',Ev (fun k=>law11_Make.j1 k ns c l left ((2*j:Nat):Int) true) r∧MkI c r left':=by
      by_cases h0:0<l.length
      rotate_left
      · obtain ⟨r, left', ev, I'⟩ := root
        refine ⟨r,left',Ev.step (fun k=>law11_Make.j1.eq_2 (k:=k) ..) (Ev.congr (fun k=> ?_) ev),I'⟩
        rw [if_pos rfl,if_pos c1,if_pos c2,Option.bind_some,if_neg (by omega),rx,wx,hnm]
      by_cases t:Int.tmod x 3>0
      · obtain ⟨r, left', ev, I'⟩ := kid h0
        refine ⟨r,left',Ev.step (fun k=>law11_Make.j1.eq_2 (k:=k) ..) (Ev.congr (fun k=> ?_) ev),I'⟩
        rw [if_pos rfl,if_pos c1,if_pos c2,Option.bind_some,if_pos (by omega),rx,wx,hnm,decide_eq_true t]
      obtain ⟨r,left',ev,I'⟩:=root
      refine ⟨r,left',Ev.step (fun k=>law11_Make.j1.eq_2 (k:=k) ..) (Ev.congr (fun k=> ?_) ev),I'⟩
      rw [if_pos rfl,if_pos c1,if_pos c2,Option.bind_some,if_pos (by omega),rx,wx,hnm,decide_eq_false t]
    obtain ⟨r,left',ev,I'⟩:=fin
    refine ⟨r,left',Ev.step (fun k=>law11_Make.l0.eq_2 (k:=k) ..) (Ev.congr (fun k=> ?_) ev),I'⟩
    rw [e1,if_pos c4,decide_eq_true (show (l.length:Int)<24 by omega)]
theorem make_ev {ns:List Int} (c:Bool) (hns:ns.length≤60) (hb: ∀x∈ns,0≤x∧x≤255): ∃r left,Ev (fun k=>law11_Make.f k ns c) r∧MkI c r left:=
 make_go hns hb ns.length 0 [] [] (by omega) (by omega) (mkI_nil c)
end Go.Proofs.Ytahidkjncljkaaa.Print

namespace Go.Proofs.Ytahidkjncljkaaa.Print
open Go.RowKit Go.Proofs.YtahidkjncljkaaaW.PrintWords Go.Proofs.YtahidkjncljkaaaW.PrintLast Go.Proofs.YtahidkjncljkaaaW.PrintMore
theorem po_u8 {x:Int} (h:(Lit.int .u8 x).wf=true):0≤x∧x≤255:=by
 simp only [Lit.wf,Bool.and_eq_true,decide_eq_true_eq] at h
 obtain ⟨h1,h2⟩:=h
 exact ⟨h1,h2⟩
theorem po_stepN (s:List PStep) {i:Nat} (h:i<s.length):rd_T76 s (i:Int)=s[i]:=by
 show s.getD (i:Int).toNat _=_
 rw [Int.toNat_natCast,List.getD_eq_getElem?_getD,List.getElem?_eq_getElem h,Option.getD_some]
theorem po_l1 {m:List PMark} {ws:List Want} {s:List PStep} {j:Nat} (hj:j<s.length) (hw:ws.length≤1000) {a:Int} {r:Bool} (hr:Ev (fun k=>law18_PlanOrder.l2 k m ws s a (j:Int) 0 (ws.any (inW s[j])) 0) r): ∀(d i:Nat) (b:Bool),ws.length - i=d→i≤ws.length→(b||(ws.drop i).any (inW s[j]))=ws.any (inW s[j])→Ev (fun k=>law18_PlanOrder.l1 k m ws s a (j:Int) 0 b (i:Int)) r
  | 0, i, b, hd, hi, hb => by
    obtain rfl:i=ws.length:=by omega
    rw [List.drop_length,List.any_nil,Bool.or_false] at hb
    rw [hb]
    exact Ev.step (fun k=>law18_PlanOrder.l1.eq_2 (k:=k) ..) (Ev.congr (fun k=>if_neg (by omega)) hr)
  | d + 1, i, b, hd, hi, hb => by
    have hlt:i<ws.length:=by omega
    have e1:wrap64 ((i:Int)+1)=((i+1:Nat):Int):=by rw [w64 (by omega) (by omega)];rfl
    rw [List.drop_eq_getElem_cons hlt,List.any_cons] at hb
    cases b with
    | true =>
      exact Ev.step (fun k=>law18_PlanOrder.l1.eq_2 (k:=k) ..) (Ev.congr (fun k=>by rw [if_pos (by omega),if_pos rfl,e1]) (po_l1 hj hw hr d (i+1) true (by omega) (by omega) (by rw [Bool.true_or] at hb ⊢;exact hb)))
    | false =>
      rw [Bool.false_or] at hb
      refine Ev.step (fun k=>law18_PlanOrder.l1.eq_2 (k:=k) ..) (Ev.congr (fun k=>by rw [if_pos (by omega),if_neg (by simp),if_pos (by omega),if_pos (by omega),if_pos (by omega),rd_wantN ws hlt,po_stepN s hj,e1]) ?_)
      by_cases c:ws[i].f0=s[j].f1
      · exact Ev.congr (fun k=>if_pos (by rw [c])) (po_l1 hj hw hr d (i+1) _ (by omega) (by omega) (by rw [←hb];unfold inW;rw [decide_eq_true c,Bool.true_and]))
      exact Ev.congr (fun k=>if_neg (fun q=>c (nm_inj.1 q))) (po_l1 hj hw hr d (i+1) false (by omega) (by omega) (by rw [←hb,show inW s[j] ws[i]=false from by unfold inW;rw [decide_eq_false c,Bool.false_and]]))
theorem po_l2 {m:List PMark} {ws:List Want} {s:List PStep} {j:Nat} (hj:j<s.length) (hm:m.length≤1000) {a:Int} {r B:Bool} (hr:Ev (fun k=>law18_PlanOrder.l2 k m ws s a (j:Int) 0 B (m.length:Int)) r): ∀(d i:Nat) (b:Bool),m.length - i=d→i≤m.length→(b||(m.drop i).any (inM s[j]))=B→Ev (fun k=>law18_PlanOrder.l2 k m ws s a (j:Int) 0 b (i:Int)) r
  | 0, i, b, hd, hi, hb => by
    obtain rfl:i=m.length:=by omega
    rw [List.drop_length,List.any_nil,Bool.or_false] at hb
    rw [hb]
    exact hr
  | d + 1, i, b, hd, hi, hb => by
    have hlt:i<m.length:=by omega
    have e1:wrap64 ((i:Int)+1)=((i+1:Nat):Int):=by rw [w64 (by omega) (by omega)];rfl
    rw [List.drop_eq_getElem_cons hlt,List.any_cons] at hb
    cases b with
    | true =>
      exact Ev.step (fun k=>law18_PlanOrder.l2.eq_2 (k:=k) ..) (Ev.congr (fun k=>by rw [if_pos (by omega),if_pos rfl,e1]) (po_l2 hj hm hr d (i+1) true (by omega) (by omega) (by rw [Bool.true_or] at hb ⊢;exact hb)))
    | false =>
      rw [Bool.false_or] at hb
      exact Ev.step (fun k=>law18_PlanOrder.l2.eq_2 (k:=k) ..) (Ev.congr (fun k=>by rw [if_pos (by omega),if_neg (by simp),if_pos (by omega),if_pos (by omega),if_pos (by omega),rd_pmarkN m hlt,po_stepN s hj,e1];rfl) (po_l2 hj hm hr d (i+1) (inM s[j] m[i]) (by omega) (by omega) hb))
def atK (last kind:Int):Int:=if kind=1 then 1 else if kind=3 then 2 else if kind=4 then 4 else if last=2 then 3 else last
def goP:Int→List PStep→Prop
 |_,[]=>True
 |a,x::xs=>(x.f0=1∨x.f0=2∨x.f0=3∨x.f0=4)∧a≤atK a x.f0∧ ¬(atK a x.f0=4∧x.f0=2)∧goP (atK a x.f0) xs
theorem po_end {m:List PMark} {ws:List Want} {s:List PStep} {j:Nat} (hj:j<s.length) (hs:s.length≤5000) {a:Int} (hk:s[j].f0=1∨s[j].f0=2∨s[j].f0=3∨s[j].f0=4) (h1:a≤atK a s[j].f0) (h2: ¬(atK a s[j].f0=4∧s[j].f0=2)) {r:Bool} (hr:Ev (fun k=>law18_PlanOrder.l0 k m ws s (atK a s[j].f0) ((j+1:Nat):Int)) r):Ev (fun k=>law18_PlanOrder.l2 k m ws s a (j:Int) 0 true (m.length:Int)) r:=by
  have e1:wrap64 ((j:Int)+1)=((j+1:Nat):Int):=by rw [w64 (by omega) (by omega)];rfl
  refine Ev.step (fun k=>law18_PlanOrder.l2.eq_2 (k:=k) ..) (Ev.congr (fun k=> ?_) hr)
  rw [if_neg (by omega),if_pos (by omega),if_pos (by omega),po_stepN s hj,e1]
  generalize s[j].f0=q at hk h1 h2 ⊢
  rcases hk with rfl|rfl|rfl|rfl
  · rw [show atK a 1 = 1 from rfl] at h1 ⊢
    rw [if_pos rfl,if_neg (by omega),if_neg (by decide),if_pos rfl]
  · rw [if_neg (by decide), if_neg (by decide), if_neg (by decide), if_pos rfl]
    by_cases c:a=2
    · subst c
      rw [show atK 2 2=3 from rfl]
      rw [if_pos rfl,if_neg (by decide),if_neg (by decide),if_pos rfl]
    have e:atK a 2=a:=by
      unfold atK
      rw [if_neg (by decide),if_neg (by decide),if_neg (by decide),if_neg c]
    rw [e] at h1 h2 ⊢
    rw [if_neg c,if_neg (by omega),if_neg (fun q=>h2 ⟨q,rfl⟩),if_pos rfl]
  · rw [show atK a 3 = 2 from rfl] at h1 ⊢
    rw [if_neg (by decide),if_pos rfl,if_neg (by omega),if_neg (by decide),if_pos rfl]
  rw [show atK a 4=4 from rfl] at h1 ⊢
  rw [if_neg (by decide),if_neg (by decide),if_pos rfl,if_neg (by omega),if_pos rfl,if_neg (by decide),if_pos rfl]
theorem po_l0 {m:List PMark} {ws:List Want} {s:List PStep} (hs:s.length≤5000) (hw:ws.length≤1000) (hm:m.length≤1000) (hn: ∀x∈s,(ws.any (inW x)||m.any (inM x))=true): ∀(d j:Nat) (a:Int),s.length - j=d→j≤s.length→goP a (s.drop j)→Ev (fun k=>law18_PlanOrder.l0 k m ws s a (j:Int)) true
  | 0, j, a, hd, hj, hg => by
    obtain rfl:j=s.length:=by omega
    exact Ev.step (fun k=>law18_PlanOrder.l0.eq_2 (k:=k) ..) (Ev.congr (fun k=>if_neg (by omega)) awake18_ev)
  | d + 1, j, a, hd, hj, hg => by
    have hlt:j<s.length:=by omega
    rw [List.drop_eq_getElem_cons hlt] at hg
    obtain ⟨g0,g1,g2,g3⟩:=hg
    refine Ev.step (fun k=>law18_PlanOrder.l0.eq_2 (k:=k) ..) (Ev.congr (fun k=>if_pos (by omega)) ?_)
    refine po_l1 hlt hw ?_ ws.length 0 false (by omega) (by omega) (by rw [List.drop_zero,Bool.false_or])
    refine po_l2 (B:=true) hlt hm ?_ m.length 0 _ (by omega) (by omega) (by rw [List.drop_zero];exact hn _ (List.getElem_mem hlt))
    exact po_end hlt hs g0 g1 g2 (po_l0 hs hw hm hn d (j+1) _ (by omega) (by omega) g3)
theorem goP_D {D:List PStep} (hD: ∀x∈D,x.f0=4) {a:Int} (ha:a≤4):goP a D:=by
  induction D generalizing a with
  |nil=>trivial
  | cons x D ih =>
    have hx:x.f0=4:=hD x (by simp)
    refine ⟨by rw [hx];simp, ?_, ?_, ?_⟩
    · rw [hx];exact ha
    · rw [hx];exact fun q=>absurd q.2 (by decide)
    rw [hx];exact ih (fun y hy=>hD y (by simp [hy])) (a:=4) (by decide)
theorem goP_L {L T:List PStep} (hL: ∀x∈L,x.f0=2) (hT: ∀a:Int,a=1∨a=2∨a=3→goP a T): ∀{a:Int},a=1∨a=2∨a=3→goP a (L++T):=by
  induction L with
  |nil=>exact fun h=>hT _ h
  | cons x L ih =>
    intro a ha
    have hx:x.f0=2:=hL x (by simp)
    have hi:=@ih (fun y hy=>hL y (by simp [hy]))
    show _∧_∧_∧_
    rw [hx]
    rcases ha with rfl|rfl|rfl
    · exact ⟨by decide,by decide,by decide,hi (.inl rfl)⟩
    · exact ⟨by decide,by decide,by decide,hi (.inr (.inr rfl))⟩
    exact ⟨by decide,by decide,by decide,hi (.inr (.inr rfl))⟩
theorem goP_M {M T:List PStep} (hM: ∀x∈M,x.f0=3) (hT: ∀a:Int,a=1∨a=2→goP a T): ∀{a:Int},a=1∨a=2→goP a (M++T):=by
  induction M with
  |nil=>exact fun h=>hT _ h
  | cons x M ih =>
    intro a ha
    have hx:x.f0=3:=hM x (by simp)
    have hi:=@ih (fun y hy=>hM y (by simp [hy]))
    show _∧_∧_∧_
    rw [hx]
    rcases ha with rfl|rfl
    · exact ⟨by decide,by decide,by decide,hi (.inr rfl)⟩
    exact ⟨by decide,by decide,by decide,hi (.inr rfl)⟩
theorem goP_R {R T:List PStep} (hR: ∀x∈R,x.f0=1∨x.f0=2) (hT:goP 1 T):goP 1 (R++T):=by
  induction R with
  |nil=>exact hT
  | cons x R ih =>
    have hi:=ih (fun y hy=>hR y (by simp [hy]))
    show _∧_∧_∧_
    rcases hR x (by simp) with hx|hx
    · rw [hx];exact ⟨by decide,by decide,by decide,hi⟩
    rw [hx];exact ⟨by decide,by decide,by decide,hi⟩
theorem planOrder_pure:law18_PlanOrder.Pure:=by
  intro ns ns1 a2 _ _ hw _ _ hw1 _
  unfold law18_PlanOrder.f
  have hstop:Ev (fun k=>law18_PlanOrder.j0 k ns ns1 a2 true) true:=Ev.step (fun k=>law18_PlanOrder.j0.eq_2 (k:=k) ..) (Ev.congr (fun k=>if_pos rfl) awake18_ev)
  refine Ev.rounds ?_
  by_cases h:(ns.length:Int)>60
  · exact Ev.congr (fun k=>if_pos h) hstop
  refine Ev.congr (fun k=>if_neg h) ?_
  by_cases h1:(ns1.length:Int)>60
  · rw [decide_eq_true h1];exact hstop
  rw [decide_eq_false h1]
  refine Ev.step (fun k=>law18_PlanOrder.j0.eq_2 (k:=k) ..) (Ev.congr (fun k=>if_neg (by decide)) ?_)
  obtain ⟨l,hev,M⟩:=made_all (ns:=ns) (fun x hx=>po_u8 (hw x hx)) (by omega)
  have hlen:=M.len
  obtain ⟨ws,left,ev,I⟩:=make_ev false (ns:=ns1) (by omega) (fun x hx=>po_u8 (hw1 x hx))
  obtain ⟨m,hm,lev⟩:=live_ev hev (by omega) a2
  refine Ev.bind lev (Ev.bind ev ?_)
  have hc:=mk_check I
  have hs:=mk_small I
  have hwl:=I.n24
  dsimp only
  rw [plan_Steps_ev hs (by omega) (by omega)]
  simp only [Option.bind_some]
  cases hwd:wideGo l m false (topR ws) with
  | none =>
    have hp:planR ws m l=([],3):=by
      unfold planR
      rw [if_pos hc,hwd]
    rw [hp]
    simp only [Option.bind_some]
    rw [show law1_Num.f 3=some 3 from rfl]
    simp only [Option.bind_some]
    refine Ev.congr (fun k=>(if_neg (by decide)).trans (if_pos rfl)) awake18_ev
  | some wd =>
    have hp:planR ws m l=((((topR ws).flatMap (raiseS l wd)++(topR ws).flatMap (moveS l))++(topR ws).reverse.flatMap (lowerS l wd))++(goesR ws m l).map delS,0):=by
      unfold planR
      rw [if_pos hc,hwd]
    rw [hp]
    simp only [Option.bind_some]
    rw [show law1_Num.f 0=some 0 from rfl]
    simp only [Option.bind_some]
    refine Ev.congr (fun k=>if_pos trivial) ?_
    have hperm:=topR_perm ws
    have hpl:=hperm.length_eq
    have hL:=plan_len ws m l wd
    refine po_l0 (by omega) (by omega) (by omega) ?_ _ 0 1 rfl (by omega) ?_
    · exact plan_names ws m l wd
    rw [List.drop_zero,List.append_assoc,List.append_assoc]
    refine goP_R (fun x hx=> ?_) (goP_M (fun x hx=> ?_) (fun a ha=>goP_L (fun x hx=> ?_) (fun a ha=>goP_D (fun x hx=> ?_) ?_) ?_) (.inl rfl))
    · obtain ⟨y, hy, hx⟩ := List.mem_flatMap.1 hx
      exact (raise_kind2 hx).1
    · obtain ⟨y, hy, hx⟩ := List.mem_flatMap.1 hx
      exact (move_kind2 hx).1
    · obtain ⟨y, hy, hx⟩ := List.mem_flatMap.1 hx
      exact (lower_kind2 hx).1
    · obtain ⟨y, hy, rfl⟩ := List.mem_map.1 hx
      rfl
    · omega
    omega
end Go.Proofs.Ytahidkjncljkaaa.Print
namespace Go.Proofs.Ytahidkjncljkaaa.Pure
open Go.Proofs.Ytahidkjncljkaaa.Print
theorem PlanOrder:law18_PlanOrder.Pure:=planOrder_pure
end Go.Proofs.Ytahidkjncljkaaa.Pure

namespace Go.Proofs.Ytahidkjncljkaaa.Head
def signs:List Char:=(List.map Char.ofNat [104,97,114,110,101,115,115,32,52,48,100,98,98,98,100,57,102,99,56,49,51,57,52,102,98,101,100,54,48,53,102,48,101,50,51,100,52,101,50,55,97,52,48,52,98,97,49,55,57,48,56,57,54,99,56,100,54,100,100,54,56,102,97,52,102,101,49,48,50,99,55,57,32,99,117,116,32,97,116,32,100,111,111,114,107,101,101,112,101,114,47,100,111,111,114,107,101,101,112,101,114,108,97,119,49,49,46,87,97,110,116,65,108,108,32,100,111,111,114,107,101,101,112,101,114,47,100,111,111,114,107,101,101,112,101,114,108,97,119,49,49,46,87,97,110,116,77,97,100,101,32,100,111,111,114,107,101,101,112,101,114,47,100,111,111,114,107,101,101,112,101,114,108,97,119,49,49,46,87,97,110,116,84,111,112,32,100,111,111,114,107,101,101,112,101,114,47,100,111,111,114,107,101,101,112,101,114,108,97,119,49,49,46,87,97,110,116,67,105,114,99,108,101,32,100,111,111,114,107,101,101,112,101,114,47,100,111,111,114,107,101,101,112,101,114,108,97,119,49,49,46,87,97,110,116,83,117,109,115,32,100,111,111,114,107,101,101,112,101,114,47,100,111,111,114,107,101,101,112,101,114,108,97,119,49,57,46,84,114,105,97,108,67,117,116,115,32,100,111,111,114,107,101,101,112,101,114,47,100,111,111,114,107,101,101,112,101,114,108,97,119,49,56,46,80,108,97,110,65,108,108,32,100,111,111,114,107,101,101,112,101,114,47,100,111,111,114,107,101,101,112,101,114,108,97,119,49,56,46,80,108,97,110,77,97,100,101,32,100,111,111,114,107,101,101,112,101,114,47,100,111,111,114,107,101,101,112,101,114,108,97,119,49,56,46,80,108,97,110,76,101,97,100,115,32,100,111,111,114,107,101,101,112,101,114,47,100,111,111,114,107,101,101,112,101,114,108,97,119,49,56,46,80,108,97,110,69,109,112,116,121,32,100,111,111,114,107,101,101,112,101,114,47,100,111,111,114,107,101,101,112,101,114,108,97,119,49,56,46,80,108,97,110,79,114,100,101,114,32,100,111,111,114,107,101,101,112,101,114,47,100,111,111,114,107,101,101,112,101,114,108,97,119,49,56,46,80,108,97,110,70,114,101,115,104,32,100,111,111,114,107,101,101,112,101,114,47,100,111,111,114,107,101,101,112,101,114,108,97,119,49,56,46,80,108,97,110,78,111,110,101,32,100,111,111,114,107,101,101,112,101,114,47,100,111,111,114,107,101,101,112,101,114,108,97,119,49,56,46,80,108,97,110,67,108,97,115,104,32,100,111,111,114,107,101,101,112,101,114,47,100,111,111,114,107,101,101,112,101,114,108,97,119,49,56,46,80,108,97,110,87,105,100,101,32,100,111,111,114,107,101,101,112,101,114,47,100,111,111,114,107,101,101,112,101,114,108,97,119,50,51,46,65,112,112,108,121,65,108,108,32,100,111,111,114,107,101,101,112,101,114,47,100,111,111,114,107,101,101,112,101,114,108,97,119,50,51,46,65,112,112,108,121,77,97,100,101,32,100,111,111,114,107,101,101,112,101,114,47,100,111,111,114,107,101,101,112,101,114,108,97,119,50,51,46,65,112,112,108,121,65,103,97,105,110,32,100,111,111,114,107,101,101,112,101,114,47,100,111,111,114,107,101,101,112,101,114,108,97,119,50,51,46,65,112,112,108,121,69,110,100,115])
set_option maxRecDepth 100000 in
theorem word:Try.prog.initOrder=String.ofList signs:=by kernel_rfl
theorem list:Try.prog.initOrder.toList=signs:=by rw [word,String.toList_ofList]
theorem words_app: ∀(w r:List Char),(∀c∈w,c≠Char.ofNat 32)→wordsSigns (w++Char.ofNat 32::r)=w::wordsSigns r
  |[],r,_=>rfl
  | c :: w, r, h => by
    have hc:c≠Char.ofNat 32:=h c (by simp)
    have ih:=words_app w r (fun d hd=>h d (by simp [hd]))
    show wordsSigns (c::(w++Char.ofNat 32::r))=_
    rw [wordsSigns.eq_3 _ _ (fun q=>hc q),ih]
def w1:List Char:=[Char.ofNat 104,Char.ofNat 97,Char.ofNat 114,Char.ofNat 110,Char.ofNat 101,Char.ofNat 115,Char.ofNat 115]
def w2:List Char:=(List.map Char.ofNat [52,48,100,98,98,98,100,57,102,99,56,49,51,57,52,102,98,101,100,54,48,53,102,48,101,50,51,100,52,101,50,55,97,52,48,52,98,97,49,55,57,48,56,57,54,99,56,100,54,100,100,54,56,102,97,52,102,101,49,48,50,99,55,57])
def w3:List Char:=[Char.ofNat 99,Char.ofNat 117,Char.ofNat 116]
def rest:List Char:=(List.map Char.ofNat [97,116,32,100,111,111,114,107,101,101,112,101,114,47,100,111,111,114,107,101,101,112,101,114,108,97,119,49,49,46,87,97,110,116,65,108,108,32,100,111,111,114,107,101,101,112,101,114,47,100,111,111,114,107,101,101,112,101,114,108,97,119,49,49,46,87,97,110,116,77,97,100,101,32,100,111,111,114,107,101,101,112,101,114,47,100,111,111,114,107,101,101,112,101,114,108,97,119,49,49,46,87,97,110,116,84,111,112,32,100,111,111,114,107,101,101,112,101,114,47,100,111,111,114,107,101,101,112,101,114,108,97,119,49,49,46,87,97,110,116,67,105,114,99,108,101,32,100,111,111,114,107,101,101,112,101,114,47,100,111,111,114,107,101,101,112,101,114,108,97,119,49,49,46,87,97,110,116,83,117,109,115,32,100,111,111,114,107,101,101,112,101,114,47,100,111,111,114,107,101,101,112,101,114,108,97,119,49,57,46,84,114,105,97,108,67,117,116,115,32,100,111,111,114,107,101,101,112,101,114,47,100,111,111,114,107,101,101,112,101,114,108,97,119,49,56,46,80,108,97,110,65,108,108,32,100,111,111,114,107,101,101,112,101,114,47,100,111,111,114,107,101,101,112,101,114,108,97,119,49,56,46,80,108,97,110,77,97,100,101,32,100,111,111,114,107,101,101,112,101,114,47,100,111,111,114,107,101,101,112,101,114,108,97,119,49,56,46,80,108,97,110,76,101,97,100,115,32,100,111,111,114,107,101,101,112,101,114,47,100,111,111,114,107,101,101,112,101,114,108,97,119,49,56,46,80,108,97,110,69,109,112,116,121,32,100,111,111,114,107,101,101,112,101,114,47,100,111,111,114,107,101,101,112,101,114,108,97,119,49,56,46,80,108,97,110,79,114,100,101,114,32,100,111,111,114,107,101,101,112,101,114,47,100,111,111,114,107,101,101,112,101,114,108,97,119,49,56,46,80,108,97,110,70,114,101,115,104,32,100,111,111,114,107,101,101,112,101,114,47,100,111,111,114,107,101,101,112,101,114,108,97,119,49,56,46,80,108,97,110,78,111,110,101,32,100,111,111,114,107,101,101,112,101,114,47,100,111,111,114,107,101,101,112,101,114,108,97,119,49,56,46,80,108,97,110,67,108,97,115,104,32,100,111,111,114,107,101,101,112,101,114,47,100,111,111,114,107,101,101,112,101,114,108,97,119,49,56,46,80,108,97,110,87,105,100,101,32,100,111,111,114,107,101,101,112,101,114,47,100,111,111,114,107,101,101,112,101,114,108,97,119,50,51,46,65,112,112,108,121,65,108,108,32,100,111,111,114,107,101,101,112,101,114,47,100,111,111,114,107,101,101,112,101,114,108,97,119,50,51,46,65,112,112,108,121,77,97,100,101,32,100,111,111,114,107,101,101,112,101,114,47,100,111,111,114,107,101,101,112,101,114,108,97,119,50,51,46,65,112,112,108,121,65,103,97,105,110,32,100,111,111,114,107,101,101,112,101,114,47,100,111,111,114,107,101,101,112,101,114,108,97,119,50,51,46,65,112,112,108,121,69,110,100,115])
theorem parts:signs=w1++Char.ofNat 32::(w2++Char.ofNat 32::(w3++Char.ofNat 32::rest)):=by kernel_rfl
theorem behind: ∃r,behindMainWord (wordsSigns Try.prog.initOrder.toList)=w3::r:=by
 refine ⟨wordsSigns rest, ?_⟩
 rw [list,parts,words_app w1 _ (by decide),words_app w2 _ (by decide),words_app w3 _ (by decide)]
 generalize wordsSigns rest=r
 rfl
theorem strip (r:List (List Char)):stripLifts liftWords (w3::r)=([],w3::r):=by kernel_rfl
theorem not_carried (r:List (List Char)):((w3::r).head?==some "carried".toList)=false:=by kernel_rfl
theorem is_cut (r:List (List Char)):((w3::r).head?==some "cut".toList)=true:=by kernel_rfl
theorem not_gc:(w3== "gc".toList||w3== "spec".toList)=false:=by kernel_rfl
theorem cut_:(w3== "cut".toList)=true:=by kernel_rfl
theorem lifts_of {P:Program} {r:List (List Char)} (h:behindMainWord (wordsSigns P.initOrder.toList)=w3::r):P.liftsFinal=false:=by
 unfold Program.liftsFinal Program.headLifts
 simp only [h,strip,not_carried,is_cut,if_true,Bool.false_and,Bool.false_or,List.contains_nil]
theorem make_of {P:Program} {r:List (List Char)} (h:behindMainWord (wordsSigns P.initOrder.toList)=w3::r):P.make=some .cut:=by
 unfold Program.make
 simp only [h,not_gc,cut_,Bool.true_or,if_true,Bool.false_eq_true,if_false]
theorem lifts:Try.prog.liftsFinal=false:=by obtain ⟨r,h⟩:=behind;exact lifts_of h
theorem make:Try.prog.make=some .cut:=by obtain ⟨r,h⟩:=behind;exact make_of h
theorem later:Try.prog.laysLater=false:=by kernel_rfl
theorem reflects:Try.prog.bearsReflect=false:=by kernel_rfl
theorem door:Try.prog.doorFits []=true:=by kernel_rfl
theorem may_of {P:Program} {r:List (List Char)} (h:behindMainWord (wordsSigns P.initOrder.toList)=w3::r) (h1:P.laysLater=false) (h2:P.bearsReflect=false) (h3:P.doorFits []=true):P.mayEnter=true:=by
 unfold Program.mayEnter
 simp only [h,strip,is_cut,h1,h2,h3,List.contains_nil,Bool.not_false,Bool.or_true,Bool.and_true,Bool.and_self]
theorem mayEnter:Try.prog.mayEnter=true:=by obtain ⟨r,h⟩:=behind;exact may_of h later reflects door
theorem stopsHeard:Try.prog.stopsHeard=true:=by kernel_rfl
theorem laidOut:laidOutB Try.prog=true:=by kernel_rfl
theorem mapsRowed:mapsRowed Try.prog=true:=by kernel_rfl
theorem stops:(Try.prog.stops==[])=true:=by kernel_rfl
theorem stopKnobs:(Try.prog.stopKnobs==[])=true:=by kernel_rfl
end Go.Proofs.Ytahidkjncljkaaa.Head

-- PRINTED WORDS (module Derived/Print/Sized.lean): go-gate-2's, for the rows of laws over slices: an AI agent of Go's test side, Tue Nov 17 2026; no person has read it. Lean checks it.
namespace Go.Proofs.YtahidkjncljkaaaW.PrintWords
open Go.ChangeShapes Go.WideShapes
theorem sized_ints {H:Type} {enc:TypeId×Value→H} {P:Program} {W:World} {base:Nat} {spare:Nat→Bool} {held:Bool} {t e:TypeId} {k:IntKind} {a:Option Addr} {len cap:Nat} {d:DataW H} {ps:List MemPlace} {ts:List TypeId} {ds:List (DataW H)} {j:Nat}
    (hsz:(DataW.weightsEach P ts ds).all (· ≤reachBytes)=true) (ht:ts[j]?=some t) (hd:ds[j]?=some d) (hu:P.underlying t=some (.slice e)) (he:P.underlying e=some (.int k)) (hc:P.cellsOf e=1) {B:Nat} (hB:P.bytesOf e=B)
    (h:DataW.Trod enc P W base spare held t (.slice a len cap) d ps):len*B≤140737488351232:=by
  obtain ⟨fuel,hf⟩:=h
  rcases open_ints hu he hc hf with ⟨hcs,_⟩|⟨x,l,c,zs,hcs,_,hl,_,hz,hx,_,_⟩
  · simp [Value.cells] at hcs
    obtain ⟨rfl,rfl,rfl⟩:=hcs
    simp
  · simp [Value.cells] at hcs
    obtain ⟨rfl,rfl,rfl⟩:=hcs
    obtain ⟨hx,_⟩:=Prod.mk.inj hx
    subst hx
    have z:=sized_slice hsz ht hd hu
    rw [hB] at z
    have hl2:len≤zs.length:=by
      rw [hz]
      split
      · exact hl
      · exact Nat.le_refl _
    have h1:(lits (H:=H) k (zs.take len)).length+(lits (H:=H) k (zs.drop len)).length=zs.length:=by
      simp [lits]
      omega
    rw [h1] at z
    exact Nat.le_trans (Nat.mul_le_mul_right _ hl2) z
end Go.Proofs.YtahidkjncljkaaaW.PrintWords
