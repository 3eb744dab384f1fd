/- PlanEmpty: a part -/
import Derived.Shelf.SlSortCmp.KitK
import Derived.Deep.LoopGhost
import Derived.WalkSpells
import Derived.Test.YtahidkjncljkaaaBPlanEmpty0
import Derived.Test.YtahidkjncljkaaaBPlanEmpty1
import Derived.Test.YtahidkjncljkaaaBPlanEmpty2
import Derived.Test.YtahidkjncljkaaaBPlanEmpty3
set_option linter.unusedVariables false
set_option linter.unusedSimpArgs false
namespace Go.Proofs.Ytahidkjncljkaaa.Print
open Go.RowKit Go.Proofs.YtahidkjncljkaaaW.PrintWords Go.Proofs.YtahidkjncljkaaaW.PrintLast Go.Proofs.YtahidkjncljkaaaW.PrintMore
attribute [local go_sem] max2_int min2_int max_two min_two max_three min_three max_four min_four

mutual
def law12_Make.l0:Nat→List Int→List (S79)→Int→Option ((List (S79)))
 |0,_,_,_=>none
 |k+1,x0,x3,x4=>if (wrap64 (x4+2))<(x0.length:Int) then (law12_Make.j1 k x0 x3 x4 (decide ((x3.length:Int)<24))) else (law12_Make.j1 k x0 x3 x4 false)
def law12_Make.j1:Nat→List Int→List (S79)→Int→Bool→Option ((List (S79)))
 |0,_,_,_,_=>none
 |k+1,x0,x3,x4,x21=>if x21=true then (if 0≤x4 then (if x4<(x0.length:Int) then (if (x3.length:Int)>0 then (law12_Make.j2 k x0 x3 x4 (wrap64 (rd x0 x4)) (⟨#[]⟩:ByteArray) (decide ((Int.tmod (wrap64 (rd x0 x4)) 3)>0))) else (law12_Make.j2 k x0 x3 x4 (wrap64 (rd x0 x4)) (⟨#[]⟩:ByteArray) false)) else (none)) else (none)) else (some x3)
def law12_Make.j2:Nat→List Int→List (S79)→Int→Int→ByteArray→Bool→Option ((List (S79)))
 |0,_,_,_,_,_,_=>none
 |k+1,x0,x3,x4,x5,x6,x36=>if x36=true then (if (x3.length:Int)=0 then (none) else (if 0≤(Int.tmod (wrap64 (Int.tdiv x5 3)) (x3.length:Int)) then (if (Int.tmod (wrap64 (Int.tdiv x5 3)) (x3.length:Int))<(x3.length:Int) then (law12_Make.j3 k x0 x3 x4 ((rd_T79 x3 (Int.tmod (wrap64 (Int.tdiv x5 3)) (x3.length:Int))).f0)) else (none)) else (none))) else (law12_Make.j3 k x0 x3 x4 x6)
def law12_Make.j3:Nat→List Int→List (S79)→Int→ByteArray→Option ((List (S79)))
 |0,_,_,_,_=>none
 |k+1,x0,x3,x4,x6=>if 0≤(wrap64 (x4+1)) then (if (wrap64 (x4+1))<(x0.length:Int) then ((r10_Create.f k x3 (strOfNums (([(wrap64 (97+(Int.tmod (wrap64 ((x3.length:Int)*5)) 24))) % 256]:List Int))) x6 (wrap64 (20+(wrap64 (rd x0 (wrap64 (x4+1)))))) (wrap64 (20+(wrap64 (rd x0 (wrap64 (x4+1)))))) (wrap64 (20+(wrap64 (rd x0 (wrap64 (x4+1))))))).bind fun bt7=>(if bt7.2=0 then (if 0≤(wrap64 (x4+2)) then (if (wrap64 (x4+2))<(x0.length:Int) then (if (bt7.1.length:Int)=0 then (none) else (if 0≤(Int.tmod (wrap64 (Int.tdiv (wrap64 (rd x0 (wrap64 (x4+2)))) 16)) (bt7.1.length:Int)) then (if (Int.tmod (wrap64 (Int.tdiv (wrap64 (rd x0 (wrap64 (x4+2)))) 16)) (bt7.1.length:Int))<(bt7.1.length:Int) then ((r10_Admit.f k bt7.1 ((rd_T79 bt7.1 (Int.tmod (wrap64 (Int.tdiv (wrap64 (rd x0 (wrap64 (x4+2)))) 16)) (bt7.1.length:Int))).f0) (Int.tmod (wrap64 (rd x0 (wrap64 (x4+2)))) 16) (wrap64 (Int.tdiv (Int.tmod (wrap64 (rd x0 (wrap64 (x4+2)))) 16) 2)) (Int.tmod (Int.tmod (wrap64 (rd x0 (wrap64 (x4+2)))) 16) 3)).bind fun bt15=>(if bt15.2=0 then (law12_Make.l0 k x0 bt15.1 (wrap64 (x4+3))) else (law12_Make.l0 k x0 bt7.1 (wrap64 (x4+3))))) else (none)) else (none))) else (none)) else (none)) else (law12_Make.l0 k x0 x3 (wrap64 (x4+3))))) else (none)) else (none)
end
def law12_Make.f (k:Nat) (l0:List Int):Option ((List (S79))):=law12_Make.l0 k l0 ([]:List (S79)) 0
theorem law12_Make.mono_l: ∀k,(∀y0 y1 y2,LeO (law12_Make.l0 k y0 y1 y2) (law12_Make.l0 (k+1) y0 y1 y2))∧(∀y0 y1 y2 y3,LeO (law12_Make.j1 k y0 y1 y2 y3) (law12_Make.j1 (k+1) y0 y1 y2 y3))∧(∀y0 y1 y2 y3 y4 y5,LeO (law12_Make.j2 k y0 y1 y2 y3 y4 y5) (law12_Make.j2 (k+1) y0 y1 y2 y3 y4 y5))∧(∀y0 y1 y2 y3,LeO (law12_Make.j3 k y0 y1 y2 y3) (law12_Make.j3 (k+1) y0 y1 y2 y3))
 |0=>⟨fun _ _ _ r h=>by simp [law12_Make.l0] at h,fun _ _ _ _ r h=>by simp [law12_Make.j1] at h,fun _ _ _ _ _ _ r h=>by simp [law12_Make.j2] at h,fun _ _ _ _ r h=>by simp [law12_Make.j3] at h⟩
 |k+1=>by
  obtain ⟨ih0,ih1,ih2,ih3⟩:=law12_Make.mono_l k;refine ⟨?_, ?_, ?_, ?_⟩<;>(intros;first|unfold law12_Make.l0|unfold law12_Make.j1|unfold law12_Make.j2|unfold law12_Make.j3)<;>repeat' with_reducible first|apply ih0|apply ih1|apply ih2|apply ih3|apply r10_Admit.mono|apply r10_Create.mono|apply LeO.refl|apply LeO.none|apply LeO.ite|refine LeO.bind ?_ fun _=> ?_
theorem law12_Make.mono: ∀a0 k,LeO (law12_Make.f k a0) (law12_Make.f (k+1) a0):=by
 intro a0 k;obtain ⟨ih0,ih1,ih2,ih3⟩:=law12_Make.mono_l k;unfold law12_Make.f
 repeat' with_reducible first|apply ih0|apply ih1|apply ih2|apply ih3|apply r10_Admit.mono|apply r10_Create.mono|apply LeO.refl|apply LeO.none|apply LeO.ite|refine LeO.bind ?_ fun _=> ?_
set_option maxHeartbeats 8000000 in
set_option maxRecDepth 100000 in
theorem law12_Make.calls (k:Nat) (A0:Option Addr) (c0:Nat) (l0:List Int) (r:List (S79)) (w:World) (hr0:Kd.C (Kd.int .u8) w A0 l0.length l0) (hc0:l0.length≤c0) (h:law12_Make.f k l0=some r):
  Calls Try.prog 38 #[.slice A0 l0.length c0] w fun e w'=> ∃v0_:Value,e= .returned (v0_)∧Kd.R k79 79 w' w.heap.size (fun _=>True) v0_ r∧Below w.heap.size w w':=by
 have hu37:=Try.underlying37;have hu73:=Try.underlying73;have HR0:=Aside0.mk hr0;have HC0:=Aside0.mk hc0;clear hr0 hc0;have HB:=am_ (Below.refl w.heap.size w);have H:(law12_Make.l0 k l0 ([]:List (S79)) 0)=some r:=h;clear h;have H':=Aside0.mk H;clear H;go_enter Try.func38,Try.ntmps38;go_wp2
 go_loopg [3,4] k (fun kq v3 v4 w'=> ∃(x3_1:List (S79)) (x4_1:Int),v4= .int .i64 x4_1∧Aside0 (law12_Make.l0 kq l0 x3_1 x4_1=some r)∧Aside0 (kq≤k)∧Aside0 (Kd.R k79 79 w' w.heap.size (fun _=>True) v3 x3_1)∧Aside0 (Below w.heap.size w w'))
 case atStart=>exact ⟨(([]:List (S79))),(0),rf_,H',⟨Nat.le_refl _⟩,⟨by first|exact Kd.R_nil _ _ _ _ _|exact Kd.N_nil _ _ _ _ _|exact Kd.V_nil _ _ _ _ _|exact Kd.Q_nil _ _ _ _ _|exact Kd.S_nil _ _ _ _ _⟩,⟨zl0_ HB⟩⟩
 case round=>
  clear H';obtain ⟨x3_1,x4_1,rfl,HA,HK1,HO_3,HB⟩:=hrel
  cases gk with
  |zero=>exact absurd HA.out (by simp [law12_Make.l0])
  |succ k1=>
   have H:=HA.out;clear HA;simp only [law12_Make.l0] at H;have HC2:=Aside0.mk H;clear H;go_upto_region 3 with (fail)
   go_cut [21] (fun v21 wc=> ∃(kq:Nat) (x21_1:Bool),v21= .bool x21_1∧Aside0 (law12_Make.j1 kq l0 x3_1 x4_1 x21_1=some r)∧Aside0 (kq≤k1)∧Aside0 (Kd.R k79 79 wc w.heap.size (fun _=>True) u3 x3_1)∧Aside0 (Below w.heap.size w wc))
   case first=>
    have H:=HC2.out;clear HC2;by_cases c3:(wrap64 (x4_1+2))<(l0.length:Int);rotate_left
    ·rw [if_neg c3] at H;have c3b0:=decide_eq_false c3;clear c3;(first|rw [c3b0]|(simp only [i64_w,i32_w];rw [c3b0])|skip);have H':=Aside0.mk H;clear H;go_wp2
     go_meet
     case rel=>exact ⟨_,(false),rf_,H',⟨by have:=HK1.out;first|omega|exact Nat.le_refl _⟩,am_ (zr_ HO_3),⟨zl0_ HB⟩⟩
    rw [if_pos c3] at H;have c3b0:=decide_eq_true c3;clear c3;(first|rw [c3b0]|(simp only [i64_w,i32_w];rw [c3b0])|skip);have H':=Aside0.mk H;clear H;obtain ⟨Ao4,co4,eo4⟩:=Kd.R_slice HO_3.out;subst eo4;go_wp2
    go_meet
    case rel=>exact ⟨_,(decide ((x3_1.length:Int)<24)),rf_,H',⟨by have:=HK1.out;first|omega|exact Nat.le_refl _⟩,am_ (zr_ HO_3),⟨zl0_ HB⟩⟩
   case rest=>
    clear HC2;obtain ⟨kq,x21_1,rfl,HA,HJ1,HO_3,HB⟩:=hcut
    cases kq with
    |zero=>exact absurd HA.out (by simp [law12_Make.j1])
    |succ kj1=>
     have H:=HA.out;clear HA;simp only [law12_Make.j1] at H;by_cases c5:x21_1=true;rotate_left
     ·replace c5:=Bool.eq_false_iff.mpr c5;subst c5;rw [if_neg (show¬(false=true) by decide)] at H;obtain rfl:=Option.some.inj H;go_wp2
      go_ret
      exact ⟨_,by first|rfl|(simp [errW_none,errW_some]<;>rfl)|(simp [*,errW_none,errW_some]<;>rfl),zr_ HO_3,zl0_ HB⟩

     subst c5;rw [if_pos rfl] at H;replace H:=zif_ H;obtain ⟨c6,H⟩:=H;have c6b0:=decide_eq_true c6;clear c6;replace H:=zif_ H;obtain ⟨c7,H⟩:=H;have c7b0:=decide_eq_true c7;clear c7;have HC8:=Aside0.mk H;clear H;obtain ⟨p1,q1,ad1,e1,hx1_0⟩:=zat_ (Kd.at_int HR0.out x4_1);cases e1;replace hx1_0:=zx_ HB hx1_0;go_upto_region 7 with (fail)
     go_cut [36] (fun v36 wc=> ∃(kq:Nat) (x36_7:Bool),v36= .bool x36_7∧Aside0 (law12_Make.j2 kq l0 x3_1 x4_1 (wrap64 (rd l0 x4_1)) (⟨#[]⟩:ByteArray) x36_7=some r)∧Aside0 (kq≤kj1)∧Aside0 (Kd.R k79 79 wc w.heap.size (fun _=>True) u3 x3_1)∧Aside0 (Below w.heap.size w wc))
     case first=>
      have H:=HC8.out;clear HC8;by_cases c9:(x3_1.length:Int)>0
      ·rw [if_pos c9] at H;have c9b0:decide (0<(x3_1.length:Int))=true:=decide_eq_true c9;have c9b1:decide (0<x3_1.length)=true:=decide_eq_true (by omega);clear c9;(first|rw [c9b0]|(simp only [i64_w,i32_w];rw [c9b0])|skip);have H':=Aside0.mk H;clear H;obtain ⟨Ao10,co10,eo10⟩:=Kd.R_slice HO_3.out;subst eo10;go_wp2
       go_meet
       case rel=>exact ⟨_,(decide ((Int.tmod (wrap64 (rd l0 x4_1)) 3)>0)),rf_,H',⟨by have:=HK1.out;have:=HJ1.out;first|omega|exact Nat.le_refl _⟩,am_ (zr_ HO_3),⟨zl0_ HB⟩⟩
      rw [if_neg c9] at H;have c9b0:decide (0<(x3_1.length:Int))=false:=decide_eq_false c9;have c9b1:decide (0<x3_1.length)=false:=decide_eq_false (by omega);clear c9;(first|rw [c9b0]|(simp only [i64_w,i32_w];rw [c9b0])|skip);have H':=Aside0.mk H;clear H;obtain ⟨Ao11,co11,eo11⟩:=Kd.R_slice HO_3.out;subst eo11;go_wp2
      go_meet
      case rel=>exact ⟨_,(false),rf_,H',⟨by have:=HK1.out;have:=HJ1.out;first|omega|exact Nat.le_refl _⟩,am_ (zr_ HO_3),⟨zl0_ HB⟩⟩
     case rest=>
      clear HC8;obtain ⟨kq,x36_7,rfl,HA,HJ7,HO_3,HB⟩:=hcut
      cases kq with
      |zero=>exact absurd HA.out (by simp [law12_Make.j2])
      |succ kj7=>
       have H:=HA.out;clear HA;simp only [law12_Make.j2] at H;have HC12:=Aside0.mk H;clear H;go_upto_if 36 with (fail)
       go_cut [6] (fun v6 wc=> ∃(kq:Nat) (x6_11:ByteArray),v6= .string x6_11∧Aside0 (law12_Make.j3 kq l0 x3_1 x4_1 x6_11=some r)∧Aside0 (kq≤kj7)∧Aside0 (Kd.R k79 79 wc w.heap.size (fun _=>True) u3 x3_1)∧Aside0 (Below w.heap.size w wc))
       case first=>
        have H:=HC12.out;clear HC12;by_cases c13:x36_7=true;rotate_left
        ·replace c13:=Bool.eq_false_iff.mpr c13;subst c13;rw [if_neg (show¬(false=true) by decide)] at H;have H':=Aside0.mk H;clear H;go_wp2
         go_meet
         case rel=>exact ⟨_,((⟨#[]⟩:ByteArray)),rf_,H',⟨by have:=HK1.out;have:=HJ1.out;have:=HJ7.out;first|omega|exact Nat.le_refl _⟩,am_ (zr_ HO_3),⟨zl0_ HB⟩⟩
        subst c13;rw [if_pos rfl] at H;by_cases c14:(x3_1.length:Int)=0
        ·rw [if_pos c14] at H;exact absurd H (by simp)
        rw [if_neg c14] at H;have c14b0:=beq_eq_false_iff_ne.mpr c14;have c14b1:=bne_iff_ne.mpr c14;have c14b2: ¬(x3_1=[]):=fun h_=>c14 (by rw [h_];rfl)
        (first|rw [c14b0]|(simp only [i64_w,i32_w];rw [c14b0])|skip);obtain ⟨ji15,hji15⟩: ∃j_:Int,(Int.tmod (wrap64 (Int.tdiv (wrap64 (rd l0 x4_1)) 3)) (x3_1.length:Int))=j_:=⟨_,rfl⟩;replace H:(if 0≤(ji15) then (if (ji15)<(x3_1.length:Int) then (law12_Make.j3 kj7 l0 x3_1 x4_1 ((rd_T79 x3_1 (ji15)).f0)) else (none)) else (none))=some r:=by first|(rw [hji15] at H;exact H)|(simp only [hji15] at H ⊢;exact H)
        replace H:=zif_ H;obtain ⟨c16,H⟩:=H;have c16b0:=decide_eq_true c16;clear c16;replace H:=zif_ H;obtain ⟨c17,H⟩:=H;have c17b0:=decide_eq_true c17;clear c17;have H':=Aside0.mk H;clear H;obtain ⟨Ao18,co18,eo18⟩:=Kd.R_slice HO_3.out;subst eo18;obtain ⟨p2,q2,ad2,e2,hx2_0,hx2_1,hx2_2,hx2_3,hx2_4,hx2_5,hx2_6,hx2_7,hx2_8,hx2_9,hx2_10,hx2_11⟩:=zat_ (at_T79 (Kd.R_reads' HO_3.out).2.2 (ji15));cases e2;go_wp2
        go_meet
        case rel=>exact ⟨_,((rd_T79 x3_1 (ji15)).f0),(by first|rfl|(simp;done)|(simp only [←hji15]<;>(first|rfl|simp))|(simp [*];done)),H',⟨by have:=HK1.out;have:=HJ1.out;have:=HJ7.out;first|omega|exact Nat.le_refl _⟩,am_ (zr_ HO_3),⟨zl0_ HB⟩⟩
       case rest=>
        clear HC12;obtain ⟨kq,x6_11,rfl,HA,HJ11,HO_3,HB⟩:=hcut
        cases kq with
        |zero=>exact absurd HA.out (by simp [law12_Make.j3])
        |succ kj11=>
         have H:=HA.out;clear HA;simp only [law12_Make.j3] at H;obtain ⟨ji19,hji19⟩: ∃j_:Int,(wrap64 (x4_1+1))=j_:=⟨_,rfl⟩;replace H:(if 0≤(ji19) then (if (ji19)<(l0.length:Int) then ((r10_Create.f kj11 x3_1 (strOfNums (([(wrap64 (97+(Int.tmod (wrap64 ((x3_1.length:Int)*5)) 24))) % 256]:List Int))) x6_11 (wrap64 (20+(wrap64 (rd l0 (ji19))))) (wrap64 (20+(wrap64 (rd l0 (ji19))))) (wrap64 (20+(wrap64 (rd l0 (ji19)))))).bind fun bt7=>(if bt7.2=0 then (if 0≤(wrap64 (x4_1+2)) then (if (wrap64 (x4_1+2))<(l0.length:Int) then (if (bt7.1.length:Int)=0 then (none) else (if 0≤(Int.tmod (wrap64 (Int.tdiv (wrap64 (rd l0 (wrap64 (x4_1+2)))) 16)) (bt7.1.length:Int)) then (if (Int.tmod (wrap64 (Int.tdiv (wrap64 (rd l0 (wrap64 (x4_1+2)))) 16)) (bt7.1.length:Int))<(bt7.1.length:Int) then ((r10_Admit.f kj11 bt7.1 ((rd_T79 bt7.1 (Int.tmod (wrap64 (Int.tdiv (wrap64 (rd l0 (wrap64 (x4_1+2)))) 16)) (bt7.1.length:Int))).f0) (Int.tmod (wrap64 (rd l0 (wrap64 (x4_1+2)))) 16) (wrap64 (Int.tdiv (Int.tmod (wrap64 (rd l0 (wrap64 (x4_1+2)))) 16) 2)) (Int.tmod (Int.tmod (wrap64 (rd l0 (wrap64 (x4_1+2)))) 16) 3)).bind fun bt15=>(if bt15.2=0 then (law12_Make.l0 kj11 l0 bt15.1 (wrap64 (x4_1+3))) else (law12_Make.l0 kj11 l0 bt7.1 (wrap64 (x4_1+3))))) else (none)) else (none))) else (none)) else (none)) else (law12_Make.l0 kj11 l0 x3_1 (wrap64 (x4_1+3))))) else (none)) else (none))=some r:=by first|(rw [hji19] at H;exact H)|(simp only [hji19] at H ⊢;exact H)
         have hji19w:(IntKind.i64.wrap (x4_1+1))=ji19:=(i64_w _).trans hji19;replace H:=zif_ H;obtain ⟨c20,H⟩:=H;have c20b0:=decide_eq_true c20;clear c20;replace H:=zif_ H;obtain ⟨c21,H⟩:=H;have c21b0:=decide_eq_true c21;clear c21;obtain ⟨y4,hy4⟩: ∃y_:List Int,y_=(([(wrap64 (97+(Int.tmod (wrap64 ((x3_1.length:Int)*5)) 24))) % 256]:List Int)):=⟨_,rfl⟩;(first|replace H:=zsb_ hy4 H|rw [←hy4] at H);have Ny4:=Aside0.mk hy4;clear hy4;replace H:=zbd_ H;obtain ⟨⟨t7,t10⟩,A22,H⟩:=H;try dsimp only at H
         by_cases c23:t10=0;rotate_left
         ·rw [if_neg c23] at H;have c23b0:=beq_eq_false_iff_ne.mpr c23;have c23b1:=bne_iff_ne.mpr c23;have H':=Aside0.mk H;clear H;obtain ⟨p3,q3,ad3,e3,hx3_0⟩:=zat_ (Kd.at_int HR0.out (ji19));obtain rfl:ad1=ad3:=(by injection e3);replace hx3_0:=zx_ HB hx3_0;obtain ⟨Ao59,co59,eo59⟩:=Kd.R_slice HO_3.out;subst eo59
          go_wp2_with (first|((with_reducible refine gate_dst (N:=60) rfl ?_);(try (refine gate_guard (by rfl) ?_;dsimp only));refine Kd.R_lit (Kd.int .u8) _ 5 ?hg (N:=60) ?hd (xs:=([(wrap64 (97+(Int.tmod (wrap64 ((x3_1.length:Int)*5)) 24))) % 256]:List Int)) (inner:=[.int .u8 ((wrap64 (97+(Int.tmod (wrap64 ((x3_1.length:Int)*5)) 24))) % 256)]) (ok:=fun _=>True) (okp:=fun _=>True) ?hr ?hp (fun _ hk=>hk) trivial (Below.refl _ _) (Nat.le_refl _) (by simp) ?_;(case hd=>rfl);(case hg=>rfl);(case hr=>first|(go_simp;done)|(go_simp;rfl));(case hp=>exact (Reps.one (show Kd.M (Kd.int .u8) _ _ _ ((wrap64 (97+(Int.tmod (wrap64 ((x3_1.length:Int)*5)) 24))) % 256) [.int .u8 ((wrap64 (97+(Int.tmod (wrap64 ((x3_1.length:Int)*5)) 24))) % 256)] from rfl) (Reps.none _ _)));intro v5 w60 ho61 hb hg_ hnew_;clear hg_ hnew_;(first|rw [←Ny4.out] at ho61|(simp only [Int.reduceToNat] at ho61;rw [←Ny4.out] at ho61));replace HO_3:=ob_ HO_3 hb;have HO6:=am_ (Kd.R_lower ho61 (below_size (zl0_ HB)));replace HB:=am_ (below_step (zl0_ HB) hb);clear hb ho61;have hcv62:=own_string (P:=Try.prog) Try.underlying33 Try.underlying5 Try.underlying9 (Kd.own_of_R HO6.out))|((with_reducible refine gate_callee (f:=83) rfl ?_);refine goesL_ (some 67) rfl rfl Try.func83 (by kernel_rfl) rfl #[.slice Ao59 x3_1.length co59, .string (strOfNums y4), .string x6_11, .agg #[.int .i64 (wrap64 (20+(wrap64 (rd l0 (ji19))))), .int .i64 (wrap64 (20+(wrap64 (rd l0 (ji19))))), .int .i64 (wrap64 (20+(wrap64 (rd l0 (ji19)))))]] rfl (by (try simp only [List.map_toArray,List.map_cons,List.map_nil]);first|done|(simp only [hji19];rfl)|rfl|(simp only [List.length_drop,List.length_take];rfl)) ?_;(with_reducible refine (r10_Create.calls kj11 _ _ x3_1 (strOfNums y4) x6_11 (wrap64 (20+(wrap64 (rd l0 (ji19))))) (wrap64 (20+(wrap64 (rd l0 (ji19))))) (wrap64 (20+(wrap64 (rd l0 (ji19))))) t7 t10 _ ?side1 ?side2 A22.out).mono ?_);(case side1=>exact zc_ (Kd.R_reads' HO_3.out).2.2);(case side2=>exact (Kd.R_reads' HO_3.out).2.1);rintro e w63 ⟨v8,rfl,ho0,hb⟩;refine ⟨_,rfl, ?_⟩;replace HO6:=ob_ HO6 hb;have HO9:=am_ (Kd.R_lower (Kd.R_new' ho0 (Kd.R_lt (zr_ HO_3))) (below_size (zl0_ HB)));replace HO_3:=am_ (Kd.R_elder' (zr_ HO_3) (Kd.R_base ho0) hb);replace HB:=am_ (below_step (zl0_ HB) hb);(try clear hb ho0))|((with_reducible refine gate_dst (N:=8) rfl ?_);(try (refine gate_guard (by rfl) ?_;dsimp only));refine bx_ (N:=8) (cs:=#[.slice none 0 0, .int .i64 0]) (t:=73) ?_;intro gb11 hg w64 hbox hb;replace HO_3:=ob_ HO_3 hb;replace HO6:=ob_ HO6 hb;replace HO9:=ob_ HO9 hb;have BK11:=am_ (hbox);have GW11:=am_ ((zg0_ HB hg:w.heap.size≤gb11));have GE11:=am_ ((zg0_ HB hg:w.heap.size≤gb11));replace HB:=am_ (below_step (zl0_ HB) hb);clear hb hbox hg;obtain ⟨Ao65,co65,eo65⟩:=Kd.R_slice HO9.out;subst eo65;obtain ⟨hcz66_0,hcz66_1⟩:=x2_ BK11;have hfz66_0:=blk_frozen BK11.out 0;have hfz66_1:=blk_frozen BK11.out 1))
          go_roundg kj11
          case measure=>have:=HK1.out;have:=HJ1.out;have:=HJ7.out;have:=HJ11.out;omega
          case rel=>exact ⟨(x3_1),(wrap64 (x4_1+3)),rf_,H',⟨by have:=HK1.out;have:=HJ1.out;have:=HJ7.out;have:=HJ11.out;omega⟩,⟨zy_ HO_3 BK11⟩,⟨zl1_ HB GE11⟩⟩
         rw [if_pos c23] at H;have c23b0:=beq_iff_eq.mpr c23;have c23b1:=bne_eq_false_iff_eq.mpr c23;clear c23;obtain ⟨ji24,hji24⟩: ∃j_:Int,(wrap64 (x4_1+2))=j_:=⟨_,rfl⟩;replace H:(if 0≤(ji24) then (if (ji24)<(l0.length:Int) then (if (t7.length:Int)=0 then (none) else (if 0≤(Int.tmod (wrap64 (Int.tdiv (wrap64 (rd l0 (ji24))) 16)) (t7.length:Int)) then (if (Int.tmod (wrap64 (Int.tdiv (wrap64 (rd l0 (ji24))) 16)) (t7.length:Int))<(t7.length:Int) then ((r10_Admit.f kj11 t7 ((rd_T79 t7 (Int.tmod (wrap64 (Int.tdiv (wrap64 (rd l0 (ji24))) 16)) (t7.length:Int))).f0) (Int.tmod (wrap64 (rd l0 (ji24))) 16) (wrap64 (Int.tdiv (Int.tmod (wrap64 (rd l0 (ji24))) 16) 2)) (Int.tmod (Int.tmod (wrap64 (rd l0 (ji24))) 16) 3)).bind fun bt15=>(if bt15.2=0 then (law12_Make.l0 kj11 l0 bt15.1 (wrap64 (x4_1+3))) else (law12_Make.l0 kj11 l0 t7 (wrap64 (x4_1+3))))) else (none)) else (none))) else (none)) else (none))=some r:=by first|(rw [hji24] at H;exact H)|(simp only [hji24] at H ⊢;exact H)
         (try rw [hji24] at A22);have hji24w:(IntKind.i64.wrap (x4_1+2))=ji24:=(i64_w _).trans hji24;replace H:=zif_ H;obtain ⟨c25,H⟩:=H;have c25b0:=decide_eq_true c25;clear c25;replace H:=zif_ H;obtain ⟨c26,H⟩:=H;have c26b0:=decide_eq_true c26;clear c26;by_cases c27:(t7.length:Int)=0
         ·rw [if_pos c27] at H;exact absurd H (by simp)
         rw [if_neg c27] at H;have c27b0:=beq_eq_false_iff_ne.mpr c27;have c27b1:=bne_iff_ne.mpr c27;have c27b2: ¬(t7=[]):=fun h_=>c27 (by rw [h_];rfl)
         obtain ⟨ji28,hji28⟩: ∃j_:Int,(Int.tmod (wrap64 (Int.tdiv (wrap64 (rd l0 (ji24))) 16)) (t7.length:Int))=j_:=⟨_,rfl⟩;replace H:(if 0≤(ji28) then (if (ji28)<(t7.length:Int) then ((r10_Admit.f kj11 t7 ((rd_T79 t7 (ji28)).f0) (Int.tmod (wrap64 (rd l0 (ji24))) 16) (wrap64 (Int.tdiv (Int.tmod (wrap64 (rd l0 (ji24))) 16) 2)) (Int.tmod (Int.tmod (wrap64 (rd l0 (ji24))) 16) 3)).bind fun bt15=>(if bt15.2=0 then (law12_Make.l0 kj11 l0 bt15.1 (wrap64 (x4_1+3))) else (law12_Make.l0 kj11 l0 t7 (wrap64 (x4_1+3))))) else (none)) else (none))=some r:=by first|(rw [hji28] at H;exact H)|(simp only [hji28] at H ⊢;exact H)
         (try rw [hji28] at A22);replace H:=zif_ H;obtain ⟨c29,H⟩:=H;have c29b0:=decide_eq_true c29;clear c29;replace H:=zif_ H;obtain ⟨c30,H⟩:=H;have c30b0:=decide_eq_true c30;clear c30;replace H:=zbd_ H;obtain ⟨⟨t15,t18⟩,A31,H⟩:=H;try dsimp only at H
         by_cases c32:t18=0
         ·rw [if_pos c32] at H;have c32b0:=beq_iff_eq.mpr c32;have c32b1:=bne_eq_false_iff_eq.mpr c32;clear c32;have H':=Aside0.mk H;clear H;obtain ⟨p3,q3,ad3,e3,hx3_0⟩:=zat_ (Kd.at_int HR0.out (ji19));obtain rfl:ad1=ad3:=(by injection e3);replace hx3_0:=zx_ HB hx3_0;obtain ⟨Ao33,co33,eo33⟩:=Kd.R_slice HO_3.out;subst eo33
          go_wp2_with (first|((with_reducible refine gate_dst (N:=60) rfl ?_);(try (refine gate_guard (by rfl) ?_;dsimp only));refine Kd.R_lit (Kd.int .u8) _ 5 ?hg (N:=60) ?hd (xs:=([(wrap64 (97+(Int.tmod (wrap64 ((x3_1.length:Int)*5)) 24))) % 256]:List Int)) (inner:=[.int .u8 ((wrap64 (97+(Int.tmod (wrap64 ((x3_1.length:Int)*5)) 24))) % 256)]) (ok:=fun _=>True) (okp:=fun _=>True) ?hr ?hp (fun _ hk=>hk) trivial (Below.refl _ _) (Nat.le_refl _) (by simp) ?_;(case hd=>rfl);(case hg=>rfl);(case hr=>first|(go_simp;done)|(go_simp;rfl));(case hp=>exact (Reps.one (show Kd.M (Kd.int .u8) _ _ _ ((wrap64 (97+(Int.tmod (wrap64 ((x3_1.length:Int)*5)) 24))) % 256) [.int .u8 ((wrap64 (97+(Int.tmod (wrap64 ((x3_1.length:Int)*5)) 24))) % 256)] from rfl) (Reps.none _ _)));intro v5 w34 ho35 hb hg_ hnew_;clear hg_ hnew_;(first|rw [←Ny4.out] at ho35|(simp only [Int.reduceToNat] at ho35;rw [←Ny4.out] at ho35));replace HO_3:=ob_ HO_3 hb;have HO6:=am_ (Kd.R_lower ho35 (below_size (zl0_ HB)));replace HB:=am_ (below_step (zl0_ HB) hb);clear hb ho35;have hcv36:=own_string (P:=Try.prog) Try.underlying33 Try.underlying5 Try.underlying9 (Kd.own_of_R HO6.out))|((with_reducible refine gate_callee (f:=83) rfl ?_);refine goesL_ (some 67) rfl rfl Try.func83 (by kernel_rfl) rfl #[.slice Ao33 x3_1.length co33, .string (strOfNums y4), .string x6_11, .agg #[.int .i64 (wrap64 (20+(wrap64 (rd l0 (ji19))))), .int .i64 (wrap64 (20+(wrap64 (rd l0 (ji19))))), .int .i64 (wrap64 (20+(wrap64 (rd l0 (ji19)))))]] rfl (by (try simp only [List.map_toArray,List.map_cons,List.map_nil]);first|done|(simp only [hji19];rfl)|rfl|(simp only [List.length_drop,List.length_take];rfl)) ?_;(with_reducible refine (r10_Create.calls kj11 _ _ x3_1 (strOfNums y4) x6_11 (wrap64 (20+(wrap64 (rd l0 (ji19))))) (wrap64 (20+(wrap64 (rd l0 (ji19))))) (wrap64 (20+(wrap64 (rd l0 (ji19))))) t7 t10 _ ?side1 ?side2 A22.out).mono ?_);(case side1=>exact zc_ (Kd.R_reads' HO_3.out).2.2);(case side2=>exact (Kd.R_reads' HO_3.out).2.1);rintro e w37 ⟨v8,rfl,ho0,hb⟩;refine ⟨_,rfl, ?_⟩;replace HO6:=ob_ HO6 hb;have HO9:=am_ (Kd.R_lower (Kd.R_new' ho0 (Kd.R_lt (zr_ HO_3))) (below_size (zl0_ HB)));replace HO_3:=am_ (Kd.R_elder' (zr_ HO_3) (Kd.R_base ho0) hb);replace HB:=am_ (below_step (zl0_ HB) hb);(try clear hb ho0))|((with_reducible refine gate_dst (N:=8) rfl ?_);(try (refine gate_guard (by rfl) ?_;dsimp only));refine bx_ (N:=8) (cs:=#[.slice none 0 0, .int .i64 0]) (t:=73) ?_;intro gb11 hg w38 hbox hb;replace HO_3:=ob_ HO_3 hb;replace HO6:=ob_ HO6 hb;replace HO9:=ob_ HO9 hb;have BK11:=am_ (hbox);have GW11:=am_ ((zg0_ HB hg:w.heap.size≤gb11));have GE11:=am_ ((zg0_ HB hg:w.heap.size≤gb11));replace HB:=am_ (below_step (zl0_ HB) hb);clear hb hbox hg;obtain ⟨Ao39,co39,eo39⟩:=Kd.R_slice HO9.out;subst eo39;obtain ⟨hcz40_0,hcz40_1,hfz40_0,hfz40_1⟩:=y2_ BK11;have p12:0≤((ji24):Int):=of_decide_eq_true zq_;have q12:(ji24)<(l0.length:Int):=of_decide_eq_true zq_;obtain ⟨ad12,e12,hx12_0⟩:=Kd.at_int HR0.out (ji24) p12 q12;obtain rfl:ad1=ad12:=(by injection e12);have hn12_0:ad1.block≠gb11:=Nat.ne_of_lt (Nat.lt_of_lt_of_le (by have:=World.block_lt_of_cell? _ _ hx12_0;first|rwa [add_block] at this|exact this) GW11.out);have hn12_1:ad1.block≠gb11:=Nat.ne_of_lt (Nat.lt_of_lt_of_le (by have:=World.block_lt_of_cell? _ _ hx12_0;first|rwa [add_block] at this|exact this) GW11.out);replace hx12_0:=zx_ HB hx12_0;replace hx12_0:=(cell_far (p:=⟨gb11,0,none⟩) (by first|(rw [add_block];exact hn12_0)|(show (Addr.add _ _).block≠_;rw [add_block];exact hn12_0)|exact hn12_0) (.slice Ao39 t7.length co39)).trans hx12_0;replace hx12_0:=(cell_far (p:=⟨gb11,1,none⟩) (by first|(rw [add_block];exact hn12_1)|(show (Addr.add _ _).block≠_;rw [add_block];exact hn12_1)|exact hn12_1) (.int .i64 t10)).trans hx12_0;clear hn12_0;clear hn12_1;replace p12:=eq_true p12;replace q12:=eq_true q12;have p13:0≤((ji24):Int):=of_decide_eq_true zq_;have q13:(ji24)<(l0.length:Int):=of_decide_eq_true zq_;obtain ⟨ad13,e13,hx13_0⟩:=Kd.at_int HR0.out (ji24) p13 q13;obtain rfl:ad1=ad13:=(by injection e13);have hn13_0:ad1.block≠gb11:=Nat.ne_of_lt (Nat.lt_of_lt_of_le (by have:=World.block_lt_of_cell? _ _ hx13_0;first|rwa [add_block] at this|exact this) GW11.out);have hn13_1:ad1.block≠gb11:=Nat.ne_of_lt (Nat.lt_of_lt_of_le (by have:=World.block_lt_of_cell? _ _ hx13_0;first|rwa [add_block] at this|exact this) GW11.out);replace hx13_0:=zx_ HB hx13_0;replace hx13_0:=(cell_far (p:=⟨gb11,0,none⟩) (by first|(rw [add_block];exact hn13_0)|(show (Addr.add _ _).block≠_;rw [add_block];exact hn13_0)|exact hn13_0) (.slice Ao39 t7.length co39)).trans hx13_0;replace hx13_0:=(cell_far (p:=⟨gb11,1,none⟩) (by first|(rw [add_block];exact hn13_1)|(show (Addr.add _ _).block≠_;rw [add_block];exact hn13_1)|exact hn13_1) (.int .i64 t10)).trans hx13_0;clear hn13_0;clear hn13_1;replace p13:=eq_true p13;replace q13:=eq_true q13;have p14:0≤((ji28):Int):=of_decide_eq_true zq_;have q14:(ji28)<(t7.length:Int):=of_decide_eq_true zq_;obtain ⟨ad14,e14,hx14_0,hx14_1,hx14_2,hx14_3,hx14_4,hx14_5,hx14_6,hx14_7,hx14_8,hx14_9,hx14_10,hx14_11⟩:=at_T79 (Kd.R_reads' HO9.out).2.2 (ji28) p14 q14;cases e14;have hn14_0:ad14.block≠gb11:=Kd.own_blk (Kd.R_ne HO9.out BK11.out (by decide));have hn14_1:ad14.block≠gb11:=Kd.own_blk (Kd.R_ne HO9.out BK11.out (by decide));replace hx14_0:=(cell_far (p:=⟨gb11,0,none⟩) (by first|(rw [add_block];exact hn14_0)|(show (Addr.add _ _).block≠_;rw [add_block];exact hn14_0)|exact hn14_0) (.slice (some ad14) t7.length co39)).trans hx14_0;replace hx14_1:=(cell_far (p:=⟨gb11,0,none⟩) (by first|(rw [add_block];exact hn14_0)|(show (Addr.add _ _).block≠_;rw [add_block];exact hn14_0)|exact hn14_0) (.slice (some ad14) t7.length co39)).trans hx14_1;replace hx14_2:=(cell_far (p:=⟨gb11,0,none⟩) (by first|(rw [add_block];exact hn14_0)|(show (Addr.add _ _).block≠_;rw [add_block];exact hn14_0)|exact hn14_0) (.slice (some ad14) t7.length co39)).trans hx14_2;replace hx14_3:=(cell_far (p:=⟨gb11,0,none⟩) (by first|(rw [add_block];exact hn14_0)|(show (Addr.add _ _).block≠_;rw [add_block];exact hn14_0)|exact hn14_0) (.slice (some ad14) t7.length co39)).trans hx14_3;replace hx14_4:=(cell_far (p:=⟨gb11,0,none⟩) (by first|(rw [add_block];exact hn14_0)|(show (Addr.add _ _).block≠_;rw [add_block];exact hn14_0)|exact hn14_0) (.slice (some ad14) t7.length co39)).trans hx14_4;replace hx14_5:=(cell_far (p:=⟨gb11,0,none⟩) (by first|(rw [add_block];exact hn14_0)|(show (Addr.add _ _).block≠_;rw [add_block];exact hn14_0)|exact hn14_0) (.slice (some ad14) t7.length co39)).trans hx14_5;replace hx14_6:=(cell_far (p:=⟨gb11,0,none⟩) (by first|(rw [add_block];exact hn14_0)|(show (Addr.add _ _).block≠_;rw [add_block];exact hn14_0)|exact hn14_0) (.slice (some ad14) t7.length co39)).trans hx14_6;replace hx14_7:=(cell_far (p:=⟨gb11,0,none⟩) (by first|(rw [add_block];exact hn14_0)|(show (Addr.add _ _).block≠_;rw [add_block];exact hn14_0)|exact hn14_0) (.slice (some ad14) t7.length co39)).trans hx14_7;replace hx14_8:=(cell_far (p:=⟨gb11,0,none⟩) (by first|(rw [add_block];exact hn14_0)|(show (Addr.add _ _).block≠_;rw [add_block];exact hn14_0)|exact hn14_0) (.slice (some ad14) t7.length co39)).trans hx14_8;replace hx14_9:=(cell_far (p:=⟨gb11,0,none⟩) (by first|(rw [add_block];exact hn14_0)|(show (Addr.add _ _).block≠_;rw [add_block];exact hn14_0)|exact hn14_0) (.slice (some ad14) t7.length co39)).trans hx14_9;replace hx14_10:=(cell_far (p:=⟨gb11,0,none⟩) (by first|(rw [add_block];exact hn14_0)|(show (Addr.add _ _).block≠_;rw [add_block];exact hn14_0)|exact hn14_0) (.slice (some ad14) t7.length co39)).trans hx14_10;replace hx14_11:=(cell_far (p:=⟨gb11,0,none⟩) (by first|(rw [add_block];exact hn14_0)|(show (Addr.add _ _).block≠_;rw [add_block];exact hn14_0)|exact hn14_0) (.slice (some ad14) t7.length co39)).trans hx14_11;replace hx14_0:=(cell_far (p:=⟨gb11,1,none⟩) (by first|(rw [add_block];exact hn14_1)|(show (Addr.add _ _).block≠_;rw [add_block];exact hn14_1)|exact hn14_1) (.int .i64 t10)).trans hx14_0;replace hx14_1:=(cell_far (p:=⟨gb11,1,none⟩) (by first|(rw [add_block];exact hn14_1)|(show (Addr.add _ _).block≠_;rw [add_block];exact hn14_1)|exact hn14_1) (.int .i64 t10)).trans hx14_1;replace hx14_2:=(cell_far (p:=⟨gb11,1,none⟩) (by first|(rw [add_block];exact hn14_1)|(show (Addr.add _ _).block≠_;rw [add_block];exact hn14_1)|exact hn14_1) (.int .i64 t10)).trans hx14_2;replace hx14_3:=(cell_far (p:=⟨gb11,1,none⟩) (by first|(rw [add_block];exact hn14_1)|(show (Addr.add _ _).block≠_;rw [add_block];exact hn14_1)|exact hn14_1) (.int .i64 t10)).trans hx14_3;replace hx14_4:=(cell_far (p:=⟨gb11,1,none⟩) (by first|(rw [add_block];exact hn14_1)|(show (Addr.add _ _).block≠_;rw [add_block];exact hn14_1)|exact hn14_1) (.int .i64 t10)).trans hx14_4;replace hx14_5:=(cell_far (p:=⟨gb11,1,none⟩) (by first|(rw [add_block];exact hn14_1)|(show (Addr.add _ _).block≠_;rw [add_block];exact hn14_1)|exact hn14_1) (.int .i64 t10)).trans hx14_5;replace hx14_6:=(cell_far (p:=⟨gb11,1,none⟩) (by first|(rw [add_block];exact hn14_1)|(show (Addr.add _ _).block≠_;rw [add_block];exact hn14_1)|exact hn14_1) (.int .i64 t10)).trans hx14_6;replace hx14_7:=(cell_far (p:=⟨gb11,1,none⟩) (by first|(rw [add_block];exact hn14_1)|(show (Addr.add _ _).block≠_;rw [add_block];exact hn14_1)|exact hn14_1) (.int .i64 t10)).trans hx14_7;replace hx14_8:=(cell_far (p:=⟨gb11,1,none⟩) (by first|(rw [add_block];exact hn14_1)|(show (Addr.add _ _).block≠_;rw [add_block];exact hn14_1)|exact hn14_1) (.int .i64 t10)).trans hx14_8;replace hx14_9:=(cell_far (p:=⟨gb11,1,none⟩) (by first|(rw [add_block];exact hn14_1)|(show (Addr.add _ _).block≠_;rw [add_block];exact hn14_1)|exact hn14_1) (.int .i64 t10)).trans hx14_9;replace hx14_10:=(cell_far (p:=⟨gb11,1,none⟩) (by first|(rw [add_block];exact hn14_1)|(show (Addr.add _ _).block≠_;rw [add_block];exact hn14_1)|exact hn14_1) (.int .i64 t10)).trans hx14_10;replace hx14_11:=(cell_far (p:=⟨gb11,1,none⟩) (by first|(rw [add_block];exact hn14_1)|(show (Addr.add _ _).block≠_;rw [add_block];exact hn14_1)|exact hn14_1) (.int .i64 t10)).trans hx14_11;clear hn14_0;clear hn14_1;replace p14:=eq_true p14;replace q14:=eq_true q14)|((with_reducible refine gate_callee (f:=84) rfl ?_);refine goesL_ (some 102) rfl rfl Try.func84 (by kernel_rfl) rfl #[.slice (some ad14) t7.length co39, .string ((rd_T79 t7 (ji28)).f0), .agg #[.int .i64 (Int.tmod (wrap64 (rd l0 (ji24))) 16), .int .i64 (wrap64 (Int.tdiv (Int.tmod (wrap64 (rd l0 (ji24))) 16) 2)), .int .i64 (Int.tmod (Int.tmod (wrap64 (rd l0 (ji24))) 16) 3)]] rfl (by (try simp only [List.map_toArray,List.map_cons,List.map_nil]);first|done|(simp only [hji24,hji28];rfl)|rfl|(simp only [List.length_drop,List.length_take];rfl)) ?_;(with_reducible refine (r10_Admit.calls kj11 _ _ t7 ((rd_T79 t7 (ji28)).f0) (Int.tmod (wrap64 (rd l0 (ji24))) 16) (wrap64 (Int.tdiv (Int.tmod (wrap64 (rd l0 (ji24))) 16) 2)) (Int.tmod (Int.tmod (wrap64 (rd l0 (ji24))) 16) 3) t15 t18 _ ?side1 ?side2 A31.out).mono ?_);(case side1=>refine (Kd.R_reads' (e:=79) (base:=w.heap.size) (ok:=fun k_=>(True∧some k_≠(.slice Ao33 x3_1.length co33:Value).ownBlock)) (n:=t7.length) (c:=co39) ?_).2.2;exact (by refine zt_ ?_;exact (Kd.R_mono (Kd.R_far (p:=⟨gb11,1,none⟩) (Kd.R_far (p:=⟨gb11,0,none⟩) (Kd.R_types HO9.out BK11.out (by decide)) (fun _ hk=>hk.2) (.slice (some ad14) t7.length co39)) (fun _ hk=>hk.2) (.int .i64 t10)) (fun _ h_=>h_.1))));(case side2=>exact (Kd.R_reads' HO9.out).2.1);rintro e w41 ⟨v16,rfl,ho0,hb⟩;refine ⟨_,rfl, ?_⟩;replace HO6:=am_ (Kd.R_below (by refine zt_ ?_;exact (Kd.R_mono (Kd.R_far (p:=⟨gb11,1,none⟩) (Kd.R_far (p:=⟨gb11,0,none⟩) (Kd.R_types HO6.out BK11.out (by decide)) (fun _ hk=>hk.2) (.slice (some ad14) t7.length co39)) (fun _ hk=>hk.2) (.int .i64 t10)) (fun _ h_=>h_.1))) hb);have HO17:=am_ (Kd.R_lower (Kd.R_new' (Kd.R_new' ho0 (Kd.R_lt (by refine zt_ ?_;exact (Kd.R_mono (Kd.R_far (p:=⟨gb11,1,none⟩) (Kd.R_far (p:=⟨gb11,0,none⟩) (Kd.R_types HO_3.out BK11.out (by decide)) (fun _ hk=>hk.2) (.slice (some ad14) t7.length co39)) (fun _ hk=>hk.2) (.int .i64 t10)) (fun _ h_=>h_.1))))) (Kd.R_lt (by refine zt_ ?_;exact (Kd.R_mono (Kd.R_far (p:=⟨gb11,1,none⟩) (Kd.R_far (p:=⟨gb11,0,none⟩) (Kd.R_types HO9.out BK11.out (by decide)) (fun _ hk=>hk.2) (.slice (some ad14) t7.length co39)) (fun _ hk=>hk.2) (.int .i64 t10)) (fun _ h_=>h_.1))))) (below_size (zl1_ HB GE11)));replace HO_3:=am_ (Kd.R_elder' (by refine zt_ ?_;exact (Kd.R_mono (Kd.R_far (p:=⟨gb11,1,none⟩) (Kd.R_far (p:=⟨gb11,0,none⟩) (Kd.R_types HO_3.out BK11.out (by decide)) (fun _ hk=>hk.2) (.slice (some ad14) t7.length co39)) (fun _ hk=>hk.2) (.int .i64 t10)) (fun _ h_=>h_.1))) (Kd.R_base ho0) hb);replace HO9:=am_ (Kd.R_elder' (by refine zt_ ?_;exact (Kd.R_mono (Kd.R_far (p:=⟨gb11,1,none⟩) (Kd.R_far (p:=⟨gb11,0,none⟩) (Kd.R_types HO9.out BK11.out (by decide)) (fun _ hk=>hk.2) (.slice (some ad14) t7.length co39)) (fun _ hk=>hk.2) (.int .i64 t10)) (fun _ h_=>h_.1))) (Kd.R_base ho0) hb);replace BK11:=am_ (blk_below (g:=gb11) (o:= .cells #[.slice (some ad14) t7.length co39, .int .i64 t10] 73 (0,0)) (zw_ BK11) hb);replace HB:=am_ (below_step (zl1_ HB GE11) hb);(try clear hb ho0))|((with_reducible refine gate_dst (N:=11) rfl ?_);(try (refine gate_guard (by rfl) ?_;dsimp only));refine bx_ (N:=11) (cs:=#[.slice none 0 0, .int .i64 0]) (t:=73) ?_;intro gb19 hg w42 hbox hb;replace HO_3:=ob_ HO_3 hb;replace HO6:=ob_ HO6 hb;replace HO9:=ob_ HO9 hb;replace HO17:=ob_ HO17 hb;have BK19:=am_ (hbox);have GE19:=am_ ((zg1_ HB GE11 hg:w.heap.size≤gb19));replace HB:=am_ (below_step (zl1_ HB GE11) hb);have NB11_19:=am_ ((zn_ BK11 hg:gb11≠gb19));have NB19_11:=am_ ((zm_ BK11 hg:gb19≠gb11));replace BK11:=bb_ BK11 hb;clear hb hbox hg;obtain ⟨Ao43,co43,eo43⟩:=Kd.R_slice HO17.out;subst eo43;have hnb44:=NB19_11.out;have hnc44:=NB11_19.out;obtain ⟨hcz45_0,hcz45_1⟩:=x2_ BK19;have hfz45_0:=blk_frozen BK19.out 0;have hfz45_1:=blk_frozen BK19.out 1))
          go_roundg kj11
          case measure=>have:=HK1.out;have:=HJ1.out;have:=HJ7.out;have:=HJ11.out;omega
          case rel=>exact ⟨(t15),(wrap64 (x4_1+3)),rf_,H',⟨by have:=HK1.out;have:=HJ1.out;have:=HJ7.out;have:=HJ11.out;omega⟩,⟨zy_ HO17 BK19⟩,⟨zl2_ HB GE11 GE19⟩⟩
         rw [if_neg c32] at H;have c32b0:=beq_eq_false_iff_ne.mpr c32;have c32b1:=bne_iff_ne.mpr c32;have H':=Aside0.mk H;clear H;obtain ⟨p3,q3,ad3,e3,hx3_0⟩:=zat_ (Kd.at_int HR0.out (ji19));obtain rfl:ad1=ad3:=(by injection e3);replace hx3_0:=zx_ HB hx3_0;obtain ⟨Ao46,co46,eo46⟩:=Kd.R_slice HO_3.out;subst eo46
         go_wp2_with (first|((with_reducible refine gate_dst (N:=60) rfl ?_);(try (refine gate_guard (by rfl) ?_;dsimp only));refine Kd.R_lit (Kd.int .u8) _ 5 ?hg (N:=60) ?hd (xs:=([(wrap64 (97+(Int.tmod (wrap64 ((x3_1.length:Int)*5)) 24))) % 256]:List Int)) (inner:=[.int .u8 ((wrap64 (97+(Int.tmod (wrap64 ((x3_1.length:Int)*5)) 24))) % 256)]) (ok:=fun _=>True) (okp:=fun _=>True) ?hr ?hp (fun _ hk=>hk) trivial (Below.refl _ _) (Nat.le_refl _) (by simp) ?_;(case hd=>rfl);(case hg=>rfl);(case hr=>first|(go_simp;done)|(go_simp;rfl));(case hp=>exact (Reps.one (show Kd.M (Kd.int .u8) _ _ _ ((wrap64 (97+(Int.tmod (wrap64 ((x3_1.length:Int)*5)) 24))) % 256) [.int .u8 ((wrap64 (97+(Int.tmod (wrap64 ((x3_1.length:Int)*5)) 24))) % 256)] from rfl) (Reps.none _ _)));intro v5 w47 ho48 hb hg_ hnew_;clear hg_ hnew_;(first|rw [←Ny4.out] at ho48|(simp only [Int.reduceToNat] at ho48;rw [←Ny4.out] at ho48));replace HO_3:=ob_ HO_3 hb;have HO6:=am_ (Kd.R_lower ho48 (below_size (zl0_ HB)));replace HB:=am_ (below_step (zl0_ HB) hb);clear hb ho48;have hcv49:=own_string (P:=Try.prog) Try.underlying33 Try.underlying5 Try.underlying9 (Kd.own_of_R HO6.out))|((with_reducible refine gate_callee (f:=83) rfl ?_);refine goesL_ (some 67) rfl rfl Try.func83 (by kernel_rfl) rfl #[.slice Ao46 x3_1.length co46, .string (strOfNums y4), .string x6_11, .agg #[.int .i64 (wrap64 (20+(wrap64 (rd l0 (ji19))))), .int .i64 (wrap64 (20+(wrap64 (rd l0 (ji19))))), .int .i64 (wrap64 (20+(wrap64 (rd l0 (ji19)))))]] rfl (by (try simp only [List.map_toArray,List.map_cons,List.map_nil]);first|done|(simp only [hji19];rfl)|rfl|(simp only [List.length_drop,List.length_take];rfl)) ?_;(with_reducible refine (r10_Create.calls kj11 _ _ x3_1 (strOfNums y4) x6_11 (wrap64 (20+(wrap64 (rd l0 (ji19))))) (wrap64 (20+(wrap64 (rd l0 (ji19))))) (wrap64 (20+(wrap64 (rd l0 (ji19))))) t7 t10 _ ?side1 ?side2 A22.out).mono ?_);(case side1=>exact zc_ (Kd.R_reads' HO_3.out).2.2);(case side2=>exact (Kd.R_reads' HO_3.out).2.1);rintro e w50 ⟨v8,rfl,ho0,hb⟩;refine ⟨_,rfl, ?_⟩;replace HO6:=ob_ HO6 hb;have HO9:=am_ (Kd.R_lower (Kd.R_new' ho0 (Kd.R_lt (zr_ HO_3))) (below_size (zl0_ HB)));replace HO_3:=am_ (Kd.R_elder' (zr_ HO_3) (Kd.R_base ho0) hb);replace HB:=am_ (below_step (zl0_ HB) hb);(try clear hb ho0))|((with_reducible refine gate_dst (N:=8) rfl ?_);(try (refine gate_guard (by rfl) ?_;dsimp only));refine bx_ (N:=8) (cs:=#[.slice none 0 0, .int .i64 0]) (t:=73) ?_;intro gb11 hg w51 hbox hb;replace HO_3:=ob_ HO_3 hb;replace HO6:=ob_ HO6 hb;replace HO9:=ob_ HO9 hb;have BK11:=am_ (hbox);have GW11:=am_ ((zg0_ HB hg:w.heap.size≤gb11));have GE11:=am_ ((zg0_ HB hg:w.heap.size≤gb11));replace HB:=am_ (below_step (zl0_ HB) hb);clear hb hbox hg;obtain ⟨Ao52,co52,eo52⟩:=Kd.R_slice HO9.out;subst eo52;obtain ⟨hcz53_0,hcz53_1,hfz53_0,hfz53_1⟩:=y2_ BK11;have p12:0≤((ji24):Int):=of_decide_eq_true zq_;have q12:(ji24)<(l0.length:Int):=of_decide_eq_true zq_;obtain ⟨ad12,e12,hx12_0⟩:=Kd.at_int HR0.out (ji24) p12 q12;obtain rfl:ad1=ad12:=(by injection e12);have hn12_0:ad1.block≠gb11:=Nat.ne_of_lt (Nat.lt_of_lt_of_le (by have:=World.block_lt_of_cell? _ _ hx12_0;first|rwa [add_block] at this|exact this) GW11.out);have hn12_1:ad1.block≠gb11:=Nat.ne_of_lt (Nat.lt_of_lt_of_le (by have:=World.block_lt_of_cell? _ _ hx12_0;first|rwa [add_block] at this|exact this) GW11.out);replace hx12_0:=zx_ HB hx12_0;replace hx12_0:=(cell_far (p:=⟨gb11,0,none⟩) (by first|(rw [add_block];exact hn12_0)|(show (Addr.add _ _).block≠_;rw [add_block];exact hn12_0)|exact hn12_0) (.slice Ao52 t7.length co52)).trans hx12_0;replace hx12_0:=(cell_far (p:=⟨gb11,1,none⟩) (by first|(rw [add_block];exact hn12_1)|(show (Addr.add _ _).block≠_;rw [add_block];exact hn12_1)|exact hn12_1) (.int .i64 t10)).trans hx12_0;clear hn12_0;clear hn12_1;replace p12:=eq_true p12;replace q12:=eq_true q12;have p13:0≤((ji24):Int):=of_decide_eq_true zq_;have q13:(ji24)<(l0.length:Int):=of_decide_eq_true zq_;obtain ⟨ad13,e13,hx13_0⟩:=Kd.at_int HR0.out (ji24) p13 q13;obtain rfl:ad1=ad13:=(by injection e13);have hn13_0:ad1.block≠gb11:=Nat.ne_of_lt (Nat.lt_of_lt_of_le (by have:=World.block_lt_of_cell? _ _ hx13_0;first|rwa [add_block] at this|exact this) GW11.out);have hn13_1:ad1.block≠gb11:=Nat.ne_of_lt (Nat.lt_of_lt_of_le (by have:=World.block_lt_of_cell? _ _ hx13_0;first|rwa [add_block] at this|exact this) GW11.out);replace hx13_0:=zx_ HB hx13_0;replace hx13_0:=(cell_far (p:=⟨gb11,0,none⟩) (by first|(rw [add_block];exact hn13_0)|(show (Addr.add _ _).block≠_;rw [add_block];exact hn13_0)|exact hn13_0) (.slice Ao52 t7.length co52)).trans hx13_0;replace hx13_0:=(cell_far (p:=⟨gb11,1,none⟩) (by first|(rw [add_block];exact hn13_1)|(show (Addr.add _ _).block≠_;rw [add_block];exact hn13_1)|exact hn13_1) (.int .i64 t10)).trans hx13_0;clear hn13_0;clear hn13_1;replace p13:=eq_true p13;replace q13:=eq_true q13;have p14:0≤((ji28):Int):=of_decide_eq_true zq_;have q14:(ji28)<(t7.length:Int):=of_decide_eq_true zq_;obtain ⟨ad14,e14,hx14_0,hx14_1,hx14_2,hx14_3,hx14_4,hx14_5,hx14_6,hx14_7,hx14_8,hx14_9,hx14_10,hx14_11⟩:=at_T79 (Kd.R_reads' HO9.out).2.2 (ji28) p14 q14;cases e14;have hn14_0:ad14.block≠gb11:=Kd.own_blk (Kd.R_ne HO9.out BK11.out (by decide));have hn14_1:ad14.block≠gb11:=Kd.own_blk (Kd.R_ne HO9.out BK11.out (by decide));replace hx14_0:=(cell_far (p:=⟨gb11,0,none⟩) (by first|(rw [add_block];exact hn14_0)|(show (Addr.add _ _).block≠_;rw [add_block];exact hn14_0)|exact hn14_0) (.slice (some ad14) t7.length co52)).trans hx14_0;replace hx14_1:=(cell_far (p:=⟨gb11,0,none⟩) (by first|(rw [add_block];exact hn14_0)|(show (Addr.add _ _).block≠_;rw [add_block];exact hn14_0)|exact hn14_0) (.slice (some ad14) t7.length co52)).trans hx14_1;replace hx14_2:=(cell_far (p:=⟨gb11,0,none⟩) (by first|(rw [add_block];exact hn14_0)|(show (Addr.add _ _).block≠_;rw [add_block];exact hn14_0)|exact hn14_0) (.slice (some ad14) t7.length co52)).trans hx14_2;replace hx14_3:=(cell_far (p:=⟨gb11,0,none⟩) (by first|(rw [add_block];exact hn14_0)|(show (Addr.add _ _).block≠_;rw [add_block];exact hn14_0)|exact hn14_0) (.slice (some ad14) t7.length co52)).trans hx14_3;replace hx14_4:=(cell_far (p:=⟨gb11,0,none⟩) (by first|(rw [add_block];exact hn14_0)|(show (Addr.add _ _).block≠_;rw [add_block];exact hn14_0)|exact hn14_0) (.slice (some ad14) t7.length co52)).trans hx14_4;replace hx14_5:=(cell_far (p:=⟨gb11,0,none⟩) (by first|(rw [add_block];exact hn14_0)|(show (Addr.add _ _).block≠_;rw [add_block];exact hn14_0)|exact hn14_0) (.slice (some ad14) t7.length co52)).trans hx14_5;replace hx14_6:=(cell_far (p:=⟨gb11,0,none⟩) (by first|(rw [add_block];exact hn14_0)|(show (Addr.add _ _).block≠_;rw [add_block];exact hn14_0)|exact hn14_0) (.slice (some ad14) t7.length co52)).trans hx14_6;replace hx14_7:=(cell_far (p:=⟨gb11,0,none⟩) (by first|(rw [add_block];exact hn14_0)|(show (Addr.add _ _).block≠_;rw [add_block];exact hn14_0)|exact hn14_0) (.slice (some ad14) t7.length co52)).trans hx14_7;replace hx14_8:=(cell_far (p:=⟨gb11,0,none⟩) (by first|(rw [add_block];exact hn14_0)|(show (Addr.add _ _).block≠_;rw [add_block];exact hn14_0)|exact hn14_0) (.slice (some ad14) t7.length co52)).trans hx14_8;replace hx14_9:=(cell_far (p:=⟨gb11,0,none⟩) (by first|(rw [add_block];exact hn14_0)|(show (Addr.add _ _).block≠_;rw [add_block];exact hn14_0)|exact hn14_0) (.slice (some ad14) t7.length co52)).trans hx14_9;replace hx14_10:=(cell_far (p:=⟨gb11,0,none⟩) (by first|(rw [add_block];exact hn14_0)|(show (Addr.add _ _).block≠_;rw [add_block];exact hn14_0)|exact hn14_0) (.slice (some ad14) t7.length co52)).trans hx14_10;replace hx14_11:=(cell_far (p:=⟨gb11,0,none⟩) (by first|(rw [add_block];exact hn14_0)|(show (Addr.add _ _).block≠_;rw [add_block];exact hn14_0)|exact hn14_0) (.slice (some ad14) t7.length co52)).trans hx14_11;replace hx14_0:=(cell_far (p:=⟨gb11,1,none⟩) (by first|(rw [add_block];exact hn14_1)|(show (Addr.add _ _).block≠_;rw [add_block];exact hn14_1)|exact hn14_1) (.int .i64 t10)).trans hx14_0;replace hx14_1:=(cell_far (p:=⟨gb11,1,none⟩) (by first|(rw [add_block];exact hn14_1)|(show (Addr.add _ _).block≠_;rw [add_block];exact hn14_1)|exact hn14_1) (.int .i64 t10)).trans hx14_1;replace hx14_2:=(cell_far (p:=⟨gb11,1,none⟩) (by first|(rw [add_block];exact hn14_1)|(show (Addr.add _ _).block≠_;rw [add_block];exact hn14_1)|exact hn14_1) (.int .i64 t10)).trans hx14_2;replace hx14_3:=(cell_far (p:=⟨gb11,1,none⟩) (by first|(rw [add_block];exact hn14_1)|(show (Addr.add _ _).block≠_;rw [add_block];exact hn14_1)|exact hn14_1) (.int .i64 t10)).trans hx14_3;replace hx14_4:=(cell_far (p:=⟨gb11,1,none⟩) (by first|(rw [add_block];exact hn14_1)|(show (Addr.add _ _).block≠_;rw [add_block];exact hn14_1)|exact hn14_1) (.int .i64 t10)).trans hx14_4;replace hx14_5:=(cell_far (p:=⟨gb11,1,none⟩) (by first|(rw [add_block];exact hn14_1)|(show (Addr.add _ _).block≠_;rw [add_block];exact hn14_1)|exact hn14_1) (.int .i64 t10)).trans hx14_5;replace hx14_6:=(cell_far (p:=⟨gb11,1,none⟩) (by first|(rw [add_block];exact hn14_1)|(show (Addr.add _ _).block≠_;rw [add_block];exact hn14_1)|exact hn14_1) (.int .i64 t10)).trans hx14_6;replace hx14_7:=(cell_far (p:=⟨gb11,1,none⟩) (by first|(rw [add_block];exact hn14_1)|(show (Addr.add _ _).block≠_;rw [add_block];exact hn14_1)|exact hn14_1) (.int .i64 t10)).trans hx14_7;replace hx14_8:=(cell_far (p:=⟨gb11,1,none⟩) (by first|(rw [add_block];exact hn14_1)|(show (Addr.add _ _).block≠_;rw [add_block];exact hn14_1)|exact hn14_1) (.int .i64 t10)).trans hx14_8;replace hx14_9:=(cell_far (p:=⟨gb11,1,none⟩) (by first|(rw [add_block];exact hn14_1)|(show (Addr.add _ _).block≠_;rw [add_block];exact hn14_1)|exact hn14_1) (.int .i64 t10)).trans hx14_9;replace hx14_10:=(cell_far (p:=⟨gb11,1,none⟩) (by first|(rw [add_block];exact hn14_1)|(show (Addr.add _ _).block≠_;rw [add_block];exact hn14_1)|exact hn14_1) (.int .i64 t10)).trans hx14_10;replace hx14_11:=(cell_far (p:=⟨gb11,1,none⟩) (by first|(rw [add_block];exact hn14_1)|(show (Addr.add _ _).block≠_;rw [add_block];exact hn14_1)|exact hn14_1) (.int .i64 t10)).trans hx14_11;clear hn14_0;clear hn14_1;replace p14:=eq_true p14;replace q14:=eq_true q14)|((with_reducible refine gate_callee (f:=84) rfl ?_);refine goesL_ (some 102) rfl rfl Try.func84 (by kernel_rfl) rfl #[.slice (some ad14) t7.length co52, .string ((rd_T79 t7 (ji28)).f0), .agg #[.int .i64 (Int.tmod (wrap64 (rd l0 (ji24))) 16), .int .i64 (wrap64 (Int.tdiv (Int.tmod (wrap64 (rd l0 (ji24))) 16) 2)), .int .i64 (Int.tmod (Int.tmod (wrap64 (rd l0 (ji24))) 16) 3)]] rfl (by (try simp only [List.map_toArray,List.map_cons,List.map_nil]);first|done|(simp only [hji24,hji28];rfl)|rfl|(simp only [List.length_drop,List.length_take];rfl)) ?_;(with_reducible refine (r10_Admit.calls kj11 _ _ t7 ((rd_T79 t7 (ji28)).f0) (Int.tmod (wrap64 (rd l0 (ji24))) 16) (wrap64 (Int.tdiv (Int.tmod (wrap64 (rd l0 (ji24))) 16) 2)) (Int.tmod (Int.tmod (wrap64 (rd l0 (ji24))) 16) 3) t15 t18 _ ?side1 ?side2 A31.out).mono ?_);(case side1=>refine (Kd.R_reads' (e:=79) (base:=w.heap.size) (ok:=fun k_=>(True∧some k_≠(.slice Ao46 x3_1.length co46:Value).ownBlock)) (n:=t7.length) (c:=co52) ?_).2.2;exact (by refine zt_ ?_;exact (Kd.R_mono (Kd.R_far (p:=⟨gb11,1,none⟩) (Kd.R_far (p:=⟨gb11,0,none⟩) (Kd.R_types HO9.out BK11.out (by decide)) (fun _ hk=>hk.2) (.slice (some ad14) t7.length co52)) (fun _ hk=>hk.2) (.int .i64 t10)) (fun _ h_=>h_.1))));(case side2=>exact (Kd.R_reads' HO9.out).2.1);rintro e w54 ⟨v16,rfl,ho0,hb⟩;refine ⟨_,rfl, ?_⟩;replace HO6:=am_ (Kd.R_below (by refine zt_ ?_;exact (Kd.R_mono (Kd.R_far (p:=⟨gb11,1,none⟩) (Kd.R_far (p:=⟨gb11,0,none⟩) (Kd.R_types HO6.out BK11.out (by decide)) (fun _ hk=>hk.2) (.slice (some ad14) t7.length co52)) (fun _ hk=>hk.2) (.int .i64 t10)) (fun _ h_=>h_.1))) hb);have HO17:=am_ (Kd.R_lower (Kd.R_new' (Kd.R_new' ho0 (Kd.R_lt (by refine zt_ ?_;exact (Kd.R_mono (Kd.R_far (p:=⟨gb11,1,none⟩) (Kd.R_far (p:=⟨gb11,0,none⟩) (Kd.R_types HO_3.out BK11.out (by decide)) (fun _ hk=>hk.2) (.slice (some ad14) t7.length co52)) (fun _ hk=>hk.2) (.int .i64 t10)) (fun _ h_=>h_.1))))) (Kd.R_lt (by refine zt_ ?_;exact (Kd.R_mono (Kd.R_far (p:=⟨gb11,1,none⟩) (Kd.R_far (p:=⟨gb11,0,none⟩) (Kd.R_types HO9.out BK11.out (by decide)) (fun _ hk=>hk.2) (.slice (some ad14) t7.length co52)) (fun _ hk=>hk.2) (.int .i64 t10)) (fun _ h_=>h_.1))))) (below_size (zl1_ HB GE11)));replace HO_3:=am_ (Kd.R_elder' (by refine zt_ ?_;exact (Kd.R_mono (Kd.R_far (p:=⟨gb11,1,none⟩) (Kd.R_far (p:=⟨gb11,0,none⟩) (Kd.R_types HO_3.out BK11.out (by decide)) (fun _ hk=>hk.2) (.slice (some ad14) t7.length co52)) (fun _ hk=>hk.2) (.int .i64 t10)) (fun _ h_=>h_.1))) (Kd.R_base ho0) hb);replace HO9:=am_ (Kd.R_elder' (by refine zt_ ?_;exact (Kd.R_mono (Kd.R_far (p:=⟨gb11,1,none⟩) (Kd.R_far (p:=⟨gb11,0,none⟩) (Kd.R_types HO9.out BK11.out (by decide)) (fun _ hk=>hk.2) (.slice (some ad14) t7.length co52)) (fun _ hk=>hk.2) (.int .i64 t10)) (fun _ h_=>h_.1))) (Kd.R_base ho0) hb);replace BK11:=am_ (blk_below (g:=gb11) (o:= .cells #[.slice (some ad14) t7.length co52, .int .i64 t10] 73 (0,0)) (zw_ BK11) hb);replace HB:=am_ (below_step (zl1_ HB GE11) hb);(try clear hb ho0))|((with_reducible refine gate_dst (N:=11) rfl ?_);(try (refine gate_guard (by rfl) ?_;dsimp only));refine bx_ (N:=11) (cs:=#[.slice none 0 0, .int .i64 0]) (t:=73) ?_;intro gb19 hg w55 hbox hb;replace HO_3:=ob_ HO_3 hb;replace HO6:=ob_ HO6 hb;replace HO9:=ob_ HO9 hb;replace HO17:=ob_ HO17 hb;have BK19:=am_ (hbox);have GE19:=am_ ((zg1_ HB GE11 hg:w.heap.size≤gb19));replace HB:=am_ (below_step (zl1_ HB GE11) hb);have NB11_19:=am_ ((zn_ BK11 hg:gb11≠gb19));have NB19_11:=am_ ((zm_ BK11 hg:gb19≠gb11));replace BK11:=bb_ BK11 hb;clear hb hbox hg;obtain ⟨Ao56,co56,eo56⟩:=Kd.R_slice HO17.out;subst eo56;have hnb57:=NB19_11.out;have hnc57:=NB11_19.out;obtain ⟨hcz58_0,hcz58_1⟩:=x2_ BK19;have hfz58_0:=blk_frozen BK19.out 0;have hfz58_1:=blk_frozen BK19.out 1))
         go_roundg kj11
         case measure=>have:=HK1.out;have:=HJ1.out;have:=HJ7.out;have:=HJ11.out;omega
         case rel=>exact ⟨(t7),(wrap64 (x4_1+3)),rf_,H',⟨by have:=HK1.out;have:=HJ1.out;have:=HJ7.out;have:=HJ11.out;omega⟩,⟨zy_ HO9 BK19⟩,⟨zl2_ HB GE11 GE19⟩⟩
end Go.Proofs.Ytahidkjncljkaaa.Print

namespace Go.Proofs.Ytahidkjncljkaaa.Print
open Go.RowKit Go.Proofs.YtahidkjncljkaaaW.PrintWords Go.Proofs.YtahidkjncljkaaaW.PrintLast
theorem r10_copied_eq (l:List Item) (h:l.length<1000000):r10_copied.f l=some l:=by
 unfold r10_copied.f;simp only [Option.bind_some,List.length_nil,List.nil_append];rw [if_pos (by omega)]
theorem r10_Find_l0 (l:List Item) (n:ByteArray) (hl:l.length<1000000): ∀(d i:Nat),l.length - i=d→i≤l.length→
    Ev (fun k=>r10_Find.l0 k l n i) (fidx (fun x:Item=>x.f0.toList==n.toList) (l.drop i) i)
  | 0, i, hd, hi => by
    obtain rfl:i=l.length:=by omega
    refine Ev.step (f:=fun _=>some (-1)) (fun k=> ?_) (by rw [List.drop_length];exact Ev.now _);simp only [r10_Find.l0];rw [if_neg (by omega)]
  | d + 1, i, hd, hi => by
    have hlt:i<l.length:=by omega
    rw [fidx_drop _ zItem l i hlt];have hrd:rd_T79 l (i:Int)=l.getD i zItem:=by rw [rd_item,Int.toNat_natCast]
    by_cases e:(l.getD i zItem).f0.toList=n.toList
    · rw [if_pos (beq_iff_eq.2 e)]
      refine Ev.step (f:=fun _=>some (i:Int)) (fun k=> ?_) (Ev.now _)
      simp only [r10_Find.l0]
      rw [if_pos (by omega),if_pos (by omega),hrd,if_pos e]
    rw [if_neg (fun q=>e (beq_iff_eq.1 q))];refine Ev.step (f:=fun k=>r10_Find.l0 k l n ((i+1:Nat):Int)) (fun k=> ?_) (r10_Find_l0 l n hl d (i+1) (by omega) (by omega));simp only [r10_Find.l0];rw [if_pos (by omega),if_pos (by omega),hrd,if_neg e,w64 (by omega) (by omega)]
    rfl
theorem r10_Find_ev (l:List Item) (n:ByteArray) (hl:l.length<1000000):Ev (fun k=>r10_Find.f k l n) (fnd l n):=r10_Find_l0 l n hl _ 0 rfl (by omega)
theorem r10_Up_l0 (l:List Item) (hl:l.length<1000000): ∀(m:Nat) (n:ByteArray) (out:List ByteArray),out.length+m=l.length+1→
    Ev (fun k=>r10_Up.l0 k l out (fnd l n)) (out++upGo l m n)
  | 0, n, out, hm => by
    rw [upGo.eq_1,List.append_nil];refine Ev.step (f:=fun _=>some out) (fun k=> ?_) (Ev.now _);simp only [r10_Up.l0];by_cases h:0≤fnd l n
    · rw [if_pos h,if_neg (by omega)]
    rw [if_neg h]
  | m + 1, n, out, hm => by
    cases h:look l n with
    | none =>
      rw [upGo_none h,List.append_nil];refine Ev.step (f:=fun _=>some out) (fun k=> ?_) (Ev.now _);simp only [r10_Up.l0];rw [fnd_none h,if_neg (by omega)]
    | some x =>
      rw [upGo_some h];have h0:=fnd_ge.2 ⟨x,h⟩;have h1:=fnd_lt l n;obtain ⟨hx,hn⟩:=look_mem h;refine Ev.step (f:=fun k=>(r10_Find.f k l x.f1).bind fun t=>r10_Up.l0 k l (out++ [n]) t) (fun k=> ?_) (Ev.bind (r10_Find_ev l x.f1 hl) ?_)
      · simp only [r10_Up.l0]
        rw [if_pos h0,if_pos (by omega),if_pos h0,if_pos h1,if_pos (by omega),fnd_rd h,hn]
      have:=r10_Up_l0 l hl m x.f1 (out++ [n]) (by simp;omega)
      simpa using this
theorem r10_Up_ev (l:List Item) (n:ByteArray) (hl:l.length<1000000):Ev (fun k=>r10_Up.f k l n) (up l n):=
 Ev.bind (r10_Find_ev l n hl) (by have:=r10_Up_l0 l hl (l.length+1) n [] (by simp);rw [List.nil_append] at this;exact this)
theorem set_at {l:List Item} (hn:(l.map (·.f0)).Nodup) {n:ByteArray} {x:Item} (h:look l n=some x) (y:Item):
    l.set (fnd l n).toNat y=l.map (fun z=>if z.f0=n then y else z):=by
  obtain ⟨j,h1,h2,h3,h4,h5⟩:=fnd_some h
  rw [h2,Int.toNat_natCast]
  have hx:l[j]=x:=by rw [←h3];simp [h1]
  apply List.ext_getElem (by simp)
  intro m hm hm'
  simp only [List.length_set] at hm
  rw [List.getElem_set,List.getElem_map]
  by_cases e:j=m
  · subst e
    rw [if_pos rfl,if_pos (by rw [hx];exact h4)]
  rw [if_neg e,if_neg]
  intro q
  have h6:(l.map (·.f0))[j]'(by simpa using h1)=(l.map (·.f0))[m]'(by simpa using hm):=by simp [hx,h4,q]
  exact e ((List.getElem_inj hn).1 h6)
theorem fnd_map {f:Item→Item} (hf: ∀x,(f x).f0=x.f0) (l:List Item) (n:ByteArray):fnd (l.map f) n=fnd l n:=by
 have: ∀(l:List Item) (i:Int),fidx (fun x:Item=>x.f0.toList==n.toList) (l.map f) i=fidx (fun x:Item=>x.f0.toList==n.toList) l i:=by
  intro l
  induction l with
  |nil=>intro i;rfl
  |cons x l ih=>intro i;simp only [List.map_cons,fidx,hf,ih]
 exact this l 0
def admS (us:List ByteArray) (v:Vec) (x:Item):Item:=⟨x.f0,x.f1,x.f2,x.f3,if x.f0∈us then vadd x.f4 v else x.f4,x.f5⟩
def admR (l:List Item) (n:ByteArray) (v:Vec):List Item×Int:=
 if¬MayP v then ([],1) else if (look l n).isNone=true then ([],2) else if∀x∈l,x.f0∈up l n→LeP (vadd x.f4 v) x.f2 then (admL l n v,0) else ([],12)
theorem vadd_wrap {a b:Vec} (ha:MayP a) (hb:MayP b):(wrap64 (a.f0+b.f0),wrap64 (a.f1+b.f1),wrap64 (a.f2+b.f2))=((vadd a b).f0,(vadd a b).f1,(vadd a b).f2):=by
 have a0:=ha .cpu;have a1:=ha .mem;have a2:=ha .pods;have b0:=hb .cpu;have b1:=hb .mem;have b2:=hb .pods;simp only [Comp.of] at a0 a1 a2 b0 b1 b2;rw [w64 (by omega) (by omega),w64 (by omega) (by omega),w64 (by omega) (by omega)]
 rfl
theorem r10_Add_eq {a b:Vec} (ha:MayP a) (hb:MayP b):r10_Add.f a.f0 a.f1 a.f2 b.f0 b.f1 b.f2=some ((vadd a b).f0,(vadd a b).f1,(vadd a b).f2):=by
 unfold r10_Add.f;rw [vadd_wrap ha hb]
theorem look_admS (us:List ByteArray) (v:Vec) (l:List Item) (n:ByteArray):look (l.map (admS us v)) n=(look l n).map (admS us v):=look_map (f:=admS us v) (fun _=>rfl) l n
theorem drop_cons {us:List ByteArray} {i:Nat} (h:i<us.length):us.drop i=rdOf ByteArray.empty us i::us.drop (i+1):=by
 rw [List.drop_eq_getElem_cons h];simp [rdOf,h]
theorem take_snoc_ {us:List ByteArray} {i:Nat} (h:i<us.length):us.take (i+1)=us.take i++ [rdOf ByteArray.empty us i]:=by
 rw [List.take_succ_eq_append_getElem h];simp [rdOf,h]
theorem fnd_admS (us:List ByteArray) (v:Vec) (l:List Item) (n:ByteArray):fnd (l.map (admS us v)) n=fnd l n:=fnd_map (f:=admS us v) (fun _=>rfl) l n
theorem nodup_admS {us:List ByteArray} {v:Vec} {l:List Item} (h:(l.map (·.f0)).Nodup):((l.map (admS us v)).map (·.f0)).Nodup:=by
 rw [List.map_map];exact h
theorem r10_Admit_l0 {l:List Item} (hl:RightP l) (n:ByteArray) {v:Vec} (hv:MayP v) (hin: ∃x,look l n=some x): ∀(d i:Nat),(up l n).length - i=d→i≤(up l n).length→
    Ev (fun k=>r10_Admit.l0 k n (up l n) (l.map (admS ((up l n).take i) v)) i v.f0 v.f1 v.f2) (if∀x∈l,x.f0∈(up l n).drop i→LeP (vadd x.f4 v) x.f2 then (admL l n v,0) else ([],12))
  | 0, i, hd, hi => by
    obtain rfl:i=(up l n).length:=by omega
    rw [List.drop_length,List.take_length,if_pos (by simp)];obtain ⟨x,hx⟩:=hin;obtain ⟨hm,hxn⟩:=look_mem hx;have hlk:look (l.map (admS (up l n) v)) n=some (admS (up l n) v x):=by rw [look_admS,hx];rfl
    have h0:0≤fnd l n:=fnd_ge.2 ⟨x,hx⟩;have h1:fnd l n<l.length:=fnd_lt l n;obtain ⟨K,hK⟩:=r10_Find_ev (l.map (admS (up l n) v)) n (by rw [List.length_map];have:=hl.len;omega);dsimp only at hK;refine ⟨K+1,fun k hk=> ?_⟩;obtain ⟨k,rfl⟩: ∃m,k=m+1:=⟨k - 1,by omega⟩;have hrd:=fnd_rd hlk;rw [fnd_admS] at hrd;simp only [r10_Admit.l0];rw [if_neg (by omega),hK k (by omega),fnd_admS];simp only [Option.bind_some];rw [if_pos h0,if_pos (by rw [List.length_map];omega),hrd,r10_Add_eq (a:=(admS (up l n) v x).f3) (hl.ok x hm).own hv];simp only [Option.bind_some];have hset:=set_at (nodup_admS (us:=up l n) (v:=v) hl.nodup) hlk;rw [fnd_admS] at hset;rw [hset,List.map_map]
    congr 2
    unfold admL;refine List.map_congr_left fun z hz=> ?_
    simp only [Function.comp,admF];by_cases e:z.f0=n
    · obtain rfl : z = x := hl.eq_of hz hm (e.trans hxn.symm)
      rw [if_pos (by exact e),if_pos e]
      rfl
    rw [if_neg (by exact e),if_neg e]
    rfl
  | d + 1, i, hd, hi => by
    have hlt:i<(up l n).length:=by omega
    have hc:=hl.chainAll n;have hnd:=hc.nodup;rw [drop_cons hlt];have hu:rdOf ByteArray.empty (up l n) i∈up l n:=by simp [rdOf,hlt]
    obtain ⟨x,hx⟩:=hc.mem_look hu;obtain ⟨hm,hxn⟩:=look_mem hx
    have hnot:x.f0 ∉ (up l n).take i:=by
      rw [hxn];rw [←List.take_append_drop i (up l n),drop_cons hlt,List.nodup_append] at hnd;exact fun q=>hnd.2.2 _ q _ (by simp) rfl
    generalize hU:rdOf ByteArray.empty (up l n) i=u at*;have hlk:look (l.map (admS ((up l n).take i) v)) u=some (admS ((up l n).take i) v x):=by rw [look_admS,hx];rfl
    have hsame:admS ((up l n).take i) v x=x:=by unfold admS;rw [if_neg hnot]
    rw [hsame] at hlk;have h0:0≤fnd l u:=fnd_ge.2 ⟨x,hx⟩;have h1:fnd l u<l.length:=fnd_lt l u;have hrd:=fnd_rd hlk;have hset:=set_at (nodup_admS (us:=(up l n).take i) (v:=v) hl.nodup) hlk;rw [fnd_admS] at hrd;rw [fnd_admS] at hset;obtain ⟨K,hK⟩:=r10_Find_ev (l.map (admS ((up l n).take i) v)) u (by rw [List.length_map];have:=hl.len;omega);obtain ⟨K',hK'⟩:=r10_Admit_l0 hl n hv hin d (i+1) (by omega) (by omega);dsimp only at hK hK';refine ⟨K+K'+1,fun k hk=> ?_⟩;obtain ⟨k,rfl⟩: ∃m,k=m+1:=⟨k - 1,by omega⟩;have hup:(up l n).length≤l.length:=hc.len;have hlen:=hl.len;simp only [r10_Admit.l0];rw [if_pos (by omega),if_pos (by omega),hU,hK k (by omega),fnd_admS];simp only [Option.bind_some];rw [if_pos h0,if_pos (by rw [List.length_map];omega),hrd,r10_Add_eq (a:=x.f4) (hl.ok x hm).sub hv];simp only [Option.bind_some];rw [hset,List.map_map]
    have hnew:(l.map ((fun z:Item=>if z.f0=u then (⟨x.f0,x.f1,⟨x.f2.f0,x.f2.f1,x.f2.f2⟩,⟨x.f3.f0,x.f3.f1,x.f3.f2⟩,⟨(vadd x.f4 v).f0,(vadd x.f4 v).f1,(vadd x.f4 v).f2⟩,x.f5⟩:Item) else z) ∘ admS ((up l n).take i) v))=l.map (admS ((up l n).take (i+1)) v):=by
      refine List.map_congr_left fun z hz=> ?_
      simp only [Function.comp];rw [take_snoc_ hlt,hU];by_cases e:z.f0=u
      · obtain rfl : z = x := hl.eq_of hz hm (e.trans hxn.symm)
        rw [if_pos (by exact e)]
        unfold admS
        rw [if_pos (by simp [e])]
      rw [if_neg (by exact e)];unfold admS
      simp [e]
    rw [hnew];have hlk2:look (l.map (admS ((up l n).take (i+1)) v)) u=some (admS ((up l n).take (i+1)) v x):=by rw [look_admS,hx];rfl
    have hrd2:=fnd_rd hlk2;rw [fnd_admS] at hrd2;have hx2:admS ((up l n).take (i+1)) v x=⟨x.f0,x.f1,x.f2,x.f3,vadd x.f4 v,x.f5⟩:=by unfold admS;rw [if_pos (by rw [take_snoc_ hlt,hU,hxn];simp)]
    rw [hrd2,hx2,r10_Le_eq];simp only [Option.bind_some];by_cases hfit:LeP (vadd x.f4 v) x.f2;rotate_left
    · rw [if_neg (by simpa using hfit), if_neg (fun q => hfit (q x hm (by rw [hxn]; simp)))]
      rfl
    rw [if_pos (by exact decide_eq_true hfit),w64 (by omega) (by omega)];have h2:=hK' k (by omega);rw [show ((i:Int)+1)=((i+1:Nat):Int) from by omega,h2]
    congr 1
    refine ite_iff ⟨fun q z hz hzm=> ?_,fun q z hz hzm=>q z hz (by simp [hzm])⟩
    rcases List.mem_cons.1 hzm with e|hzm
    · obtain rfl : z = x := hl.eq_of hz hm (e.trans hxn.symm)
      exact hfit
    exact q z hz hzm
theorem r10_Admit_ev {l:List Item} (hl:RightP l) (n:ByteArray) (v:Vec):Ev (fun k=>r10_Admit.f k l n v.f0 v.f1 v.f2) (admR l n v):=by
  have hlen:=hl.len;refine Ev.bind (r10_Up_ev l n (by omega)) ?_;have hmv:r10_MayVec.f v.f0 v.f1 v.f2=some (decide (MayP v)):=r10_MayVec_eq _ _ _;unfold admR;by_cases hv:MayP v;rotate_left
  · rw [if_pos hv]
    refine Ev.congr (fun k=> ?_) (Ev.now _)
    rw [hmv]
    simp only [Option.bind_some]
    rw [if_neg (by simpa using hv)]
    rfl
  rw [if_neg (by simpa using hv)]
  cases hx:look l n with
  | none =>
    rw [if_pos (show (none:Option Item).isNone=true from rfl)];refine Ev.congr (fun k=> ?_) (Ev.now _);rw [hmv];simp only [Option.bind_some];rw [if_pos (by exact decide_eq_true hv),show up l n=[] from upGo_none hx _]
    rfl
  | some x =>
    rw [if_neg (by simp)];have h:=r10_Admit_l0 hl n hv ⟨x,hx⟩ _ 0 rfl (by omega);rw [List.take_zero,List.drop_zero,show l.map (admS [] v)=l from by rw [show admS [] v=id from by funext z;simp [admS]];simp] at h;refine Ev.congr (fun k=> ?_) h;rw [hmv];simp only [Option.bind_some];have:(up l n).length≠0:=by have:=up_self hx;intro q;rw [List.length_eq_zero_iff.1 q] at this;cases this
    rw [if_pos (by exact decide_eq_true hv),if_neg (by omega),r10_copied_eq l (by omega)]
    rfl
def zVec:Vec:=⟨0,0,0⟩
def newItem (n p:ByteArray) (v:Vec):Item:=⟨n,p,v,zVec,zVec,1⟩
def creR (l:List Item) (n p:ByteArray) (v:Vec):List Item×Int:=
 if¬((n≠⟨#[]⟩∧n.size≤24)∧MayP v) then ([],1) else if (look l n).isSome=true then ([],3) else if p≠⟨#[]⟩∧(look l p).isNone=true then ([],2) else if 120≤l.length then ([],4) else (insL l (newItem n p v),0)
theorem insL_cons (x:Item) (l:List Item) (it:Item):insL (x::l) it=if lt x.f0 it.f0=true then x::insL l it else it::x::l:=by
 unfold insL;rw [List.takeWhile_cons,List.dropWhile_cons]
 cases lt x.f0 it.f0<;>simp
theorem r10_Create_l0 (n p:ByteArray) (v:Vec) (b:List Item): ∀(a l:List Item),l=a++b→l.length<1000000→Ev (fun k=>r10_Create.l0 k l n p a.length v.f0 v.f1 v.f2) (a++insL b (newItem n p v),0):=by
  induction b with
  | nil =>
    rintro a l rfl hl;simp only [List.append_nil] at hl ⊢;refine Ev.step (f:=fun _=>some (a++ [newItem n p v],0)) (fun k=> ?_) (Ev.now _);simp only [r10_Create.l0];rw [if_neg (by omega),if_pos (by omega),if_pos (by omega),Int.toNat_natCast,List.take_length,r10_copied_eq a (by omega)];simp only [Option.bind_some,List.drop_length,List.length_append,List.length_cons,List.length_nil];rw [if_pos (by omega),if_pos (by omega),List.append_nil]
    rfl
  | cons x b ih =>
    rintro a l rfl hl;have hlen:(a++x::b).length=a.length+b.length+1:=by simp;omega
    have hrd:rd_T79 (a++x::b) (a.length:Int)=x:=by rw [rd_item,Int.toNat_natCast];simp
    rw [insL_cons];by_cases e:lt x.f0 n=true
    · rw [if_pos (by exact e)]
      have h:=ih (a++ [x]) (a++x::b) (by simp) hl
      refine Ev.step (f:=fun k=>r10_Create.l0 k (a++x::b) n p (a++ [x]).length v.f0 v.f1 v.f2) (fun k=> ?_) (by simpa using h)
      simp only [r10_Create.l0]
      rw [if_pos (by omega),if_pos (by omega),hrd,if_pos (by exact e),w64 (by omega) (by omega)]
      simp
    rw [if_neg (by exact e)];refine Ev.step (f:=fun _=>some (a++newItem n p v::x::b,0)) (fun k=> ?_) (Ev.now _);simp only [r10_Create.l0];rw [if_pos (by omega),if_pos (by omega),hrd,if_neg (by exact e),if_pos (by omega),Int.toNat_natCast,List.take_left,r10_copied_eq a (by omega)];simp only [Option.bind_some,List.drop_left,List.length_append,List.length_cons,List.length_nil];rw [if_pos (by omega),if_pos (by omega)]
    simp
    rfl
theorem r10_Create_ev {l:List Item} (hl:l.length<1000000) (n p:ByteArray) (v:Vec):Ev (fun k=>r10_Create.f k l n p v.f0 v.f1 v.f2) (creR l n p v):=by
  have hmv:r10_MayVec.f v.f0 v.f1 v.f2=some (decide (MayP v)):=r10_MayVec_eq _ _ _;have hno: ∀e:Int,((r10_no.f e).bind fun bt=>some (bt.1,bt.2))=some (([]:List Item),e):=fun _=>rfl
  have hj1: ∀b,Ev (fun k=>r10_Create.j1 k l n p b v.f0 v.f1 v.f2) (if b=true then ([],2) else if 120≤l.length then ([],4) else (insL l (newItem n p v),0)):=by
    intro b
    cases b with
    | true =>
      refine Ev.step (f:=fun _=>some ([],2)) (fun k=> ?_) (Ev.now _);simp only [r10_Create.j1,if_true];exact hno 2
    | false =>
      simp only [Bool.false_eq_true,if_false];by_cases h:120≤l.length
      · rw [if_pos h]
        refine Ev.step (f:=fun _=>some ([],4)) (fun k=> ?_) (Ev.now _)
        simp only [r10_Create.j1,Bool.false_eq_true,if_false]
        rw [if_pos (by omega)];exact hno 4
      rw [if_neg h];refine Ev.step (f:=fun k=>r10_Create.l0 k l n p 0 v.f0 v.f1 v.f2) (fun k=> ?_) (by have:=r10_Create_l0 n p v l [] l rfl hl;simpa using this);simp only [r10_Create.j1,Bool.false_eq_true,if_false];rw [if_neg (by omega)]
  have hj0: ∀b,Ev (fun k=>r10_Create.j0 k l n p b v.f0 v.f1 v.f2) (if b=true then ([],1) else if (look l n).isSome=true then ([],3) else if p≠⟨#[]⟩∧(look l p).isNone=true then ([],2) else if 120≤l.length then ([],4) else (insL l (newItem n p v),0)):=by
    intro b
    cases b with
    | true =>
      refine Ev.step (f:=fun _=>some ([],1)) (fun k=> ?_) (Ev.now _);simp only [r10_Create.j0,if_true];exact hno 1
    | false =>
      simp only [Bool.false_eq_true,if_false];refine Ev.step (f:=fun k=>(r10_Find.f k l n).bind fun t=>if t≥0 then some ([],3) else if p.toList=([]:List UInt8) then r10_Create.j1 k l n p false v.f0 v.f1 v.f2 else (r10_Find.f k l p).bind fun t=>r10_Create.j1 k l n p (decide (t<0)) v.f0 v.f1 v.f2) (fun k=> ?_) (Ev.bind (r10_Find_ev l n hl) ?_)
      · simp only [r10_Create.j0,Bool.false_eq_true,if_false];rfl
      cases hn:look l n with
      | some x =>
        refine Ev.congr (fun k=> ?_) (Ev.now _);rw [if_pos (fnd_ge.2 ⟨x,hn⟩)];rfl
      | none =>
        simp only [Option.isSome_none,Bool.false_eq_true,if_false];by_cases hp:p=⟨#[]⟩
        · have h := hj1 false
          simp only [Bool.false_eq_true,if_false] at h
          rw [if_neg (fun q=>q.1 hp)]
          refine Ev.congr (fun k=> ?_) h
          rw [fnd_none hn,if_neg (by omega),if_pos (nm_empty.2 hp)]
        have h:=hj1 (decide (fnd l p<0));refine Ev.congr (g:=fun k=>_) (f:=fun k=>(r10_Find.f k l p).bind fun t=>r10_Create.j1 k l n p (decide (t<0)) v.f0 v.f1 v.f2) (fun k=> ?_) (Ev.bind (r10_Find_ev l p hl) ?_)
        · rw [fnd_none hn,if_neg (by omega),if_neg (fun q=>hp (nm_empty.1 q))]
        have e:(p≠⟨#[]⟩∧(look l p).isNone=true)↔(decide (fnd l p<0)=true):=by
          rw [decide_eq_true_iff,fnd_neg];simp [hp]
        rw [ite_iff e];exact h
  unfold creR;by_cases hn:n≠⟨#[]⟩∧n.size≤24
  · have h := hj0 (!decide (MayP v))
    rw [ite_iff (q:=(!decide (MayP v))=true) (by simp [hn])]
    refine Ev.congr (fun k=> ?_) h
    unfold r10_Create.f
    rw [r10_MayName_eq,hmv]
    simp only [Option.bind_some]
    rw [if_pos (by exact decide_eq_true hn)]
  have h:=hj0 true;rw [if_pos (fun q=>hn q.1)];rw [if_pos rfl] at h;refine Ev.congr (fun k=> ?_) h;unfold r10_Create.f;rw [r10_MayName_eq];simp only [Option.bind_some];rw [if_neg (by simpa using hn)]
theorem creR_right {l:List Item} (hl:RightP l) {n p:ByteArray} {v:Vec} (h:(creR l n p v).2=0):
    (creR l n p v).1=insL l (newItem n p v)∧RightP (insL l (newItem n p v))∧look l n=none∧l.length<120∧n≠⟨#[]⟩∧n.size≤24∧MayP v∧(p=⟨#[]⟩∨ ∃y,look l p=some y):=by
  unfold creR at h ⊢
  split at h
  · simp at h
  rename_i h1
  split at h
  · simp at h
  rename_i h2
  split at h
  · simp at h
  rename_i h3
  split at h
  · simp at h
  rename_i h4
  rw [if_neg h1,if_neg h2,if_neg h3,if_neg h4];obtain ⟨⟨h5,h6⟩,h7⟩:=Classical.not_not.1 h1
  have hn:look l n=none:=by cases q:look l n with
    |none=>rfl
    |some x=>rw [q] at h2;simp at h2
  have hp:p=⟨#[]⟩∨ ∃y,look l p=some y:=by
    by_cases e:p=⟨#[]⟩
    · exact .inl e
    right
    cases q:look l p with
    |none=>rw [q] at h3;exact absurd ⟨e,rfl⟩ h3
    |some y=>exact ⟨y,rfl⟩
  have hz: ∀c:Comp,c.of zVec=0:=fun c=>by cases c<;>rfl
  refine ⟨rfl,ins_right hl ⟨h5,h6,h7,fun c=> ?_,fun c=> ?_,fun c=> ?_, ?_⟩ (fun c=>⟨hz c,hz c⟩) hn hp (by omega),hn,by omega,h5,h6,h7,hp⟩
  · show 0≤c.of zVec∧c.of zVec≤_;rw [hz];omega
  · show 0≤c.of zVec∧c.of zVec≤_;rw [hz];omega
  · show c.of zVec≤c.of v;rw [hz];exact (h7 c).1
  show (1:Int)≤1∧(1:Int)≤_;omega
theorem mem_insL {l:List Item} {it x:Item}:x∈insL l it↔x=it∨x∈l:=by
 obtain ⟨a,b,e,e',_,_⟩:=insL_eq l it;rw [e',e];simp;constructor<;>(intro h;rcases h with h|h|h<;>simp [h])
theorem len_insL (l:List Item) (it:Item):(insL l it).length=l.length+1:=by
 obtain ⟨a,b,e,e',_,_⟩:=insL_eq l it;rw [e',e];simp;omega
theorem admR_right {l:List Item} (hl:RightP l) {n:ByteArray} {v:Vec} (h:(admR l n v).2=0):(admR l n v).1=admL l n v∧RightP (admL l n v)∧MayP v∧(∃x,look l n=some x)∧ ∀x∈l,x.f0∈up l n→LeP (vadd x.f4 v) x.f2:=by
  unfold admR at h ⊢
  split at h
  · simp at h
  rename_i h1
  split at h
  · simp at h
  rename_i h2
  split at h
  rotate_left
  · simp at h
  rename_i h3
  rw [if_neg h1,if_neg h2,if_pos h3];have hv:MayP v:=Classical.not_not.1 h1
  have hin: ∃x,look l n=some x:=by
    cases q:look l n with
    |none=>rw [q] at h2;simp at h2
    |some x=>exact ⟨x,rfl⟩
  have hsub: ∀x∈l,x.f0∈up l n→MayP (vadd x.f4 v):=fun x hx hm c=>by
    have a:=(hl.ok x hx).sub c;have b:=hv c;have d:=h3 x hx hm c;have e:=(hl.ok x hx).lim c;rw [of_vadd] at d ⊢;omega
  refine ⟨rfl,adm_right hl v hin (fun x hx e c=> ?_) hsub h3,hv,hin,h3⟩;have hm:x.f0∈up l n:=by obtain ⟨y,hy⟩:=hin;rw [e];exact up_self hy
  have a:=(hl.ok x hx).own c;have b:=hv c;have d:=hsub x hx hm c;have f:=hl.sum c x hx
  have g:0≤csum c l x.f0:=sumBy_nonneg fun y hy=>by
    split
    · exact ((hl.ok y hy).sub c).1
    omega
  rw [of_vadd] at d ⊢;omega
end Go.Proofs.Ytahidkjncljkaaa.Print

namespace Go.Proofs.Ytahidkjncljkaaa.Print
open Go.RowKit Go.Proofs.YtahidkjncljkaaaW.PrintWords Go.Proofs.YtahidkjncljkaaaW.PrintLast Go.Proofs.YtahidkjncljkaaaW.PrintMore
attribute [local go_sem] max2_int min2_int max_two min_two max_three min_three max_four min_four

end Go.Proofs.Ytahidkjncljkaaa.Print

namespace Go.Proofs.Ytahidkjncljkaaa.Print
open Go.RowKit Go.Proofs.YtahidkjncljkaaaW.PrintWords Go.Proofs.YtahidkjncljkaaaW.PrintLast
abbrev PMark:=S84
abbrev zPMark:PMark:=z84
theorem rd_pmark (l:List PMark) (i:Int):rd_T84 l i=l.getD i.toNat zPMark:=rfl
theorem rd_pmarkN (l:List PMark) {i:Nat} (h:i<l.length):rd_T84 l (i:Int)=l[i]:=by
 rw [rd_pmark,Int.toNat_natCast,List.getD_eq_getElem?_getD,List.getElem?_eq_getElem h,Option.getD_some]
theorem rd_itemN (l:List Item) {i:Nat} (h:i<l.length):rd_T79 l (i:Int)=l[i]:=by
 rw [rd_item,Int.toNat_natCast,List.getD_eq_getElem?_getD,List.getElem?_eq_getElem h,Option.getD_some]
def mlook (ms:List PMark) (n:ByteArray):Option PMark:=ms.find? (fun x=>x.f0=n)
def upV (l:List Item) (wide:Bool) (w:Want):Vec:=if wide=true then ⟨1099511627776,1099511627776,1099511627776⟩ else match look l w.f0 with
 |some x=>⟨mx x.f2.f0 w.f2.f0,mx x.f2.f1 w.f2.f1,mx x.f2.f2 w.f2.f2⟩
 |none=>w.f2
def depU (l:List Item) (n:ByteArray):Int:=((up l n).length:Int)
def befG (l:List Item) (n a:ByteArray):Bool:=decide (depU l a>depU l n)||(decide (depU l a=depU l n) && lt a n)
def insG (l:List Item) (n:ByteArray) (out:List ByteArray):List ByteArray:=out.takeWhile (befG l n)++n::out.dropWhile (befG l n)
def isWant (ws:List Want) (n:ByteArray):Bool:=ws.any (fun w=>decide (w.f0=n))
def goesGo (ws:List Want) (l:List Item):List ByteArray→List PMark→List ByteArray
 |out,[]=>out
 |out,m::ms=>if isWant ws m.f0=true then goesGo ws l out ms else goesGo ws l (insG l m.f0 out) ms
def goesR (ws:List Want) (ms:List PMark) (l:List Item):List ByteArray:=goesGo ws l [] ms
end Go.Proofs.Ytahidkjncljkaaa.Print

namespace Go.Proofs.Ytahidkjncljkaaa.Print
open Go.RowKit Go.Proofs.YtahidkjncljkaaaW.PrintWords Go.Proofs.YtahidkjncljkaaaW.PrintLast Go.Proofs.YtahidkjncljkaaaW.PrintMore
attribute [local go_sem] max2_int min2_int max_two min_two max_three min_three max_four min_four

def tree_Up.l0:Nat→List (S79)→List ByteArray→Int→Option (List ByteArray)
 |0,_,_,_=>none
 |k+1,x0,x5,x6=>if x6≥0 then (if (x5.length:Int)≤(x0.length:Int) then (if 0≤x6 then (if x6<(x0.length:Int) then (if x5.length<8796093022208 then ((tree_Find.f x0 ((rd_T79 x0 x6).f1)).bind fun t7=>(tree_Up.l0 k x0 (x5++ [(rd_T79 x0 x6).f0]) t7)) else (none)) else (none)) else (none)) else (some x5)) else (some x5)
def tree_Up.f (k:Nat) (l0:List (S79)) (a1:ByteArray):Option (List ByteArray):=(tree_Find.f l0 a1).bind fun t1=>(tree_Up.l0 k l0 ([]:List ByteArray) t1)
theorem tree_Up.mono_l: ∀k,(∀y0 y1 y2,LeO (tree_Up.l0 k y0 y1 y2) (tree_Up.l0 (k+1) y0 y1 y2))
 |0=>fun _ _ _ r h=>by simp [tree_Up.l0] at h
 |k+1=>by
  have ih0:=tree_Up.mono_l k;intro y0 y1 y2;unfold tree_Up.l0
  repeat' with_reducible first|apply ih0|apply LeO.refl|apply LeO.none|apply LeO.ite|refine LeO.bind ?_ fun _=> ?_
theorem tree_Up.mono: ∀a0 a1 k,LeO (tree_Up.f k a0 a1) (tree_Up.f (k+1) a0 a1):=by
 intro a0 a1 k;have ih0:=tree_Up.mono_l k;unfold tree_Up.f
 repeat' with_reducible first|apply ih0|apply LeO.refl|apply LeO.none|apply LeO.ite|refine LeO.bind ?_ fun _=> ?_
set_option maxHeartbeats 8000000 in
set_option maxRecDepth 100000 in
theorem tree_Up.calls (k:Nat) (A0:Option Addr) (c0:Nat) (l0:List (S79)) (a1:ByteArray) (r:List ByteArray) (w:World) (hr0:Kd.C k79 w A0 l0.length l0) (hc0:l0.length≤c0) (h:tree_Up.f k l0 a1=some r):
  Calls Try.prog 153 #[.slice A0 l0.length c0, .string a1] w fun e w'=> ∃v0_:Value,e= .returned (v0_)∧Kd.R Kd.string 9 w' w.heap.size (fun _=>True) v0_ r∧Below w.heap.size w w':=by
 have HR0:=Aside0.mk hr0;have HC0:=Aside0.mk hc0;clear hr0 hc0;have HB:=am_ (Below.refl w.heap.size w);have H:((tree_Find.f l0 a1).bind fun t1=>(tree_Up.l0 k l0 ([]:List ByteArray) t1))=some r:=h;clear h;replace H:=zbd_ H;obtain ⟨t1,A3,H⟩:=H;try dsimp only at H
 have H':=Aside0.mk H;clear H;go_enter Try.func153,Try.ntmps153;go_wp2_with (first|((with_reducible refine gate_callee (f:=91) rfl ?_);refine gl_ (some 9) Try.func91 #[.slice A0 l0.length c0, .string a1] ?_;(with_reducible refine (tree_Find.calls _ _ l0 a1 t1 _ ?side1 ?side2 A3.out).mono ?_);(case side1=>repeat (first|exact HR0.out|(with_reducible refine Kd.C_alloc ?_ _)|(with_reducible refine Kd.C_drewN ?_ _)|(with_reducible refine Kd.C_drew ?_)));(case side2=>exact HC0.out);rintro e w4 ⟨rfl,hb⟩;refine ⟨_,rfl, ?_⟩;replace HB:=am_ (below_step (zl0_ HB) hb);(try clear hb)))
 go_loopg [5,6] k (fun kq v5 v6 w'=> ∃(x5_1:List ByteArray) (x6_1:Int),v6= .int .i64 x6_1∧Aside0 (tree_Up.l0 kq l0 x5_1 x6_1=some r)∧Aside0 (kq≤k)∧Aside0 (Kd.R Kd.string 9 w' w.heap.size (fun _=>True) v5 x5_1)∧Aside0 (Below w.heap.size w w'))
 case atStart=>exact ⟨(([]:List ByteArray)),(t1),rf_,H',⟨Nat.le_refl _⟩,⟨by first|exact Kd.R_nil _ _ _ _ _|exact Kd.N_nil _ _ _ _ _|exact Kd.V_nil _ _ _ _ _|exact Kd.Q_nil _ _ _ _ _|exact Kd.S_nil _ _ _ _ _⟩,⟨zl0_ HB⟩⟩
 case round=>
  clear H';obtain ⟨x5_1,x6_1,rfl,HA,HK1,HO_5,HB⟩:=hrel
  cases gk with
  |zero=>exact absurd HA.out (by simp [tree_Up.l0])
  |succ k1=>
   have H:=HA.out;clear HA;simp only [tree_Up.l0] at H;by_cases c5:x6_1≥0;rotate_left
   ·rw [if_neg c5] at H;have c5b0:decide (0≤x6_1)=false:=decide_eq_false c5;clear c5;obtain rfl:=Option.some.inj H;go_wp2
    go_ret
    exact ⟨_,by first|rfl|(simp [errW_none,errW_some]<;>rfl)|(simp [*,errW_none,errW_some]<;>rfl),zr_ HO_5,zl0_ HB⟩

   rw [if_pos c5] at H;have c5b0:decide (0≤x6_1)=true:=decide_eq_true c5;clear c5;by_cases c6:(x5_1.length:Int)≤(l0.length:Int);rotate_left
   ·rw [if_neg c6] at H;have c6b0:=decide_eq_false c6;have c6b1:decide (x5_1.length≤l0.length)=false:=decide_eq_false (fun h=>c6 (Int.ofNat_le.mpr h));clear c6;obtain rfl:=Option.some.inj H;obtain ⟨Ao14,co14,eo14⟩:=Kd.R_slice HO_5.out;subst eo14;go_wp2
    go_ret
    exact ⟨_,by first|rfl|(simp [errW_none,errW_some]<;>rfl)|(simp [*,errW_none,errW_some]<;>rfl),zr_ HO_5,zl0_ HB⟩
   rw [if_pos c6] at H;have c6b0:=decide_eq_true c6;have c6b1:decide (x5_1.length≤l0.length)=true:=decide_eq_true (Int.ofNat_le.mp c6);clear c6;replace H:=zif_ H;obtain ⟨c7,H⟩:=H;have c7b0:=decide_eq_true c7;clear c7;replace H:=zif_ H;obtain ⟨c8,H⟩:=H;have c8b0:=decide_eq_true c8;clear c8;replace H:=zif_ H;obtain ⟨c9,H⟩:=H;have LMc9:=Aside0.mk c9;clear c9;obtain ⟨y3,hy3⟩: ∃y_:List ByteArray,y_=(x5_1++ [(rd_T79 l0 x6_1).f0]):=⟨_,rfl⟩;(first|replace H:=zsb_ hy3 H|rw [←hy3] at H);have Ny3:=Aside0.mk hy3;clear hy3;replace H:=zbd_ H;obtain ⟨t7,A10,H⟩:=H;try dsimp only at H
   have H':=Aside0.mk H;clear H;obtain ⟨Ao11,co11,eo11⟩:=Kd.R_slice HO_5.out;subst eo11;obtain ⟨p2,q2,ad2,e2,hx2_0,hx2_1,hx2_2,hx2_3,hx2_4,hx2_5,hx2_6,hx2_7,hx2_8,hx2_9,hx2_10,hx2_11⟩:=zat_ (at_T79 HR0.out x6_1);cases e2;replace hx2_0:=zx12_ HB hx2_0 hx2_1 hx2_2 hx2_3 hx2_4 hx2_5 hx2_6 hx2_7 hx2_8 hx2_9 hx2_10 hx2_11;clear hx2_1 hx2_2 hx2_3 hx2_4 hx2_5 hx2_6 hx2_7 hx2_8 hx2_9 hx2_10 hx2_11;obtain ⟨hx2_0,hx2_1,hx2_2,hx2_3,hx2_4,hx2_5,hx2_6,hx2_7,hx2_8,hx2_9,hx2_10,hx2_11⟩:=hx2_0
   go_wp2_with (first|((with_reducible refine gate_builtin (b:= .append) (xs:=#[.tmp 26, .tmp 32]) rfl ?_);(try (refine gate_guard (by rfl) ?_;dsimp only));at_builtin;refine Kd.R_append Kd.string (w0:=w) w.heap.size rfl (.tmp 26) (.tmp 32) 85 9 (.string ⟨#[]⟩) 16 rfl Try.underlying85 info9 rfl (by decide) (by omega) (.slice Ao11 x5_1.length co11) x5_1 ((rd_T79 l0 x6_1).f0) [.string ((rd_T79 l0 x6_1).f0)] (fun _=>True) (fun _=>False) rfl rfl ?aP (fun _ hk=>hk.elim) ?aF ?aO ?aB ?aS ?aL ?_;(case aP=>exact rfl);(case aB=>exact (zl0_ HB));(case aF=>exact (fun _ _=>trivial));(case aO=>exact (zr_ HO_5));(case aS=>exact (below_size (zl0_ HB)));(case aL=>have:=LMc9.out;omega);intro v4 w12 ho hb hg hat;rw [←Ny3.out] at ho;have n0_:=am_ (hb);have n1_:=am_ (ho);clear HB;clear HO_5;have HB:=n0_;have HO5:=n1_;clear n0_ n1_;clear ho hb hg hat;have p6:0≤(x6_1:Int):=of_decide_eq_true zq_;have q6:x6_1<(l0.length:Int):=of_decide_eq_true zq_;obtain ⟨ad6,e6,hx6_0,hx6_1,hx6_2,hx6_3,hx6_4,hx6_5,hx6_6,hx6_7,hx6_8,hx6_9,hx6_10,hx6_11⟩:=at_T79 HR0.out x6_1 p6 q6;obtain rfl:ad2=ad6:=(by injection e6);replace hx6_0:=zx12_ HB hx6_0 hx6_1 hx6_2 hx6_3 hx6_4 hx6_5 hx6_6 hx6_7 hx6_8 hx6_9 hx6_10 hx6_11;clear hx6_1 hx6_2 hx6_3 hx6_4 hx6_5 hx6_6 hx6_7 hx6_8 hx6_9 hx6_10 hx6_11;obtain ⟨hx6_0,hx6_1,hx6_2,hx6_3,hx6_4,hx6_5,hx6_6,hx6_7,hx6_8,hx6_9,hx6_10,hx6_11⟩:=hx6_0;replace p6:=eq_true p6;replace q6:=eq_true q6)|((with_reducible refine gate_callee (f:=91) rfl ?_);refine gl_ (some 25) Try.func91 #[.slice (some ad2) l0.length c0, .string ((rd_T79 l0 x6_1).f1)] ?_;(with_reducible refine (tree_Find.calls _ _ l0 ((rd_T79 l0 x6_1).f1) t7 _ ?side1 ?side2 A10.out).mono ?_);(case side1=>exact zc_ (Kd.C_below HR0.out HB.out));(case side2=>exact HC0.out);rintro e w13 ⟨rfl,hb⟩;refine ⟨_,rfl, ?_⟩;replace HO5:=ob_ HO5 hb;replace HB:=am_ (below_step (zl0_ HB) hb);(try clear hb)))
   go_roundg k1
   case measure=>have:=HK1.out;omega
   case rel=>exact ⟨(y3),(t7),rf_,H',⟨by have:=HK1.out;omega⟩,am_ (zr_ HO5),⟨zl0_ HB⟩⟩
theorem vecAdd1_calls (x y:Int) (W:World):Calls Try.prog 146 #[.int .i64 x, .int .i64 y] W fun e w'=>e= .returned (.int .i64 (wrap64 (x+y)))∧w'=W:=by
 go_enter Try.func146,Try.ntmps146
 go_wp2
 go_ret
 exact ⟨rfl,rfl⟩
def vec_Add.f (l0:List (S37)):Option (Int×Int×Int):=some (vecByF (fun x y=>wrap64 (x+y)) l0 0 0 0)
set_option maxHeartbeats 1000000 in
set_option maxRecDepth 100000 in
theorem vec_Add.calls (A0:Option Addr) (c0:Nat) (l0:List (S37)) (r1:Int) (r2:Int) (r3:Int) (w:World) (hr0:Kd.C k37 w A0 l0.length l0) (hc0:l0.length≤c0) (h:vec_Add.f l0=some (r1,r2,r3)):
  Calls Try.prog 115 #[.slice A0 l0.length c0] w fun e w'=>e= .returned (.agg #[.int .i64 r1, .int .i64 r2, .int .i64 r3])∧Below w.heap.size w w':=by
 have hu37:=Try.underlying37;have hm:l0.length≤maxLen:=hr0.2.1;have HC:=am_ (vecBy_calls 146 (fun x y=>wrap64 (x+y)) (enters_of Try.func146 (by kernel_rfl) rfl) vecAdd1_calls A0 c0 l0 0 0 0 (w.alloc (.cells #[.int .i64 0, .int .i64 0, .int .i64 0] 37)) (Kd.C_below hr0 (below_alloc (Below.refl _ _) _)) hc0 hm);have HH:=Aside0.mk h;clear hr0 h;go_enter Try.func115,Try.ntmps115;go_wp2_with fail
 refine HC.out.mono ?_;rintro e w1 ⟨rfl,hb⟩;have h:=Option.some.inj (show some (vecByF (fun x y=>wrap64 (x+y)) l0 0 0 0)=some (r1,r2,r3) from HH.out);rw [h];have hZ:=blk_below (blk_new w (.cells #[.int .i64 0, .int .i64 0, .int .i64 0] 37)) hb;have HB:=Aside0.mk hb;have HZ:=Aside0.mk hZ;clear h hb hZ;have g0:=zz_ HZ 0;have g1:=zz_ HZ 1;have g2:=zz_ HZ 2;have z0:=blk_frozen HZ.out 0;have z1:=blk_frozen HZ.out 1;have z2:=blk_frozen HZ.out 2;have hs1:w.heap.size<w1.heap.size:=blk_lt HZ.out;go_wp2
 refine bodyPost_ret (results_cell_row rfl _ _ w.heap.size 37 #[.int .i64 r1, .int .i64 r2, .int .i64 r3] (0,0) _ rfl (blk_put (blk_put (blk_put HZ.out 0 _ rfl) 1 _ rfl) 2 _ rfl) Try.underlying37 rfl (by kernel_rfl)) rfl ?_;exact ⟨rfl,below_set (below_set (below_set (below_step (below_alloc (Below.refl _ _) _) HB.out) (Nat.le_refl _)) (Nat.le_refl _)) (Nat.le_refl _)⟩


end Go.Proofs.Ytahidkjncljkaaa.Print

namespace Go.Proofs.Ytahidkjncljkaaa.Print
open Go.RowKit Go.Proofs.YtahidkjncljkaaaW.PrintWords Go.Proofs.YtahidkjncljkaaaW.PrintLast
def Bytes (ns:List Int):Prop:= ∀x∈ns,0≤x∧x≤255
theorem Bytes.rd {ns:List Int} (h:Bytes ns) (i:Int):0≤rd ns i∧rd ns i≤255:=by
 unfold Go.Proofs.YtahidkjncljkaaaW.PrintWords.rd;rw [List.getD_eq_getElem?_getD]
 cases e:ns[i.toNat]? with
 |none=>simp
 |some x=>exact h x (List.mem_of_getElem? e)
def one (c:Int):ByteArray:=strOfNums [c]
structure MadeP (l:List Item):Prop where
 right:RightP l
 len:l.length≤24
 name: ∀x∈l,∃c:Int,97≤c∧c≤120∧x.f0=one c
 ver: ∀x∈l,x.f5=1
 lim: ∀x∈l,∀c:Comp,20≤c.of x.f2∧c.of x.f2≤275
theorem made_nil:MadeP []:=⟨right_nil,by simp,by simp,by simp,by simp⟩
theorem made_ins {l:List Item} (h:MadeP l) {n p:ByteArray} {v:Vec} {c:Int} (hc:97≤c∧c≤120) (hn:n=one c) (hv: ∀c:Comp,20≤c.of v∧c.of v≤275) (hl:l.length<24) (hr:RightP (insL l (newItem n p v))):MadeP (insL l (newItem n p v)) where
  right:=hr
  len:=by rw [len_insL];omega
  name:=fun x hx=>by
    rcases mem_insL.1 hx with rfl|hx
    · exact ⟨c,hc.1,hc.2,hn⟩
    exact h.name x hx
  ver:=fun x hx=>by
    rcases mem_insL.1 hx with rfl|hx
    · rfl
    exact h.ver x hx
  lim:=fun x hx=>by
    rcases mem_insL.1 hx with rfl|hx
    · exact hv
    exact h.lim x hx
theorem made_adm {l:List Item} (h:MadeP l) {n:ByteArray} {v:Vec} (hr:RightP (admL l n v)):MadeP (admL l n v) where
 right:=hr
 len:=by unfold admL;rw [List.length_map];exact h.len
 name:=fun x hx=>by
  obtain ⟨y,hy,rfl⟩:=List.mem_map.1 hx;exact h.name y hy
 ver:=fun x hx=>by
  obtain ⟨y,hy,rfl⟩:=List.mem_map.1 hx;exact h.ver y hy
 lim:=fun x hx=>by
  obtain ⟨y,hy,rfl⟩:=List.mem_map.1 hx;exact h.lim y hy
def MakesFrom (ns:List Int) (i:Int):Prop:= ∀l,MadeP l→ ∃r,Ev (fun k=>law12_Make.l0 k ns l i) r∧MadeP r
theorem tmod_in {a b:Int} (ha:0≤a) (hb:0<b):0≤a.tmod b∧a.tmod b<b:=by
 rw [Int.tmod_eq_emod_of_nonneg ha];exact ⟨Int.emod_nonneg _ (by omega),Int.emod_lt_of_pos _ hb⟩
theorem tdiv_in {a b:Int} (ha:0≤a) (hb:0<b):0≤a.tdiv b∧a.tdiv b≤a:=by
 rw [Int.tdiv_eq_ediv_of_nonneg ha];exact ⟨Int.ediv_nonneg ha (by omega),Int.ediv_le_self _ ha⟩
theorem made_j3 {ns:List Int} (hb:Bytes ns) (hs:ns.length≤1000) {i:Int} (h0:0≤i) (h2:i+2<ns.length) (ih:MakesFrom ns (i+3)) {l:List Item} (h:MadeP l) (hl:l.length<24) (p:ByteArray):
    ∃r,Ev (fun k=>law12_Make.j3 k ns l i p) r∧MadeP r:=by
  have b1:=hb.rd (i+1);have b2:=hb.rd (i+2);have hlen:=h.right.len
  have hnm:(wrap64 (97+(Int.tmod (wrap64 ((l.length:Int)*5)) 24))) % 256=97+((l.length:Int)*5) % 24:=by
    rw [w64 (n:=(l.length:Int)*5) (by omega) (by omega),Int.tmod_eq_emod_of_nonneg (by omega),w64 (by omega) (by omega)];omega
  generalize hc:97+((l.length:Int)*5) % 24=c at hnm;have hcb:97≤c∧c≤120:=by omega
  have hlim:wrap64 (20+wrap64 (rd ns (i+1)))=20+rd ns (i+1):=by rw [w64 (n:=rd ns (i+1)) (by omega) (by omega),w64 (by omega) (by omega)]
  obtain ⟨K,hK⟩:=r10_Create_ev (l:=l) (by omega) (one c) p ⟨20+rd ns (i+1),20+rd ns (i+1),20+rd ns (i+1)⟩;dsimp only at hK;have hw1:wrap64 (i+1)=i+1:=w64 (by omega) (by omega);have hw2:wrap64 (i+2)=i+2:=w64 (by omega) (by omega);have hw3:wrap64 (i+3)=i+3:=w64 (by omega) (by omega);have hr2:wrap64 (rd ns (i+2))=rd ns (i+2):=w64 (by omega) (by omega);by_cases hE:(creR l (one c) p ⟨20+rd ns (i+1),20+rd ns (i+1),20+rd ns (i+1)⟩).2=0;rotate_left
  · obtain ⟨r, ⟨K3, hK3⟩, hM⟩ := ih l h
    dsimp only at hK3
    refine ⟨r,⟨K+K3+1,fun k hk=> ?_⟩,hM⟩
    obtain ⟨k,rfl⟩: ∃m,k=m+1:=⟨k - 1,by omega⟩
    simp only [law12_Make.j3]
    rw [hw1,hw2,hw3,hnm,hlim,if_pos (by omega),if_pos (by omega)]
    rw [show strOfNums [c]=one c from rfl,hK k (by omega)]
    simp only [Option.bind_some]
    rw [if_neg hE]
    exact hK3 k (by omega)
  obtain ⟨e1,hR,hno, -, -, -,hv, -⟩:=creR_right h.right hE;have hm:=made_ins h (p:=p) hcb rfl (v:=⟨20+rd ns (i+1),20+rd ns (i+1),20+rd ns (i+1)⟩) (fun c=>by cases c<;>(simp only [Comp.of];omega)) hl hR;generalize hL:insL l (newItem (one c) p ⟨20+rd ns (i+1),20+rd ns (i+1),20+rd ns (i+1)⟩)=l1 at*;have hl1:0<l1.length:=by rw [←hL,len_insL];omega
  have hd:=tdiv_in (a:=rd ns (i+2)) (b:=16) (by omega) (by omega);have hw4:wrap64 (Int.tdiv (rd ns (i+2)) 16)=Int.tdiv (rd ns (i+2)) 16:=w64 (by omega) (by omega);have hq:=tmod_in (a:=Int.tdiv (rd ns (i+2)) 16) (b:=(l1.length:Int)) hd.1 (by omega);generalize hJ:Int.tmod (Int.tdiv (rd ns (i+2)) 16) (l1.length:Int)=j at*;obtain ⟨v,hv'⟩: ∃v:Vec,v=⟨Int.tmod (rd ns (i+2)) 16,wrap64 (Int.tdiv (Int.tmod (rd ns (i+2)) 16) 2),Int.tmod (Int.tmod (rd ns (i+2)) 16) 3⟩:=⟨_,rfl⟩;obtain ⟨K2,hK2⟩:=r10_Admit_ev hm.right (rd_T79 l1 j).f0 v;dsimp only at hK2
  have main: ∀r,Ev (fun k=>law12_Make.l0 k ns (if (admR l1 (rd_T79 l1 j).f0 v).2=0 then (admR l1 (rd_T79 l1 j).f0 v).1 else l1) (i+3)) r→Ev (fun k=>law12_Make.j3 k ns l i p) r:=by
    rintro r ⟨K3,hK3⟩;refine ⟨K+K2+K3+1,fun k hk=> ?_⟩;dsimp only at hK3;obtain ⟨k,rfl⟩: ∃m,k=m+1:=⟨k - 1,by omega⟩;simp only [law12_Make.j3];rw [hw1,hw2,hw3,hnm,hlim,hr2,if_pos (by omega),if_pos (by omega)];rw [show strOfNums [c]=one c from rfl,hK k (by omega)];simp only [Option.bind_some];rw [if_pos hE,if_pos (by omega),if_pos (by omega),e1,if_neg (by omega),hw4,hJ,if_pos hq.1,if_pos hq.2];have:=hK2 k (by omega)
    rw [hv'] at this;rw [this];simp only [Option.bind_some];rw [←hv'];have:=hK3 k (by omega)
    by_cases q:(admR l1 (rd_T79 l1 j).f0 v).2=0
    · rw [if_pos q] at this ⊢;exact this
    rw [if_neg q] at this ⊢;exact this
  by_cases q:(admR l1 (rd_T79 l1 j).f0 v).2=0;rotate_left
  · rw [if_neg q] at main
    obtain ⟨r,hr,hM⟩:=ih _ hm
    exact ⟨r,main r hr,hM⟩
  rw [if_pos q] at main;obtain ⟨e2,hR2, -⟩:=admR_right hm.right q;rw [e2] at main;obtain ⟨r,hr,hM⟩:=ih _ (made_adm hm hR2);exact ⟨r,main r hr,hM⟩
theorem made_step {ns:List Int} (hb:Bytes ns) (hs:ns.length≤1000) {i:Int} (h0:0≤i) (h2:i+2<ns.length) (ih:MakesFrom ns (i+3)):MakesFrom ns i:=by
  intro l h;have hw2:wrap64 (i+2)=i+2:=w64 (by omega) (by omega);have b0:=hb.rd i;have hr0:wrap64 (rd ns i)=rd ns i:=w64 (by omega) (by omega);by_cases hl:l.length<24;rotate_left
  · refine ⟨l, Ev.step (f := fun k => law12_Make.j1 k ns l i false) (fun k => ?_) (Ev.step (f := fun _ => some l) (fun k => ?_) (Ev.now _)), h⟩
    · simp only [law12_Make.l0]
      rw [hw2,if_pos (by omega),show decide ((l.length:Int)<24)=false from decide_eq_false (by omega)]
    simp only [law12_Make.j1,Bool.false_eq_true,if_false]
  have h3:=made_j3 hb hs h0 h2 ih h hl
  have hj2: ∀b,(b=true→0<l.length)→ ∃r,Ev (fun k=>law12_Make.j2 k ns l i (rd ns i) ⟨#[]⟩ b) r∧MadeP r:=by
    intro b hbl
    cases b with
    | false =>
      obtain ⟨r,hr,hM⟩:=h3 ⟨#[]⟩;refine ⟨r,Ev.step (fun k=> ?_) hr,hM⟩;simp only [law12_Make.j2,Bool.false_eq_true,if_false]
    | true =>
      have hpos:=hbl rfl;have hd:=tdiv_in (a:=rd ns i) (b:=3) (by omega) (by omega);have hw:wrap64 (Int.tdiv (rd ns i) 3)=Int.tdiv (rd ns i) 3:=w64 (by omega) (by omega);have hq:=tmod_in (a:=Int.tdiv (rd ns i) 3) (b:=(l.length:Int)) hd.1 (by omega);obtain ⟨r,hr,hM⟩:=h3 (rd_T79 l (Int.tmod (Int.tdiv (rd ns i) 3) (l.length:Int))).f0;refine ⟨r,Ev.step (fun k=> ?_) hr,hM⟩;simp only [law12_Make.j2,if_true];rw [hw,if_neg (by omega),if_pos hq.1,if_pos hq.2]
  have hj1: ∃r,Ev (fun k=>law12_Make.j1 k ns l i true) r∧MadeP r:=by
    by_cases hpos:0<l.length
    · obtain ⟨r, hr, hM⟩ := hj2 (decide ((Int.tmod (rd ns i) 3) > 0)) (fun _ => hpos)
      refine ⟨r,Ev.step (fun k=> ?_) hr,hM⟩
      simp only [law12_Make.j1,if_true]
      rw [if_pos (by omega),if_pos (by omega),if_pos (by omega),hr0]
    obtain ⟨r,hr,hM⟩:=hj2 false (fun q=>by cases q);refine ⟨r,Ev.step (fun k=> ?_) hr,hM⟩;simp only [law12_Make.j1,if_true];rw [if_pos (by omega),if_pos (by omega),if_neg (by omega),hr0]
  obtain ⟨r,hr,hM⟩:=hj1;refine ⟨r,Ev.step (fun k=> ?_) hr,hM⟩;simp only [law12_Make.l0];rw [hw2,if_pos (by omega),show decide ((l.length:Int)<24)=true from decide_eq_true (by omega)]
theorem made_from {ns:List Int} (hb:Bytes ns) (hs:ns.length≤1000): ∀(d:Nat) (i:Int),0≤i→i≤1003→(ns.length:Int) - i≤d→MakesFrom ns i
  | d, i, h0, h1, hd => by
    by_cases h2:i+2<ns.length
    · cases d with
      |zero=>omega
      |succ d=>exact made_step hb hs h0 h2 (made_from hb hs d (i+3) (by omega) (by omega) (by omega))
    intro l h;have hw2:wrap64 (i+2)=i+2:=w64 (by omega) (by omega);refine ⟨l,Ev.step (f:=fun k=>law12_Make.j1 k ns l i false) (fun k=> ?_) (Ev.step (f:=fun _=>some l) (fun k=> ?_) (Ev.now _)),h⟩
    · simp only [law12_Make.l0]
      rw [hw2,if_neg (by omega)]
    simp only [law12_Make.j1,Bool.false_eq_true,if_false]
theorem made_all {ns:List Int} (hb:Bytes ns) (hs:ns.length≤1000): ∃l,Ev (fun k=>law12_Make.f k ns) l∧MadeP l:=made_from hb hs ns.length 0 (by omega) (by omega) (by omega) [] made_nil
end Go.Proofs.Ytahidkjncljkaaa.Print

namespace Go.Proofs.Ytahidkjncljkaaa.Print
open Go.RowKit Go.Proofs.YtahidkjncljkaaaW.PrintWords Go.Proofs.YtahidkjncljkaaaW.PrintLast Go.Proofs.YtahidkjncljkaaaW.PrintMore
theorem tree_Up_l0 (l:List Item) (hl:l.length<1000000): ∀(m:Nat) (n:ByteArray) (out:List ByteArray),out.length+m=l.length+1→
    Ev (fun k=>tree_Up.l0 k l out (fnd l n)) (out++upGo l m n)
  | 0, n, out, hm => by
    rw [upGo.eq_1,List.append_nil]
    refine Ev.step (f:=fun _=>some out) (fun k=> ?_) (Ev.now _)
    simp only [tree_Up.l0]
    by_cases h:0≤fnd l n
    · rw [if_pos h,if_neg (by omega)]
    rw [if_neg h]
  | m + 1, n, out, hm => by
    cases h:look l n with
    | none =>
      rw [upGo_none h,List.append_nil]
      refine Ev.step (f:=fun _=>some out) (fun k=> ?_) (Ev.now _)
      simp only [tree_Up.l0]
      rw [fnd_none h,if_neg (by omega)]
    | some x =>
      rw [upGo_some h]
      have h0:=fnd_ge.2 ⟨x,h⟩
      have h1:=fnd_lt l n
      obtain ⟨hx,hn⟩:=look_mem h
      refine Ev.step (f:=fun k=>tree_Up.l0 k l (out++ [n]) (fnd l x.f1)) (fun k=> ?_) ?_
      · simp only [tree_Up.l0]
        rw [if_pos h0,if_pos (by omega),if_pos h0,if_pos h1,if_pos (by omega),fnd_rd h,hn,tree_Find_eq]
        rfl
      have:=tree_Up_l0 l hl m x.f1 (out++ [n]) (by simp;omega)
      simpa using this
theorem tree_Up_ev (l:List Item) (n:ByteArray) (hl:l.length<1000000):Ev (fun k=>tree_Up.f k l n) (up l n):=by
 have:=tree_Up_l0 l hl (l.length+1) n [] (by simp)
 rw [List.nil_append] at this;exact this
end Go.Proofs.Ytahidkjncljkaaa.Print

namespace Go.Proofs.Ytahidkjncljkaaa.Print
open Go.RowKit Go.Proofs.YtahidkjncljkaaaW.PrintWords Go.Proofs.YtahidkjncljkaaaW.PrintLast Go.Proofs.YtahidkjncljkaaaW.PrintMore
attribute [local go_sem] max2_int min2_int max_two min_two max_three min_three max_four min_four

def tree_Depth.f (k:Nat) (l0:List (S79)) (a1:ByteArray):Option (Int):=(tree_Up.f k l0 a1).bind fun t1=>(some (t1.length:Int))
theorem tree_Depth.mono: ∀a0 a1 k,LeO (tree_Depth.f k a0 a1) (tree_Depth.f (k+1) a0 a1):=by
 intro a0 a1 k;unfold tree_Depth.f
 repeat' with_reducible first|apply tree_Up.mono|apply LeO.refl|apply LeO.none|apply LeO.ite|refine LeO.bind ?_ fun _=> ?_
set_option maxHeartbeats 8000000 in
set_option maxRecDepth 100000 in
theorem tree_Depth.calls (k:Nat) (A0:Option Addr) (c0:Nat) (l0:List (S79)) (a1:ByteArray) (r:Int) (w:World) (hr0:Kd.C k79 w A0 l0.length l0) (hc0:l0.length≤c0) (h:tree_Depth.f k l0 a1=some r):
  Calls Try.prog 132 #[.slice A0 l0.length c0, .string a1] w fun e w'=>e= .returned (.int .i64 r)∧Below w.heap.size w w':=by
 have HR0:=Aside0.mk hr0;have HC0:=Aside0.mk hc0;clear hr0 hc0;have HB:=am_ (Below.refl w.heap.size w);have H:((tree_Up.f k l0 a1).bind fun t1=>(some (t1.length:Int)))=some r:=h;clear h;replace H:=zbd_ H;obtain ⟨t1,A3,H⟩:=H;try dsimp only at H
 obtain rfl:=Option.some.inj H;go_enter Try.func132,Try.ntmps132;go_wp2_with (first|((with_reducible refine gate_callee (f:=153) rfl ?_);refine gl_ (some 7) Try.func153 #[.slice A0 l0.length c0, .string a1] ?_;(with_reducible refine (tree_Up.calls k _ _ l0 a1 t1 _ ?side1 ?side2 A3.out).mono ?_);(case side1=>repeat (first|exact HR0.out|(with_reducible refine Kd.C_alloc ?_ _)|(with_reducible refine Kd.C_drewN ?_ _)|(with_reducible refine Kd.C_drew ?_)));(case side2=>exact HC0.out);rintro e w4 ⟨v2,rfl,ho0,hb⟩;refine ⟨_,rfl, ?_⟩;have HO3:=am_ (Kd.R_lower ho0 (below_size (zl0_ HB)));replace HB:=am_ (below_step (zl0_ HB) hb);(try clear hb ho0);obtain ⟨Ao5,co5,eo5⟩:=Kd.R_slice HO3.out;subst eo5))
 go_ret
 exact ⟨by first|rfl|(simp [errW_none,errW_some]<;>rfl)|(simp [*,errW_none,errW_some]<;>rfl),zl0_ HB⟩

end Go.Proofs.Ytahidkjncljkaaa.Print

namespace Go.Proofs.Ytahidkjncljkaaa.Print
open Go.RowKit Go.Shelf Go.Sort Go.Proofs.YtahidkjncljkaaaW.PrintWords Go.Proofs.YtahidkjncljkaaaW.PrintLast Go.Proofs.YtahidkjncljkaaaW.PrintMore
theorem depth_calls (l:List Item) (n:ByteArray) (hl:l.length<1000000) (A:Option Addr) (c:Nat) (w:World) (hr:Kd.C k79 w A l.length l) (hc:l.length≤c):
  Calls Try.prog 132 #[.slice A l.length c, .string n] w fun e w'=>e= .returned (.int .i64 (depU l n))∧Below w.heap.size w w':=by
 have h:Ev (fun k=>tree_Depth.f k l n) (depU l n):=Ev.bind (tree_Up_ev l n hl) (Ev.now _)
 obtain ⟨k,hk⟩:=h
 exact tree_Depth.calls k A c l n _ w hr hc (hk k (Nat.le_refl _))
set_option maxHeartbeats 8000000 in
set_option maxRecDepth 100000 in
theorem dropCmp_calls_ (W:World) (gl:Nat) (Al:Option Addr) (cl:Nat) (l:List Item) (hC:Kd.C k79 W Al l.length l) (hcl:l.length≤cl) (hl:l.length<1000000) (hgl:W.heap[gl]?=some (Obj.cells #[.slice Al l.length cl] 46 (0,0))) (x y:ByteArray):
    Calls Try.prog 131 #[.string x, .string y, .pointer (some ⟨gl,0,none⟩)] W fun e w'=>e= .returned (.int .i64 (orI (cmpI (depU l y) (depU l x)) (cmpS x y)))∧Below W.heap.size W w':=by
  have GL:=am_ (blk_drew hgl);have HC:=am_ (Kd.C_below hC (below_drew (Below.refl _ W)));have HCL:=Aside0.mk hcl;have HL:=Aside0.mk hl;have HB:=am_ (below_drew (Below.refl W.heap.size W));clear hgl hC hl;go_enter Try.func131,Try.ntmps131;go_wp2_with fail
  refine start_ (n:=13) (S:=fun w'=>w'.cell? ⟨gl,0,none⟩=some (.slice Al l.length cl)∧True) (ds:=[]) (bt_ 13 0) (by kernel_rfl) rfl rfl ⟨(blk_cell GL.out 0).trans rfl,trivial⟩ (fun hHeld=> ?_);generalize W.drew=w2 at GL HC HB hHeld ⊢;refine tv_ (i:=0) (N:=some 6) (bt_ 13 1) hHeld ?_;refine pv_ (i:=1) (N:=some 7) (bt_ 13 3) ?_;refine tv_ (i:=3) (N:=some 9) (bt_ 13 11) hHeld ?_;refine pv_ (i:=4) (N:=some 10) (bt_ 13 27) ?_;refine pv_ (i:=7) (N:=some 13) (bt_ 13 155) ?_;refine pv_ (i:=8) (N:=some 14) (bt_ 13 411) ?_;refine one_ (i:=2) (N:=some 8) (bt_ 13 415) rfl rfl (by kernel_rfl) (by decide) (fun K hK=> ?_);refine goes_ Try.func132 (by kernel_rfl) rfl #[.slice Al l.length cl, .string y] (by rfl) rfl rfl (by (try simp only [List.map_toArray,List.map_cons,List.map_nil]);rfl) ?_;refine (depth_calls l y HL.out Al cl _ HC.out HCL.out).mono ?_;rintro e w3 ⟨rfl,hb⟩;refine ⟨_,rfl, ?_⟩;have n0_:=am_ (blk_below GL.out hb);have n1_:=am_ (Kd.C_below HC.out hb);have n2_:=am_ (below_step HB.out hb);clear GL HC HB hb;have GL:=n0_;have HC:=n1_;have HB:=n2_;clear n0_ n1_ n2_;refine hK.out _ _ ⟨(blk_cell GL.out 0).trans rfl,trivial⟩ (fun hHeld=> ?_);clear hK K;refine norm_ (a':= ?_) ?_ ?_;rotate_left
  · show Act.put _ (some 8) _ = _
    simp only [Act.put,List.setIfInBounds_toArray,List.set_cons_zero,List.set_cons_succ,i64_w,i32_w]
    rfl
  refine one_ (i:=5) (N:=some 11) (bt_ 13 447) rfl rfl (by kernel_rfl) (by decide) (fun K hK=> ?_);refine goes_ Try.func132 (by kernel_rfl) rfl #[.slice Al l.length cl, .string x] (by rfl) rfl rfl (by (try simp only [List.map_toArray,List.map_cons,List.map_nil]);rfl) ?_;refine (depth_calls l x HL.out Al cl _ HC.out HCL.out).mono ?_;rintro e w4 ⟨rfl,hb⟩;refine ⟨_,rfl, ?_⟩;have n0_:=am_ (blk_below GL.out hb);have n1_:=am_ (Kd.C_below HC.out hb);have n2_:=am_ (below_step HB.out hb);clear GL HC HB hb;have GL:=n0_;have HC:=n1_;have HB:=n2_;clear n0_ n1_ n2_;refine hK.out _ _ ⟨(blk_cell GL.out 0).trans rfl,trivial⟩ (fun hHeld=> ?_);clear hK K;refine norm_ (a':= ?_) ?_ ?_;rotate_left
  · show Act.put _ (some 11) _ = _
    simp only [Act.put,List.setIfInBounds_toArray,List.set_cons_zero,List.set_cons_succ,i64_w,i32_w]
    rfl
  refine one_ (i:=6) (N:=some 12) (bt_ 13 511) rfl rfl (by kernel_rfl) (by decide) (fun K hK=> ?_);refine goes_ Try.func81 (by kernel_rfl) rfl #[.int .i64 (depU l y), .int .i64 (depU l x)] (by rfl) rfl rfl (by (try simp only [List.map_toArray,List.map_cons,List.map_nil]);rfl) ?_;refine (cmpI_calls (depU l y) (depU l x) _).mono ?_;rintro e wq ⟨rfl,hwq⟩;rw [hwq];clear hwq wq;refine ⟨_,rfl, ?_⟩;refine hK.out _ _ ⟨(blk_cell GL.out 0).trans rfl,trivial⟩ (fun hHeld=> ?_);clear hK K;refine norm_ (a':= ?_) ?_ ?_;rotate_left
  · show Act.put _ (some 12) _ = _
    simp only [Act.put,List.setIfInBounds_toArray,List.set_cons_zero,List.set_cons_succ,i64_w,i32_w]
    rfl
  refine one_ (i:=9) (N:=some 15) (bt_ 13 1023) rfl rfl (by kernel_rfl) (by decide) (fun K hK=> ?_);refine goes_ Try.func82 (by kernel_rfl) rfl #[.string x, .string y] (by rfl) rfl rfl (by (try simp only [List.map_toArray,List.map_cons,List.map_nil]);rfl) ?_;refine (cmpS_calls x y _).mono ?_;rintro e wq ⟨rfl,hwq⟩;rw [hwq];clear hwq wq;refine ⟨_,rfl, ?_⟩;refine hK.out _ _ ⟨(blk_cell GL.out 0).trans rfl,trivial⟩ (fun hHeld=> ?_);clear hK K;refine norm_ (a':= ?_) ?_ ?_;rotate_left
  · show Act.put _ (some 15) _ = _
    simp only [Act.put,List.setIfInBounds_toArray,List.set_cons_zero,List.set_cons_succ,i64_w,i32_w]
    rfl
  refine one_ (i:=10) (N:=some 16) (bt_ 13 2047) rfl rfl (by kernel_rfl) (by decide) (fun K hK=> ?_);refine event_step (by rfl) (v:= .slice (some ⟨w4.heap.size,0,none⟩) 2 2) (w1:=w4.alloc (.cells #[.int .i64 (cmpI (depU l y) (depU l x)), .int .i64 (cmpS x y)] 3)) ?hr ?_;(case hr=>first|(go_simp;done)|(go_simp;rfl));have hn:=blk_new w4 (.cells #[.int .i64 (cmpI (depU l y) (depU l x)), .int .i64 (cmpS x y)] 3 (0,0));have hb:=below_alloc (Below.refl w4.heap.size w4) (.cells #[.int .i64 (cmpI (depU l y) (depU l x)), .int .i64 (cmpS x y)] 3);obtain ⟨wA,hwA⟩: ∃wA,wA=w4.alloc (.cells #[.int .i64 (cmpI (depU l y) (depU l x)), .int .i64 (cmpS x y)] 3):=⟨_,rfl⟩;obtain ⟨gs,hgs⟩: ∃gs,gs=w4.heap.size:=⟨_,rfl⟩;rw [←hwA] at hn hb ⊢;rw [←hgs] at hn ⊢;have n0_:=am_ (blk_below GL.out hb);have n2_:=am_ (below_step HB.out hb);have HN:=Aside0.mk hn;clear GL HC HB hb hn hwA hgs;have GL:=n0_;have HB:=n2_;clear n0_ n2_;refine hK.out _ _ ⟨(blk_cell GL.out 0).trans rfl,trivial⟩ (fun hHeld=> ?_);clear hK K;refine norm_ (a':= ?_) ?_ ?_;rotate_left
  · show Act.put _ (some 16) _ = _
    simp only [Act.put,List.setIfInBounds_toArray,List.set_cons_zero,List.set_cons_succ,i64_w,i32_w]
    rfl
  refine one_ (i:=11) (N:=some 17) (bt_ 13 4095) rfl rfl (by kernel_rfl) (by decide) (fun K hK=> ?_);refine goes_ Try.func80 (by kernel_rfl) rfl #[.slice (some ⟨gs,0,none⟩) 2 2] (by rfl) rfl rfl (by (try simp only [List.map_toArray,List.map_cons,List.map_nil]);rfl) ?_;refine (cmpOr_calls gs 2 (cmpI (depU l y) (depU l x)) (cmpS x y) wA ((blk_cell HN.out 0).trans rfl) ((blk_cell HN.out 1).trans rfl)).mono ?_;rintro e wq ⟨rfl,hwq⟩;rw [hwq];clear hwq wq;refine ⟨_,rfl, ?_⟩;refine hK.out _ _ ⟨(blk_cell GL.out 0).trans rfl,trivial⟩ (fun hHeld=> ?_);clear hK K;refine norm_ (a':= ?_) ?_ ?_;rotate_left
  · show Act.put _ (some 17) _ = _
    simp only [Act.put,List.setIfInBounds_toArray,List.set_cons_zero,List.set_cons_succ,i64_w,i32_w]
    rfl
  refine pv_ (i:=12) (N:=some 5) (bt_ 13 8191) ?_;refine done_ (by kernel_rfl) ?_;go_wp2
  go_ret
  exact ⟨rfl,HB.out⟩
def depN (l:List Item) (n:ByteArray):Int:= - depU l n
theorem cmpI_swap (a b:Int):cmpI b a=cmpI (-a) (-b):=by
  unfold cmpI;by_cases h1:b<a
  · rw [if_pos h1,if_pos (by omega)]
  by_cases h2:a<b
  · rw [if_neg h1,if_pos h2,if_neg (by omega),if_pos (by omega)]
  rw [if_neg h1,if_neg h2,if_neg (by omega),if_neg (by omega)]
theorem dropCmp_calls (W:World) (gl:Nat) (Al:Option Addr) (cl:Nat) (l:List Item) (hC:Kd.C k79 W Al l.length l) (hcl:l.length≤cl) (hl:l.length<1000000) (hgl:W.heap[gl]?=some (Obj.cells #[.slice Al l.length cl] 46 (0,0))) (x y:ByteArray):
  Calls Try.prog 131 #[.string x, .string y, .pointer (some ⟨gl,0,none⟩)] W fun e w'=>e= .returned (.int .i64 (cmpW (depN l) x y))∧Below W.heap.size W w':=by
 have h:=dropCmp_calls_ W gl Al cl l hC hcl hl hgl x y;rw [cmpI_swap] at h;exact h
end Go.Proofs.Ytahidkjncljkaaa.Print

namespace Go.Proofs.Ytahidkjncljkaaa.Print
open Go.Shelf Go.RowKit Go.Lib Go.Sort
structure SortT (P:Program) (k:Nat):Prop where
 mixed:P.follows .mixedOrders=true
 t0:P.underlying 0=some (TypeDesc.tuple #[])
 a0: ∀w,(isAgg 0).run P w= .ok false w
 z0: ∀w,(Go.sizeOf 0).run P w= .ok 1 w
 v0: ∀w,(zeroValue 0).run P w= .ok (Value.tuple #[]) w
 t3:P.underlying 3=some (TypeDesc.int IntKind.i64)
 a3: ∀w,(isAgg 3).run P w= .ok false w
 z3: ∀w,(Go.sizeOf 3).run P w= .ok 1 w
 v3: ∀w,(zeroValue 3).run P w= .ok (Value.int IntKind.i64 0) w
 t4:P.underlying 4=some (TypeDesc.bool)
 a4: ∀w,(isAgg 4).run P w= .ok false w
 z4: ∀w,(Go.sizeOf 4).run P w= .ok 1 w
 v4: ∀w,(zeroValue 4).run P w= .ok (Value.bool false) w
 t5:P.underlying 207=some (TypeDesc.int IntKind.u64)
 a5: ∀w,(isAgg 207).run P w= .ok false w
 z5: ∀w,(Go.sizeOf 207).run P w= .ok 1 w
 v5: ∀w,(zeroValue 207).run P w= .ok (Value.int IntKind.u64 0) w
 t22:P.underlying 22=some (TypeDesc.slice 39)
 a22: ∀w,(isAgg 22).run P w= .ok false w
 z22: ∀w,(Go.sizeOf 22).run P w= .ok 1 w
 v22: ∀w,(zeroValue 22).run P w= .ok (Value.slice none 0 0) w
 t25:P.underlying 121=some (TypeDesc.func #[39,39] #[3] false)
 a25: ∀w,(isAgg 121).run P w= .ok false w
 z25: ∀w,(Go.sizeOf 121).run P w= .ok 1 w
 v25: ∀w,(zeroValue 121).run P w= .ok (Value.nilFunc) w
 aE: ∀w,(isAgg 39).run P w= .ok true w
 zE: ∀w,(Go.sizeOf 39).run P w= .ok k w

set_option maxHeartbeats 4000000 in
set_option maxRecDepth 1000000 in
theorem swapRange_w {P:Program} {α:Type} [Inhabited α] (F:P.funcs[176]?=some Try.f176) {k:Nat} (L:SortT P k) (enc:α→List Value) (g:Nat) (cb:Array Value) (blk off cap a b n:Nat) (d0 d:Array α) (w0 w:World)
    (R:RowK enc k w0 blk off d0) (hs:d0.size=d.size) (S:SWK enc k w0 blk off d w) (hab:a+n≤b) (hb:b+n≤d.size) (hsz:d.size<4611686018427387904):
    Calls P 176 #[.slice (some ⟨blk,off,none⟩) d.size cap, .int .i64 a, .int .i64 b, .int .i64 n, .func (.func g) #[] cb] w fun e w'=>e= .returned (.tuple #[])∧ ∃d',SWK enc k w0 blk off d' w'∧SwapAt a b n d d'∧PermIn a (b+n) d d':=by
  have mixed:=L.mixed;have t0:=L.t0;have a0:=L.a0;have z0:=L.z0;have v0:=L.v0;have t3:=L.t3;have a3:=L.a3;have z3:=L.z3;have v3:=L.v3;have t4:=L.t4;have a4:=L.a4;have z4:=L.z4;have v4:=L.v4;have t5:=L.t5;have a5:=L.a5;have z5:=L.z5;have v5:=L.v5;have t22:=L.t22;have a22:=L.a22;have z22:=L.z22;have v22:=L.v22;have t25:=L.t25;have a25:=L.a25;have z25:=L.z25;have v25:=L.v25;have aE:=L.aE;have zE:=L.zE
  have u0:=run_underlying L.t0;have u3:=run_underlying L.t3;have u4:=run_underlying L.t4;have u5:=run_underlying L.t5;have u22:=run_underlying L.t22
  have S0:Aside (SWK enc k w0 blk off d w):=S
  clear S
  go_enter F,Try.ntmps176
  go_wp2
  go_loopg [10] n (fun kx s10 wr=> ∃(i:Nat) (dk:Array α),s10= .int .i64 i∧i≤n∧n - i≤kx∧dk.size=d.size∧Aside (SWK enc k w0 blk off dk wr)∧Hid (SwapAt a b i d dk∧PermIn a (b+n) d dk))
  case atStart=>exact ⟨0,d,rfl,by omega,by omega,rfl,S0,(⟨swapAt_zero _ _ _,permIn_refl _ _ _⟩:_∧_)⟩
  case round=>
    clear S0
    obtain ⟨i,dk,rfl,hin,hkx,hds,S1,HH⟩:=hrel
    by_cases hlt:i<n
    · have hltz : (i : Int) < (n : Int) := by omega
      go_wp2_with fail
      have eaq:((a:Int)+(i:Int)).toNat=a+i:=by omega
      have paq:(0:Int)≤(a:Int)+(i:Int):=by omega
      have baq:(a:Int)+(i:Int)<(d.size:Int):=by omega
      have raq:IntKind.i64.wrap ((a:Int)+(i:Int))=(a:Int)+(i:Int):=by rw [IntKind.wrap_i64];omega
      have ecq:((b:Int)+(i:Int)).toNat=b+i:=by omega
      have pcq:(0:Int)≤(b:Int)+(i:Int):=by omega
      have bcq:(b:Int)+(i:Int)<(d.size:Int):=by omega
      have rcq:IntKind.i64.wrap ((b:Int)+(i:Int))=(b:Int)+(i:Int):=by rw [IntKind.wrap_i64];omega
      have S2:Aside (SWK enc k w0 blk off (swp dk (a+i) (b+i)) ((wr.drew.setCells blk (off+(a+i)*k) (enc dk[b+i]!)).setCells blk (off+(b+i)*k) (enc dk[a+i]!))):=S1.out.swapped R (a+i) (b+i) (by omega) (by omega)
      have laq:=S1.out.ld1 R (by omega) P (a+i) (by omega)
      have lbq:=S1.out.ld1 R (by omega) P (b+i) (by omega)
      have saq:=S1.out.st1 R (by omega) P (a+i) (by omega) dk[b+i]!
      have sbq:=S1.out.st2 R (by omega) P (a+i) (b+i) (by omega) (by omega) dk[b+i]! dk[a+i]!
      have naq:(enc dk[a+i]!).length=k:=R.hk _
      have nbq:(enc dk[b+i]!).length=k:=R.hk _
      generalize enc dk[a+i]! =cIq at S2 laq sbq naq
      generalize enc dk[b+i]! =cJq at S2 lbq saq sbq nbq
      clear S1
      go_wp2_with fail
      go_big_region_o
      clear laq lbq saq sbq
      generalize (wr.drew.setCells blk (off+(a+i)*k) cJq).setCells blk (off+(b+i)*k) cIq=w2 at S2 ⊢
      go_wp2
      go_roundg (n - (i+1))
      case measure=>omega
      case rel=>
        have HH2:Hid (SwapAt a b (i+1) d (swp dk (a+i) (b+i))∧PermIn a (b+n) d (swp dk (a+i) (b+i))):=(⟨swapAt_step HH.out.1 (by omega) (by omega),permIn_trans _ _ _ _ _ HH.out.2 (swp_permIn dk a (b+n) (a+i) (b+i) (by omega) (by omega) (by omega) (by omega) (by omega))⟩:_∧_)
        exact ⟨i+1,swp dk (a+i) (b+i),by go_num,by omega,Nat.le_refl _,by rw [size_swp];exact hds,S2,HH2⟩
    · have hltz : ¬ (i : Int) < (n : Int) := by omega
      obtain rfl:i=n:=by omega
      go_wp2
      go_end0
      exact ⟨rfl,dk,S1.out,HH.out.1,HH.out.2⟩
set_option maxHeartbeats 4000000 in
set_option maxRecDepth 1000000 in
theorem rotate_w {P:Program} {α:Type} [Inhabited α] (FS:P.funcs[176]?=some Try.f176) (F:P.funcs[169]?=some Try.f169) {k:Nat} (L:SortT P k) (enc:α→List Value) (g:Nat) (cb:Array Value) (blk off cap a m b:Nat) (d0 d:Array α) (w0 w:World)
    (R:RowK enc k w0 blk off d0) (hs:d0.size=d.size) (S:SWK enc k w0 blk off d w) (ham:a<m) (hmb:m<b) (hb:b≤d.size) (hsz:d.size<4611686018427387904):
    Calls P 169 #[.slice (some ⟨blk,off,none⟩) d.size cap, .int .i64 a, .int .i64 m, .int .i64 b, .func (.func g) #[] cb] w fun e w'=>e= .returned (.tuple #[])∧ ∃d',SWK enc k w0 blk off d' w'∧RotAt a m b d d'∧PermIn a b d d':=by
  have mixed:=L.mixed;have t0:=L.t0;have a0:=L.a0;have z0:=L.z0;have v0:=L.v0;have t3:=L.t3;have a3:=L.a3;have z3:=L.z3;have v3:=L.v3;have t4:=L.t4;have a4:=L.a4;have z4:=L.z4;have v4:=L.v4;have t5:=L.t5;have a5:=L.a5;have z5:=L.z5;have v5:=L.v5;have t22:=L.t22;have a22:=L.a22;have z22:=L.z22;have v22:=L.v22;have t25:=L.t25;have a25:=L.a25;have z25:=L.z25;have v25:=L.v25;have aE:=L.aE;have zE:=L.zE
  have u0:=run_underlying L.t0;have u3:=run_underlying L.t3;have u4:=run_underlying L.t4;have u5:=run_underlying L.t5;have u22:=run_underlying L.t22
  have S0:Aside (SWK enc k w0 blk off d w):=S
  clear S
  have eS: ∀args w,(callFunc 176 args).run P w= .ok (.enter 176 args) w:=enters_of FS (by kernel_rfl) rfl
  go_enter F,Try.ntmps169
  go_wp2
  go_loopg [10,11] (b - a) (fun kx s10 s11 wr=> ∃(i j:Nat) (dk:Array α),s10= .int .i64 i∧s11= .int .i64 j∧0<i∧0<j∧i≤m - a∧j≤b - m∧i+j≤kx∧dk.size=d.size∧Aside (SWK enc k w0 blk off dk wr)∧Hid ((∀d',RotAt (m - i) m (m+j) dk d'→RotAt a m b d d')∧PermIn a b d dk))
  case atStart=>exact ⟨m - a,b - m,d,by rw [show ((m - a:Nat):Int)=(m:Int) - (a:Int) by omega],by rw [show ((b - m:Nat):Int)=(b:Int) - (m:Int) by omega],by omega,by omega,by omega,by omega,by omega,rfl,S0,(⟨fun d' h=>by rwa [show m - (m - a)=a by omega,show m+(b - m)=b by omega] at h,permIn_refl _ _ _⟩:_∧_)⟩
  case round=>
    clear S0
    obtain ⟨i,j,dk,rfl,rfl,hi0,hj0,him,hjm,hkx,hds,S1,HH⟩:=hrel
    by_cases hne:i=j
    · subst hne
      have ha':((m - i:Nat):Int)=(m:Int) - (i:Int):=by omega
      have hcall:=swapRange_w FS L enc g cb blk off cap (m - i) m i d0 dk w0 wr R (by omega) S1.out (by omega) (by omega) (by omega)
      rw [ha',hds] at hcall
      clear S1
      have hnz:((i:Int) !=(i:Int))=false:=by simp
      go_wp2_with (go_at_fn 176;refine hcall.mono ?_;rintro e w1 ⟨rfl,d',S2,X,Y⟩;have XX:Hid (SwapAt (m - i) m i dk d'∧PermIn (m - i) (m+i) dk d'):=(⟨X,Y⟩:_∧_);have S3:Aside (SWK enc k w0 blk off d' w1):=S2;clear X Y S2)
      go_end0
      exact ⟨rfl,d',S3.out,HH.out.1 d' (rot_same (by omega) XX.out.1),permIn_trans _ _ _ _ _ HH.out.2 (permIn_mono dk d' (m - i) (m+i) a b (by omega) (by omega) (by omega) XX.out.2)⟩
    · have hnz : ((i : Int) != (j : Int)) = true := by simp; omega
      by_cases hgt:j<i
      · have hgz : (j : Int) < (i : Int) := by omega
        have ha':((m - i:Nat):Int)=(m:Int) - (i:Int):=by omega
        have hcall:=swapRange_w FS L enc g cb blk off cap (m - i) m j d0 dk w0 wr R (by omega) S1.out (by omega) (by omega) (by omega)
        rw [ha',hds] at hcall
        clear S1
        go_wp2_with (go_at_fn 176;refine hcall.mono ?_;rintro e w1 ⟨rfl,d',S2,X,Y⟩;have XX:Hid (SwapAt (m - i) m j dk d'∧PermIn (m - i) (m+j) dk d'):=(⟨X,Y⟩:_∧_);have S3:Aside (SWK enc k w0 blk off d' w1):=S2;clear X Y S2)
        go_roundg (i - j+j)
        case measure=>omega
        case rel=>
          have hd':d'.size=d.size:=by rw [XX.out.1.1];exact hds
          have HH2:Hid ((∀d2,RotAt (m - (i - j)) m (m+j) d' d2→RotAt a m b d d2)∧PermIn a b d d'):=(⟨fun d2 h=>HH.out.1 d2 (rot_more hgt (by omega) XX.out.1 h),permIn_trans _ _ _ _ _ HH.out.2 (permIn_mono dk d' (m - i) (m+j) a b (by omega) (by omega) (by omega) XX.out.2)⟩:_∧_)
          exact ⟨i - j,j,d',by rw [show ((i - j:Nat):Int)=(i:Int) - (j:Int) by omega],rfl,by omega,hj0,by omega,hjm,Nat.le_refl _,hd',S3,HH2⟩
      · have hgz : ¬ (j : Int) < (i : Int) := by omega
        have ha':((m - i:Nat):Int)=(m:Int) - (i:Int):=by omega
        have hb':((m+j - i:Nat):Int)=(m:Int)+(j:Int) - (i:Int):=by omega
        have hcall:=swapRange_w FS L enc g cb blk off cap (m - i) (m+j - i) i d0 dk w0 wr R (by omega) S1.out (by omega) (by omega) (by omega)
        rw [ha',hb',hds] at hcall
        clear S1
        go_wp2_with (go_at_fn 176;refine hcall.mono ?_;rintro e w1 ⟨rfl,d',S2,X,Y⟩;have XX:Hid (SwapAt (m - i) (m+j - i) i dk d'∧PermIn (m - i) (m+j - i+i) dk d'):=(⟨X,Y⟩:_∧_);have S3:Aside (SWK enc k w0 blk off d' w1):=S2;clear X Y S2)
        go_roundg (i+(j - i))
        case measure=>omega
        case rel=>
          have hd':d'.size=d.size:=by rw [XX.out.1.1];exact hds
          have HH2:Hid ((∀d2,RotAt (m - i) m (m+(j - i)) d' d2→RotAt a m b d d2)∧PermIn a b d d'):=(⟨fun d2 h=>HH.out.1 d2 (rot_less (by omega) (by omega) XX.out.1 h),permIn_trans _ _ _ _ _ HH.out.2 (permIn_mono dk d' (m - i) (m+j - i+i) a b (by omega) (by omega) (by omega) XX.out.2)⟩:_∧_)
          exact ⟨i,j - i,d',rfl,by rw [show ((j - i:Nat):Int)=(j:Int) - (i:Int) by omega],hi0,by omega,him,by omega,Nat.le_refl _,hd',S3,HH2⟩
def SymR {α:Type} [Inhabited α] (P:Program) (enc:α→List Value) (cf:α→α→Int) (k g:Nat) (cb:Array Value) (blk off cap:Nat) (w0:World) (a m b:Nat) (d:Array α) (w:World):Prop:=
 Calls P 148 #[.slice (some ⟨blk,off,none⟩) d.size cap, .int .i64 a, .int .i64 m, .int .i64 b, .func (.func g) #[] cb] w fun e w'=>e= .returned (.tuple #[])∧ ∃d',SWK enc k w0 blk off d' w'∧SortedIn (ltOf cf) a b d'∧PermIn a b d d'
def SymN {α:Type} [Inhabited α] (P:Program) (enc:α→List Value) (cf:α→α→Int) (k g:Nat) (cb:Array Value) (blk off cap:Nat) (d0:Array α) (w0:World) (N:Nat):Prop:=
 ∀(a m b:Nat) (d:Array α) (w:World),b - a≤N→d0.size=d.size→SWK enc k w0 blk off d w→a<m→m<b→b≤d.size→SortedIn (ltOf cf) a m d→SortedIn (ltOf cf) m b d→SymR P enc cf k g cb blk off cap w0 a m b d w
set_option maxHeartbeats 8000000 in
set_option maxRecDepth 1000000 in
theorem symMerge_one {P:Program} {α:Type} [Inhabited α] (FS:P.funcs[176]?=some Try.f176) (FR:P.funcs[169]?=some Try.f169) (F:P.funcs[148]?=some Try.f148) {k:Nat} (L:SortT P k) (enc:α→List Value) (cf:α→α→Int) (g:Nat) (cb:Array Value) (blk off cap:Nat) (d0:Array α) (w0:World)
    (eg: ∀args w,(callFunc g args).run P w= .ok (.enter g args) w) (hcmp:CmpLays P g cb enc k cf blk off d0.size w0) (R:RowK enc k w0 blk off d0) (hO:SWO (ltOf cf)) (hsz:d0.size<2305843009213693952)
    (a m b:Nat) (d:Array α) (w:World) (c1:m=a+1) (hs:d0.size=d.size) (S:SWK enc k w0 blk off d w) (ham:a<m) (hmb:m<b) (hb:b≤d.size) (sA:SortedIn (ltOf cf) a m d) (sB:SortedIn (ltOf cf) m b d):SymR P enc cf k g cb blk off cap w0 a m b d w:=by
  unfold SymR
  have mixed:=L.mixed;have t0:=L.t0;have a0:=L.a0;have z0:=L.z0;have v0:=L.v0;have t3:=L.t3;have a3:=L.a3;have z3:=L.z3;have v3:=L.v3;have t4:=L.t4;have a4:=L.a4;have z4:=L.z4;have v4:=L.v4;have t5:=L.t5;have a5:=L.a5;have z5:=L.z5;have v5:=L.v5;have t22:=L.t22;have a22:=L.a22;have z22:=L.z22;have v22:=L.v22;have t25:=L.t25;have a25:=L.a25;have z25:=L.z25;have v25:=L.v25;have aE:=L.aE;have zE:=L.zE
  have u0:=run_underlying L.t0;have u3:=run_underlying L.t3;have u4:=run_underlying L.t4;have u5:=run_underlying L.t5;have u22:=run_underlying L.t22
  have eR: ∀args w,(callFunc 169 args).run P w= .ok (.enter 169 args) w:=enters_of FR (by kernel_rfl) rfl
  have eY: ∀args w,(callFunc 148 args).run P w= .ok (.enter 148 args) w:=enters_of F (by kernel_rfl) rfl
  have HC:Aside _:=hcmp
  have S0:Aside (SWK enc k w0 blk off d w):=S
  have SS:Hid (SortedIn (ltOf cf) a m d∧SortedIn (ltOf cf) m b d):=(⟨sA,sB⟩:_∧_)
  clear hcmp S sA sB
  have c1z:(m:Int) - (a:Int)=1:=by omega
  have C1:Hid (m=a+1):=c1
  clear c1
  go_enter F,Try.ntmps148
  go_wp2
  go_loopg [10,11] (b - a) (fun kx s10 s11 wr=> ∃lo hi:Nat,s10= .int .i64 lo∧s11= .int .i64 hi∧m≤lo∧lo≤hi∧hi≤b∧hi - lo≤kx∧Aside (SWK enc k w0 blk off d wr)∧Hid ((lo=m∨ltOf cf d[lo - 1]! d[a]! =true)∧(hi=b∨ltOf cf d[hi]! d[a]! =false)))
  case atStart=>exact ⟨m,b,rfl,rfl,Nat.le_refl _,by omega,Nat.le_refl _,by omega,S0,(⟨.inl rfl, .inl rfl⟩:_∧_)⟩
  case round=>
    clear S0
    obtain ⟨lo,hi,rfl,rfl,hml,hlh,hhb,hg,S1,I⟩:=hrel
    by_cases hlt:lo<hi
    · have hltz : (lo : Int) < (hi : Int) := by omega
      cases hlv:ltOf cf d[(lo+hi) / 2]! d[a]! with
      | true =>
        have eaht:(((lo:Int)+(hi:Int)) / 2).toNat=(lo+hi) / 2:=by omega
        have paht:(0:Int)≤((lo:Int)+(hi:Int)) / 2:=by omega
        have baht:((lo:Int)+(hi:Int)) / 2<(d.size:Int):=by omega
        have raht:IntKind.i64.wrap (((lo:Int)+(hi:Int)) / 2)=((lo:Int)+(hi:Int)) / 2:=by rw [IntKind.wrap_i64];omega
        have echt:((a:Int)).toNat=a:=by omega
        have pcht:(0:Int)≤(a:Int):=by omega
        have bcht:(a:Int)<(d.size:Int):=by omega
        have rcht:IntKind.i64.wrap ((a:Int))=(a:Int):=by rw [IntKind.wrap_i64];omega
        obtain ⟨xht,hxht⟩: ∃x,x=d[(lo+hi) / 2]!:=⟨_,rfl⟩
        obtain ⟨yht,hyht⟩: ∃x,x=d[a]!:=⟨_,rfl⟩
        have laht:=S1.out.ld R (by omega) P ((lo+hi) / 2) (by omega)
        have lbht:=S1.out.ld R (by omega) P (a) (by omega)
        rw [←hxht] at laht
        rw [←hyht] at lbht
        have hcht:=S1.out.cmp HC.out (by omega) xht yht
        have hvht:cf xht yht<0:=by rw [hxht,hyht];exact of_decide_eq_true hlv
        have hdht:decide (cf xht yht<0)=true:=decide_eq_true hvht
        clear hxht hyht
        go_wp2_with fail
        go_quiet_grown (first|(go_at_fn g;refine Calls.grown_of (hcht _ _)))
        have S2:Aside (SWK enc k w0 blk off d (grow (wr.drewN nq) osq)):=S1.out.grown nq osq
        clear laht lbht hcht S1
        generalize grow (wr.drewN nq) osq=w2 at S2 ⊢
        clear nq osq
        go_wp2
        go_roundg (hi - ((lo+hi) / 2+1))
        case measure=>omega
        case rel=>
          have I2:Hid ((((lo+hi) / 2+1)=m∨ltOf cf d[((lo+hi) / 2+1) - 1]! d[a]! =true)∧(hi=b∨ltOf cf d[hi]! d[a]! =false)):=(⟨.inr hlv,I.out.2⟩:_∧_)
          exact ⟨(lo+hi) / 2+1,hi,by rw [show ((lo:Int)+(hi:Int)) / 2+1=(((lo+hi) / 2+1:Nat):Int) by omega],rfl,by omega,by omega,by omega,Nat.le_refl _,S2,I2⟩
      | false =>
        have eahf:(((lo:Int)+(hi:Int)) / 2).toNat=(lo+hi) / 2:=by omega
        have pahf:(0:Int)≤((lo:Int)+(hi:Int)) / 2:=by omega
        have bahf:((lo:Int)+(hi:Int)) / 2<(d.size:Int):=by omega
        have rahf:IntKind.i64.wrap (((lo:Int)+(hi:Int)) / 2)=((lo:Int)+(hi:Int)) / 2:=by rw [IntKind.wrap_i64];omega
        have echf:((a:Int)).toNat=a:=by omega
        have pchf:(0:Int)≤(a:Int):=by omega
        have bchf:(a:Int)<(d.size:Int):=by omega
        have rchf:IntKind.i64.wrap ((a:Int))=(a:Int):=by rw [IntKind.wrap_i64];omega
        obtain ⟨xhf,hxhf⟩: ∃x,x=d[(lo+hi) / 2]!:=⟨_,rfl⟩
        obtain ⟨yhf,hyhf⟩: ∃x,x=d[a]!:=⟨_,rfl⟩
        have lahf:=S1.out.ld R (by omega) P ((lo+hi) / 2) (by omega)
        have lbhf:=S1.out.ld R (by omega) P (a) (by omega)
        rw [←hxhf] at lahf
        rw [←hyhf] at lbhf
        have hchf:=S1.out.cmp HC.out (by omega) xhf yhf
        have hvhf: ¬cf xhf yhf<0:=by rw [hxhf,hyhf];exact of_decide_eq_false hlv
        have hdhf:decide (cf xhf yhf<0)=false:=decide_eq_false hvhf
        clear hxhf hyhf
        go_wp2_with fail
        go_quiet_grown (first|(go_at_fn g;refine Calls.grown_of (hchf _ _)))
        have S2:Aside (SWK enc k w0 blk off d (grow (wr.drewN nq) osq)):=S1.out.grown nq osq
        clear lahf lbhf hchf S1
        generalize grow (wr.drewN nq) osq=w2 at S2 ⊢
        clear nq osq
        go_wp2
        go_roundg ((lo+hi) / 2 - lo)
        case measure=>omega
        case rel=>
          have I2:Hid ((lo=m∨ltOf cf d[lo - 1]! d[a]! =true)∧(((lo+hi) / 2)=b∨ltOf cf d[((lo+hi) / 2)]! d[a]! =false)):=(⟨I.out.1, .inr hlv⟩:_∧_)
          exact ⟨lo,(lo+hi) / 2,rfl,by rw [show ((lo:Int)+(hi:Int)) / 2=(((lo+hi) / 2:Nat):Int) by omega],by omega,by omega,by omega,Nat.le_refl _,S2,I2⟩
    · obtain rfl : hi = lo := by omega
      have hltz: ¬(hi:Int)<(hi:Int):=by omega
      go_wp2
      go_loopg [13] (b - a) (fun kx s13 wr2=> ∃(q:Nat) (dk:Array α),s13= .int .i64 q∧a≤q∧q+1≤hi∧hi - q≤kx∧dk.size=d.size∧Aside (SWK enc k w0 blk off dk wr2)∧Hid (RotAt a (a+1) (q+1) d dk∧PermIn a b d dk))
      case atStart=>exact ⟨a,d,rfl,Nat.le_refl _,by omega,by omega,rfl,S1,(⟨rot_right _ _ _,permIn_refl _ _ _⟩:_∧_)⟩
      case round=>
        clear S1
        obtain ⟨q,dk,rfl,haq,hqh,hg2,hds,S1,HH⟩:=hrel
        by_cases hq:q+1<hi
        · have hqz : (q : Int) < (hi : Int) - 1 := by omega
          go_wp2_with fail
          have eaq:((q:Int)).toNat=q:=by omega
          have paq:(0:Int)≤(q:Int):=by omega
          have baq:(q:Int)<(d.size:Int):=by omega
          have raq:IntKind.i64.wrap ((q:Int))=(q:Int):=by rw [IntKind.wrap_i64];omega
          have ecq:((q:Int)+1).toNat=q+1:=by omega
          have pcq:(0:Int)≤(q:Int)+1:=by omega
          have bcq:(q:Int)+1<(d.size:Int):=by omega
          have rcq:IntKind.i64.wrap ((q:Int)+1)=(q:Int)+1:=by rw [IntKind.wrap_i64];omega
          have S2:Aside (SWK enc k w0 blk off (swp dk (q) (q+1)) ((wr.drew.setCells blk (off+(q)*k) (enc dk[q+1]!)).setCells blk (off+(q+1)*k) (enc dk[q]!))):=S1.out.swapped R (q) (q+1) (by omega) (by omega)
          have laq:=S1.out.ld1 R (by omega) P (q) (by omega)
          have lbq:=S1.out.ld1 R (by omega) P (q+1) (by omega)
          have saq:=S1.out.st1 R (by omega) P (q) (by omega) dk[q+1]!
          have sbq:=S1.out.st2 R (by omega) P (q) (q+1) (by omega) (by omega) dk[q+1]! dk[q]!
          have naq:(enc dk[q]!).length=k:=R.hk _
          have nbq:(enc dk[q+1]!).length=k:=R.hk _
          generalize enc dk[q]! =cIq at S2 laq sbq naq
          generalize enc dk[q+1]! =cJq at S2 lbq saq sbq nbq
          clear S1
          go_wp2_with fail
          go_big_region_o
          clear laq lbq saq sbq
          generalize (wr.drew.setCells blk (off+(q)*k) cJq).setCells blk (off+(q+1)*k) cIq=w3 at S2 ⊢
          go_wp2
          go_roundg (hi - (q+1))
          case measure=>omega
          case rel=>
            have HH2:Hid (RotAt a (a+1) (q+1+1) d (swp dk q (q+1))∧PermIn a b d (swp dk q (q+1))):=(⟨rot_up HH.out.1 haq (by omega),permIn_trans _ _ _ _ _ HH.out.2 (swp_permIn dk a b q (q+1) (by omega) (by omega) (by omega) (by omega) (by omega))⟩:_∧_)
            exact ⟨q+1,swp dk q (q+1),by go_num,by omega,by omega,Nat.le_refl _,by rw [size_swp];exact hds,S2,HH2⟩
        · have hqz : ¬ (q : Int) < (hi : Int) - 1 := by omega
          go_wp2
          (try simp only [Exit.inBlock,Exit.then]);refine bodyPost_ret (results_none rfl _ _ _) rfl ?_
          refine ⟨rfl,dk,S1.out, ?_,HH.out.2⟩
          have hr:=HH.out.1
          rw [show q+1=hi by omega] at hr
          have sB:=SS.out.2
          rw [C1.out] at sB
          have i1:=I.out.1
          rw [C1.out] at i1
          exact ins_left hO hr (by omega) hhb sB (left_lt hO sB hhb i1) (left_ge hO sB (by omega) I.out.2)
set_option maxHeartbeats 8000000 in
set_option maxRecDepth 1000000 in
theorem symMerge_last {P:Program} {α:Type} [Inhabited α] (FS:P.funcs[176]?=some Try.f176) (FR:P.funcs[169]?=some Try.f169) (F:P.funcs[148]?=some Try.f148) {k:Nat} (L:SortT P k) (enc:α→List Value) (cf:α→α→Int) (g:Nat) (cb:Array Value) (blk off cap:Nat) (d0:Array α) (w0:World)
    (eg: ∀args w,(callFunc g args).run P w= .ok (.enter g args) w) (hcmp:CmpLays P g cb enc k cf blk off d0.size w0) (R:RowK enc k w0 blk off d0) (hO:SWO (ltOf cf)) (hsz:d0.size<2305843009213693952)
    (a m b:Nat) (d:Array α) (w:World) (c1: ¬m=a+1) (c2:b=m+1) (hs:d0.size=d.size) (S:SWK enc k w0 blk off d w) (ham:a<m) (hmb:m<b) (hb:b≤d.size) (sA:SortedIn (ltOf cf) a m d) (sB:SortedIn (ltOf cf) m b d):SymR P enc cf k g cb blk off cap w0 a m b d w:=by
  unfold SymR
  have mixed:=L.mixed;have t0:=L.t0;have a0:=L.a0;have z0:=L.z0;have v0:=L.v0;have t3:=L.t3;have a3:=L.a3;have z3:=L.z3;have v3:=L.v3;have t4:=L.t4;have a4:=L.a4;have z4:=L.z4;have v4:=L.v4;have t5:=L.t5;have a5:=L.a5;have z5:=L.z5;have v5:=L.v5;have t22:=L.t22;have a22:=L.a22;have z22:=L.z22;have v22:=L.v22;have t25:=L.t25;have a25:=L.a25;have z25:=L.z25;have v25:=L.v25;have aE:=L.aE;have zE:=L.zE
  have u0:=run_underlying L.t0;have u3:=run_underlying L.t3;have u4:=run_underlying L.t4;have u5:=run_underlying L.t5;have u22:=run_underlying L.t22
  have eR: ∀args w,(callFunc 169 args).run P w= .ok (.enter 169 args) w:=enters_of FR (by kernel_rfl) rfl
  have eY: ∀args w,(callFunc 148 args).run P w= .ok (.enter 148 args) w:=enters_of F (by kernel_rfl) rfl
  have HC:Aside _:=hcmp
  have S0:Aside (SWK enc k w0 blk off d w):=S
  have SS:Hid (SortedIn (ltOf cf) a m d∧SortedIn (ltOf cf) m b d):=(⟨sA,sB⟩:_∧_)
  clear hcmp S sA sB
  have c1z:((m:Int) - (a:Int)==1)=false:=by simp;omega
  have c2z:(b:Int) - (m:Int)=1:=by omega
  have C2:Hid (b=m+1):=c2
  clear c2
  go_enter F,Try.ntmps148
  go_wp2
  go_loopg [14,15] (b - a) (fun kx s10 s11 wr=> ∃lo hi:Nat,s10= .int .i64 lo∧s11= .int .i64 hi∧a≤lo∧lo≤hi∧hi≤m∧hi - lo≤kx∧Aside (SWK enc k w0 blk off d wr)∧Hid ((lo=a∨ltOf cf d[m]! d[lo - 1]! =false)∧(hi=m∨ltOf cf d[m]! d[hi]! =true)))
  case atStart=>exact ⟨a,m,rfl,rfl,Nat.le_refl _,by omega,Nat.le_refl _,by omega,S0,(⟨.inl rfl, .inl rfl⟩:_∧_)⟩
  case round=>
    clear S0
    obtain ⟨lo,hi,rfl,rfl,hml,hlh,hhb,hg,S1,I⟩:=hrel
    by_cases hlt:lo<hi
    · have hltz : (lo : Int) < (hi : Int) := by omega
      cases hlv:ltOf cf d[m]! d[(lo+hi) / 2]! with
      | true =>
        have eaht:((m:Int)).toNat=m:=by omega
        have paht:(0:Int)≤(m:Int):=by omega
        have baht:(m:Int)<(d.size:Int):=by omega
        have raht:IntKind.i64.wrap ((m:Int))=(m:Int):=by rw [IntKind.wrap_i64];omega
        have echt:(((lo:Int)+(hi:Int)) / 2).toNat=(lo+hi) / 2:=by omega
        have pcht:(0:Int)≤((lo:Int)+(hi:Int)) / 2:=by omega
        have bcht:((lo:Int)+(hi:Int)) / 2<(d.size:Int):=by omega
        have rcht:IntKind.i64.wrap (((lo:Int)+(hi:Int)) / 2)=((lo:Int)+(hi:Int)) / 2:=by rw [IntKind.wrap_i64];omega
        obtain ⟨xht,hxht⟩: ∃x,x=d[m]!:=⟨_,rfl⟩
        obtain ⟨yht,hyht⟩: ∃x,x=d[(lo+hi) / 2]!:=⟨_,rfl⟩
        have laht:=S1.out.ld R (by omega) P (m) (by omega)
        have lbht:=S1.out.ld R (by omega) P ((lo+hi) / 2) (by omega)
        rw [←hxht] at laht
        rw [←hyht] at lbht
        have hcht:=S1.out.cmp HC.out (by omega) xht yht
        have hvht:cf xht yht<0:=by rw [hxht,hyht];exact of_decide_eq_true hlv
        have hdht:decide (cf xht yht<0)=true:=decide_eq_true hvht
        clear hxht hyht
        go_wp2_with fail
        go_quiet_grown (first|(go_at_fn g;refine Calls.grown_of (hcht _ _)))
        have S2:Aside (SWK enc k w0 blk off d (grow (wr.drewN nq) osq)):=S1.out.grown nq osq
        clear laht lbht hcht S1
        generalize grow (wr.drewN nq) osq=w2 at S2 ⊢
        clear nq osq
        go_wp2
        go_roundg ((lo+hi) / 2 - lo)
        case measure=>omega
        case rel=>
          have I2:Hid ((lo=a∨ltOf cf d[m]! d[lo - 1]! =false)∧(((lo+hi) / 2)=m∨ltOf cf d[m]! d[((lo+hi) / 2)]! =true)):=(⟨I.out.1, .inr hlv⟩:_∧_)
          exact ⟨lo,(lo+hi) / 2,rfl,by rw [show ((lo:Int)+(hi:Int)) / 2=(((lo+hi) / 2:Nat):Int) by omega],by omega,by omega,by omega,Nat.le_refl _,S2,I2⟩
      | false =>
        have eahf:((m:Int)).toNat=m:=by omega
        have pahf:(0:Int)≤(m:Int):=by omega
        have bahf:(m:Int)<(d.size:Int):=by omega
        have rahf:IntKind.i64.wrap ((m:Int))=(m:Int):=by rw [IntKind.wrap_i64];omega
        have echf:(((lo:Int)+(hi:Int)) / 2).toNat=(lo+hi) / 2:=by omega
        have pchf:(0:Int)≤((lo:Int)+(hi:Int)) / 2:=by omega
        have bchf:((lo:Int)+(hi:Int)) / 2<(d.size:Int):=by omega
        have rchf:IntKind.i64.wrap (((lo:Int)+(hi:Int)) / 2)=((lo:Int)+(hi:Int)) / 2:=by rw [IntKind.wrap_i64];omega
        obtain ⟨xhf,hxhf⟩: ∃x,x=d[m]!:=⟨_,rfl⟩
        obtain ⟨yhf,hyhf⟩: ∃x,x=d[(lo+hi) / 2]!:=⟨_,rfl⟩
        have lahf:=S1.out.ld R (by omega) P (m) (by omega)
        have lbhf:=S1.out.ld R (by omega) P ((lo+hi) / 2) (by omega)
        rw [←hxhf] at lahf
        rw [←hyhf] at lbhf
        have hchf:=S1.out.cmp HC.out (by omega) xhf yhf
        have hvhf: ¬cf xhf yhf<0:=by rw [hxhf,hyhf];exact of_decide_eq_false hlv
        have hdhf:decide (cf xhf yhf<0)=false:=decide_eq_false hvhf
        clear hxhf hyhf
        go_wp2_with fail
        go_quiet_grown (first|(go_at_fn g;refine Calls.grown_of (hchf _ _)))
        have S2:Aside (SWK enc k w0 blk off d (grow (wr.drewN nq) osq)):=S1.out.grown nq osq
        clear lahf lbhf hchf S1
        generalize grow (wr.drewN nq) osq=w2 at S2 ⊢
        clear nq osq
        go_wp2
        go_roundg (hi - ((lo+hi) / 2+1))
        case measure=>omega
        case rel=>
          have I2:Hid ((((lo+hi) / 2+1)=a∨ltOf cf d[m]! d[((lo+hi) / 2+1) - 1]! =false)∧(hi=m∨ltOf cf d[m]! d[hi]! =true)):=(⟨.inr hlv,I.out.2⟩:_∧_)
          exact ⟨(lo+hi) / 2+1,hi,by rw [show ((lo:Int)+(hi:Int)) / 2+1=(((lo+hi) / 2+1:Nat):Int) by omega],rfl,by omega,by omega,by omega,Nat.le_refl _,S2,I2⟩
    · obtain rfl : hi = lo := by omega
      have hltz: ¬(hi:Int)<(hi:Int):=by omega
      go_wp2
      go_loopg [17] (b - a) (fun kx s17 wr2=> ∃(q:Nat) (dk:Array α),s17= .int .i64 q∧hi≤q∧q≤m∧q - hi≤kx∧dk.size=d.size∧Aside (SWK enc k w0 blk off dk wr2)∧Hid (RotAt q m (m+1) d dk∧PermIn a b d dk))
      case atStart=>exact ⟨m,d,rfl,by omega,Nat.le_refl _,by omega,rfl,S1,(⟨rot_left _ _ _,permIn_refl _ _ _⟩:_∧_)⟩
      case round=>
        clear S1
        obtain ⟨q,dk,rfl,haq,hqh,hg2,hds,S1,HH⟩:=hrel
        by_cases hq:hi<q
        · obtain ⟨q, rfl⟩ : ∃ p, q = p + 1 := ⟨q - 1, by omega⟩
          have hqz:(hi:Int)<(q:Int)+1:=by omega
          go_wp2_with fail
          have eaq:((q:Int)+1).toNat=q+1:=by omega
          have paq:(0:Int)≤(q:Int)+1:=by omega
          have baq:(q:Int)+1<(d.size:Int):=by omega
          have raq:IntKind.i64.wrap ((q:Int)+1)=(q:Int)+1:=by rw [IntKind.wrap_i64];omega
          have ecq:((q:Int)).toNat=q:=by omega
          have pcq:(0:Int)≤(q:Int):=by omega
          have bcq:(q:Int)<(d.size:Int):=by omega
          have rcq:IntKind.i64.wrap ((q:Int))=(q:Int):=by rw [IntKind.wrap_i64];omega
          have S2:Aside (SWK enc k w0 blk off (swp dk (q+1) (q)) ((wr.drew.setCells blk (off+(q+1)*k) (enc dk[q]!)).setCells blk (off+(q)*k) (enc dk[q+1]!))):=S1.out.swapped R (q+1) (q) (by omega) (by omega)
          have laq:=S1.out.ld1 R (by omega) P (q+1) (by omega)
          have lbq:=S1.out.ld1 R (by omega) P (q) (by omega)
          have saq:=S1.out.st1 R (by omega) P (q+1) (by omega) dk[q]!
          have sbq:=S1.out.st2 R (by omega) P (q+1) (q) (by omega) (by omega) dk[q]! dk[q+1]!
          have naq:(enc dk[q+1]!).length=k:=R.hk _
          have nbq:(enc dk[q]!).length=k:=R.hk _
          generalize enc dk[q+1]! =cIq at S2 laq sbq naq
          generalize enc dk[q]! =cJq at S2 lbq saq sbq nbq
          clear S1
          go_wp2_with fail
          go_big_region_o
          clear laq lbq saq sbq
          generalize (wr.drew.setCells blk (off+(q+1)*k) cJq).setCells blk (off+(q)*k) cIq=w3 at S2 ⊢
          go_wp2
          go_roundg (q - hi)
          case measure=>omega
          case rel=>
            have HH2:Hid (RotAt q m (m+1) d (swp dk (q+1) q)∧PermIn a b d (swp dk (q+1) q)):=(⟨rot_down HH.out.1 (by omega) (by omega),permIn_trans _ _ _ _ _ HH.out.2 (swp_permIn dk a b (q+1) q (by omega) (by omega) (by omega) (by omega) (by omega))⟩:_∧_)
            exact ⟨q,swp dk (q+1) q,by go_num,by omega,by omega,Nat.le_refl _,by rw [size_swp];exact hds,S2,HH2⟩
        · have hqz : ¬ (hi : Int) < (q : Int) := by omega
          go_wp2
          (try simp only [Exit.inBlock,Exit.then]);refine bodyPost_ret (results_none rfl _ _ _) rfl ?_
          refine ⟨rfl,dk,S1.out, ?_,HH.out.2⟩
          have hr:=HH.out.1
          rw [show q=hi by omega] at hr
          rw [C2.out]
          exact ins_right_ hO hr hml hhb SS.out.1 (right_le hO SS.out.1 hhb I.out.1) (right_gt hO SS.out.1 hml I.out.2)
set_option maxHeartbeats 8000000 in
set_option maxRecDepth 1000000 in
theorem symMerge_big {P:Program} {α:Type} [Inhabited α] (FS:P.funcs[176]?=some Try.f176) (FR:P.funcs[169]?=some Try.f169) (F:P.funcs[148]?=some Try.f148) {k:Nat} (L:SortT P k) (enc:α→List Value) (cf:α→α→Int) (g:Nat) (cb:Array Value) (blk off cap:Nat) (d0:Array α) (w0:World)
    (eg: ∀args w,(callFunc g args).run P w= .ok (.enter g args) w) (hcmp:CmpLays P g cb enc k cf blk off d0.size w0) (R:RowK enc k w0 blk off d0) (hO:SWO (ltOf cf)) (hsz:d0.size<2305843009213693952) (N:Nat) (ih:SymN P enc cf k g cb blk off cap d0 w0 N)
    (a m b:Nat) (d:Array α) (w:World) (hN:b - a≤N+1) (c1: ¬m=a+1) (c2: ¬b=m+1) (hs:d0.size=d.size) (S:SWK enc k w0 blk off d w) (ham:a<m) (hmb:m<b) (hb:b≤d.size) (sA:SortedIn (ltOf cf) a m d) (sB:SortedIn (ltOf cf) m b d):SymR P enc cf k g cb blk off cap w0 a m b d w:=by
  unfold SymR
  have mixed:=L.mixed;have t0:=L.t0;have a0:=L.a0;have z0:=L.z0;have v0:=L.v0;have t3:=L.t3;have a3:=L.a3;have z3:=L.z3;have v3:=L.v3;have t4:=L.t4;have a4:=L.a4;have z4:=L.z4;have v4:=L.v4;have t5:=L.t5;have a5:=L.a5;have z5:=L.z5;have v5:=L.v5;have t22:=L.t22;have a22:=L.a22;have z22:=L.z22;have v22:=L.v22;have t25:=L.t25;have a25:=L.a25;have z25:=L.z25;have v25:=L.v25;have aE:=L.aE;have zE:=L.zE
  have u0:=run_underlying L.t0;have u3:=run_underlying L.t3;have u4:=run_underlying L.t4;have u5:=run_underlying L.t5;have u22:=run_underlying L.t22
  have eR: ∀args w,(callFunc 169 args).run P w= .ok (.enter 169 args) w:=enters_of FR (by kernel_rfl) rfl
  have eY: ∀args w,(callFunc 148 args).run P w= .ok (.enter 148 args) w:=enters_of F (by kernel_rfl) rfl
  have HC:Aside _:=hcmp
  have S0:Aside (SWK enc k w0 blk off d w):=S
  have SS:Hid (SortedIn (ltOf cf) a m d∧SortedIn (ltOf cf) m b d):=(⟨sA,sB⟩:_∧_)
  have IH:Hid _:=ih
  clear hcmp S sA sB ih
  have c1z:((m:Int) - (a:Int)==1)=false:=by simp;omega
  have c2z:((b:Int) - (m:Int)==1)=false:=by simp;omega
  obtain ⟨mid,hmid⟩: ∃mid:Nat,2*mid≤a+b∧a+b≤2*mid+1:=⟨(a+b) / 2,by omega⟩
  have hmz:((a:Int)+(b:Int)) / 2=(mid:Int):=by omega
  obtain ⟨pz,hpz⟩: ∃p:Nat,p+1≤mid+m∧mid+m≤p+1:=⟨mid+m - 1,by omega⟩
  have hpq:(mid:Int)+(m:Int) - 1=(pz:Int):=by omega
  go_enter F,Try.ntmps148
  have HMZ:Hid _:=hmz
  clear hmz
  go_upto_region 25 with (fail)
  rw [HMZ.out]
  go_upto_if 140 with (fail)
  go_cut [20,21] (fun v20 v21 wc=> ∃lo hi:Nat,v20= .int .i64 lo∧v21= .int .i64 hi∧a≤lo∧lo≤hi∧hi≤m∧hi≤mid∧mid+m - lo≤b∧m≤mid+m - hi∧Aside (SWK enc k w0 blk off d wc)∧Hid (((lo=a∨mid+m - lo=b)∨ltOf cf d[mid+m - lo]! d[lo - 1]! =false)∧((hi=m∨mid+m - hi=m)∨ltOf cf d[mid+m - hi - 1]! d[hi]! =true)))
  case first=>
    as_aux_lemma=>
      by_cases hgt:mid<m
      · have hgz : (mid : Int) < (m : Int) := by omega
        go_wp2
        go_meet
        case rel=>exact ⟨mid+m - b,mid,by rw [show ((mid+m - b:Nat):Int)=(mid:Int)+(m:Int) - (b:Int) by omega],rfl,by omega,by omega,by omega,Nat.le_refl _,by omega,by omega,S0,(⟨.inl (.inr (by omega)), .inl (.inr (by omega))⟩:_∧_)⟩
      · have hgz : ¬ (mid : Int) < (m : Int) := by omega
        go_wp2
        go_meet
        case rel=>exact ⟨a,m,rfl,rfl,by omega,by omega,Nat.le_refl _,by omega,by omega,by omega,S0,(⟨.inl (.inl rfl), .inl (.inl rfl)⟩:_∧_)⟩
  case rest=>
    clear S0
    obtain ⟨lo0,hi0,rfl,rfl,b1,b2,b3,b4,b5,b6,S0,I0⟩:=hcut
    go_wp2
    go_loopg [20,21] (b - a) (fun kx s20 s21 wr=> ∃lo hi:Nat,s20= .int .i64 lo∧s21= .int .i64 hi∧lo0≤lo∧lo≤hi∧hi≤hi0∧hi - lo≤kx∧Aside (SWK enc k w0 blk off d wr)∧Hid (((lo=a∨mid+m - lo=b)∨ltOf cf d[mid+m - lo]! d[lo - 1]! =false)∧((hi=m∨mid+m - hi=m)∨ltOf cf d[mid+m - hi - 1]! d[hi]! =true)))
    case atStart=>exact ⟨lo0,hi0,rfl,rfl,Nat.le_refl _,by omega,Nat.le_refl _,by omega,S0,I0⟩
    case round=>
      clear S0 I0
      obtain ⟨lo,hi,rfl,rfl,hml,hlh,hhb,hg,S1,I⟩:=hrel
      by_cases hlt:lo<hi
      · have hltz : (lo : Int) < (hi : Int) := by omega
        obtain ⟨xq,hxq⟩: ∃x:Nat,x+(lo+hi) / 2≤pz∧pz≤x+(lo+hi) / 2:=⟨pz - (lo+hi) / 2,by omega⟩
        have hxd:(pz:Int) - ((lo:Int)+(hi:Int)) / 2=(xq:Int):=by omega
        cases hlv:ltOf cf d[xq]! d[(lo+hi) / 2]! with
        | true =>
          have eaht:((xq:Int)).toNat=xq:=by omega
          have paht:(0:Int)≤(xq:Int):=by omega
          have baht:(xq:Int)<(d.size:Int):=by omega
          have raht:IntKind.i64.wrap ((xq:Int))=(xq:Int):=by rw [IntKind.wrap_i64];omega
          have echt:(((lo:Int)+(hi:Int)) / 2).toNat=(lo+hi) / 2:=by omega
          have pcht:(0:Int)≤((lo:Int)+(hi:Int)) / 2:=by omega
          have bcht:((lo:Int)+(hi:Int)) / 2<(d.size:Int):=by omega
          have rcht:IntKind.i64.wrap (((lo:Int)+(hi:Int)) / 2)=((lo:Int)+(hi:Int)) / 2:=by rw [IntKind.wrap_i64];omega
          obtain ⟨xht,hxht⟩: ∃x,x=d[xq]!:=⟨_,rfl⟩
          obtain ⟨yht,hyht⟩: ∃x,x=d[(lo+hi) / 2]!:=⟨_,rfl⟩
          have laht:=S1.out.ld R (by omega) P (xq) (by omega)
          have lbht:=S1.out.ld R (by omega) P ((lo+hi) / 2) (by omega)
          rw [←hxht] at laht
          rw [←hyht] at lbht
          have hcht:=S1.out.cmp HC.out (by omega) xht yht
          have hvht:cf xht yht<0:=by rw [hxht,hyht];exact of_decide_eq_true hlv
          have hdht:decide (cf xht yht<0)=true:=decide_eq_true hvht
          clear hxht hyht
          go_wp2_with fail
          go_quiet_grown (first|(go_at_fn g;refine Calls.grown_of (hcht _ _)))
          have S2:Aside (SWK enc k w0 blk off d (grow (wr.drewN nq) osq)):=S1.out.grown nq osq
          clear laht lbht hcht S1
          generalize grow (wr.drewN nq) osq=w2 at S2 ⊢
          clear nq osq
          go_wp2
          go_roundg ((lo+hi) / 2 - lo)
          case measure=>omega
          case rel=>
            have I2:Hid (((lo=a∨mid+m - lo=b)∨ltOf cf d[mid+m - lo]! d[lo - 1]! =false)∧((((lo+hi) / 2)=m∨mid+m - ((lo+hi) / 2)=m)∨ltOf cf d[mid+m - ((lo+hi) / 2) - 1]! d[((lo+hi) / 2)]! =true)):=(⟨I.out.1, .inr (by rw [show mid+m - ((lo+hi) / 2) - 1=xq by omega];exact hlv)⟩:_∧_)
            exact ⟨lo,(lo+hi) / 2,rfl,by rw [show ((lo:Int)+(hi:Int)) / 2=(((lo+hi) / 2:Nat):Int) by omega],by omega,by omega,by omega,Nat.le_refl _,S2,I2⟩
        | false =>
          have eahf:((xq:Int)).toNat=xq:=by omega
          have pahf:(0:Int)≤(xq:Int):=by omega
          have bahf:(xq:Int)<(d.size:Int):=by omega
          have rahf:IntKind.i64.wrap ((xq:Int))=(xq:Int):=by rw [IntKind.wrap_i64];omega
          have echf:(((lo:Int)+(hi:Int)) / 2).toNat=(lo+hi) / 2:=by omega
          have pchf:(0:Int)≤((lo:Int)+(hi:Int)) / 2:=by omega
          have bchf:((lo:Int)+(hi:Int)) / 2<(d.size:Int):=by omega
          have rchf:IntKind.i64.wrap (((lo:Int)+(hi:Int)) / 2)=((lo:Int)+(hi:Int)) / 2:=by rw [IntKind.wrap_i64];omega
          obtain ⟨xhf,hxhf⟩: ∃x,x=d[xq]!:=⟨_,rfl⟩
          obtain ⟨yhf,hyhf⟩: ∃x,x=d[(lo+hi) / 2]!:=⟨_,rfl⟩
          have lahf:=S1.out.ld R (by omega) P (xq) (by omega)
          have lbhf:=S1.out.ld R (by omega) P ((lo+hi) / 2) (by omega)
          rw [←hxhf] at lahf
          rw [←hyhf] at lbhf
          have hchf:=S1.out.cmp HC.out (by omega) xhf yhf
          have hvhf: ¬cf xhf yhf<0:=by rw [hxhf,hyhf];exact of_decide_eq_false hlv
          have hdhf:decide (cf xhf yhf<0)=false:=decide_eq_false hvhf
          clear hxhf hyhf
          go_wp2_with fail
          go_quiet_grown (first|(go_at_fn g;refine Calls.grown_of (hchf _ _)))
          have S2:Aside (SWK enc k w0 blk off d (grow (wr.drewN nq) osq)):=S1.out.grown nq osq
          clear lahf lbhf hchf S1
          generalize grow (wr.drewN nq) osq=w2 at S2 ⊢
          clear nq osq
          go_wp2
          go_roundg (hi - ((lo+hi) / 2+1))
          case measure=>omega
          case rel=>
            have I2:Hid (((((lo+hi) / 2+1)=a∨mid+m - ((lo+hi) / 2+1)=b)∨ltOf cf d[mid+m - ((lo+hi) / 2+1)]! d[((lo+hi) / 2+1) - 1]! =false)∧((hi=m∨mid+m - hi=m)∨ltOf cf d[mid+m - hi - 1]! d[hi]! =true)):=(⟨.inr (by rw [show mid+m - ((lo+hi) / 2+1)=xq by omega];exact hlv),I.out.2⟩:_∧_)
            exact ⟨(lo+hi) / 2+1,hi,by rw [show ((lo:Int)+(hi:Int)) / 2+1=(((lo+hi) / 2+1:Nat):Int) by omega],rfl,by omega,by omega,by omega,Nat.le_refl _,S2,I2⟩
      · obtain rfl : hi = lo := by omega
        have hltz: ¬(hi:Int)<(hi:Int):=by omega
        obtain ⟨e,he⟩: ∃e:Nat,e+hi≤mid+m∧mid+m≤e+hi:=⟨mid+m - hi,by omega⟩
        have hez:(mid:Int)+(m:Int) - (hi:Int)=(e:Int):=by omega
        have IE:Hid (((hi=a∨e=b)∨ltOf cf d[e]! d[hi - 1]! =false)∧((hi=m∨e=m)∨ltOf cf d[e - 1]! d[hi]! =true)):=by rw [show e=mid+m - hi by omega];exact I
        clear I
        go_upto_region 39 with (fail)
        go_cut [185] (fun v wc=> ∃q:Bool,v= .bool q∧Hid (q=true↔(hi<m∧m<e))∧Aside (SWK enc k w0 blk off d wc))
        case first=>
          as_aux_lemma=>
            by_cases hr1:hi<m
            · have hr1z : (hi : Int) < (m : Int) := by omega
              by_cases hr2:m<e
              · have hr2z : (m : Int) < (e : Int) := by omega
                go_wp2
                go_meet
                case rel=>exact ⟨true,rfl,(show Hid _ from (⟨fun _=>⟨hr1,hr2⟩,fun _=>rfl⟩:true=true↔(hi<m∧m<e))),S1⟩
              · have hr2z : ¬ (m : Int) < (e : Int) := by omega
                go_wp2
                go_meet
                case rel=>exact ⟨false,rfl,(show Hid _ from (⟨fun h=>absurd h (by simp),fun h=>absurd h.2 hr2⟩:false=true↔(hi<m∧m<e))),S1⟩
            · have hr1z : ¬ (hi : Int) < (m : Int) := by omega
              go_wp2
              go_meet
              case rel=>exact ⟨false,rfl,(show Hid _ from (⟨fun h=>absurd h (by simp),fun h=>absurd h.1 hr1⟩:false=true↔(hi<m∧m<e))),S1⟩
        case rest=>
        clear S1
        obtain ⟨q,rfl,Q,S1⟩:=hcut
        go_upto_if 185 with (fail)
        go_cut [] (fun wc=> ∃d1:Array α,Aside (SWK enc k w0 blk off d1 wc)∧Hid (Turned_ (ltOf cf) a hi mid e b d d1))
        case first=>
          as_aux_lemma=>
            cases q with
            | true =>
              have hr:=Q.out.1 rfl
              have hcall:=rotate_w FS FR L enc g cb blk off cap hi m e d0 d w0 wc R hs S1.out hr.1 hr.2 (by omega) (by omega)
              clear S1 hr
              go_wp2_with (go_at_fn 169;refine hcall.mono ?_;rintro e_ w1 ⟨rfl,d1,S2,X,Y⟩;have S3:Aside (SWK enc k w0 blk off d1 w1):=S2;have T:Hid (Turned_ (ltOf cf) a hi mid e b d d1):=turned_of hO (permIn_mono d d1 hi e a b (by omega) (by omega) (by omega) Y) X (by omega) (by omega) (by omega) (by omega) (by omega) SS.out.1 SS.out.2 IE.out.1 IE.out.2;clear X Y S2)
              go_meet
              case rel=>exact ⟨d1,S3,T⟩
            | false =>
              have hr: ¬(hi<m∧m<e):=fun h=>by have:=Q.out.2 h;simp at this
              have T:Hid (Turned_ (ltOf cf) a hi mid e b d d):=turned_of hO (permIn_refl _ _ _) (by
                by_cases q:hi=m
                · rw [q];exact rot_left _ _ _
                · rw [show e=m by omega];exact rot_right _ _ _) (by omega) (by omega) (by omega) (by omega) (by omega) SS.out.1 SS.out.2 IE.out.1 IE.out.2
              clear hr
              go_wp2
              go_meet
              case rel=>exact ⟨d,S1,T⟩
        case rest=>
          clear S1 IE
          obtain ⟨d1,S1,T⟩:=hcut
          clear Q
          have hd1:d1.size=d.size:=T.out.perm.1
          go_upto_region 41 with (fail)
          go_cut [199] (fun v wc=> ∃q:Bool,v= .bool q∧Hid (q=true↔(a<hi∧hi<mid))∧Aside (SWK enc k w0 blk off d1 wc))
          case first=>
            as_aux_lemma=>
              by_cases hr1:a<hi
              · have hr1z : (a : Int) < (hi : Int) := by omega
                by_cases hr2:hi<mid
                · have hr2z : (hi : Int) < (mid : Int) := by omega
                  go_wp2
                  go_meet
                  case rel=>exact ⟨true,rfl,(show Hid _ from (⟨fun _=>⟨hr1,hr2⟩,fun _=>rfl⟩:true=true↔(a<hi∧hi<mid))),S1⟩
                · have hr2z : ¬ (hi : Int) < (mid : Int) := by omega
                  go_wp2
                  go_meet
                  case rel=>exact ⟨false,rfl,(show Hid _ from (⟨fun h=>absurd h (by simp),fun h=>absurd h.2 hr2⟩:false=true↔(a<hi∧hi<mid))),S1⟩
              · have hr1z : ¬ (a : Int) < (hi : Int) := by omega
                go_wp2
                go_meet
                case rel=>exact ⟨false,rfl,(show Hid _ from (⟨fun h=>absurd h (by simp),fun h=>absurd h.1 hr1⟩:false=true↔(a<hi∧hi<mid))),S1⟩
          case rest=>
          clear S1
          obtain ⟨q,rfl,Q,S1⟩:=hcut
          go_upto_if 199 with (fail)
          go_cut [] (fun wc=> ∃d2:Array α,Aside (SWK enc k w0 blk off d2 wc)∧Hid (SortedIn (ltOf cf) a mid d2∧PermIn a mid d1 d2))
          case first=>
            as_aux_lemma=>
              cases q with
              | true =>
                have hr:=Q.out.1 rfl
                have hcall:SymR P enc cf k g cb blk off cap w0 a hi mid d1 wc:=IH.out a hi mid d1 wc (by omega) (by omega) S1.out hr.1 hr.2 (by omega) T.out.s1 T.out.s2
                unfold SymR at hcall
                rw [hd1] at hcall
                clear S1 hr
                go_wp2_with (go_at_fn 148;refine hcall.mono ?_;rintro e_ w1 ⟨rfl,d2,S2,X,Y⟩;have S3:Aside (SWK enc k w0 blk off d2 w1):=S2;have T2:Hid (SortedIn (ltOf cf) a mid d2∧PermIn a mid d1 d2):=(⟨X,Y⟩:_∧_);clear X Y S2)
                go_meet
                case rel=>exact ⟨d2,S3,T2⟩
              | false =>
                have hr: ¬(a<hi∧hi<mid):=fun h=>by have:=Q.out.2 h;simp at this
                have T2:Hid (SortedIn (ltOf cf) a mid d1∧PermIn a mid d1 d1):=(⟨sorted_whole T.out.s1 T.out.s2 hr,permIn_refl _ _ _⟩:_∧_)
                clear hr
                go_wp2
                go_meet
                case rel=>exact ⟨d1,S1,T2⟩
          case rest=>
            clear S1 Q
            obtain ⟨d2,S1,T2⟩:=hcut
            have hd2:d2.size=d.size:=by rw [T2.out.2.1];exact hd1
            have s3:SortedIn (ltOf cf) mid e d2:=sorted_congr T.out.s3 (fun q h1 _=>T2.out.2.2.1 q (.inr h1))
            have s4:SortedIn (ltOf cf) e b d2:=sorted_congr T.out.s4 (fun q h1 _=>T2.out.2.2.1 q (.inr (by omega)))
            have S34:Hid (SortedIn (ltOf cf) mid e d2∧SortedIn (ltOf cf) e b d2):=(⟨s3,s4⟩:_∧_)
            clear s3 s4
            have fin: ∀d3,SortedIn (ltOf cf) mid b d3→PermIn mid b d2 d3→SortedIn (ltOf cf) a b d3∧PermIn a b d d3:=fun d3 q1 q2=>by
              obtain ⟨z1,z2⟩:=sym_join (by omega) (by omega) (by omega) T.out.x T2.out.2 T2.out.1 q2 q1
              exact ⟨z1,permIn_trans _ _ _ _ _ T.out.perm z2⟩
            have FIN:Hid _:=fin
            clear fin
            by_cases hr:mid<e∧e<b
            · have hr1 : (mid : Int) < (e : Int) := by omega
              have hr2:(e:Int)<(b:Int):=by omega
              have hcall:SymR P enc cf k g cb blk off cap w0 mid e b d2 wc:=IH.out mid e b d2 wc (by omega) (by omega) S1.out hr.1 hr.2 (by omega) S34.out.1 S34.out.2
              unfold SymR at hcall
              rw [hd2] at hcall
              clear S1
              go_wp2_with (go_at_fn 148;refine hcall.mono ?_;rintro e_ w1 ⟨rfl,d3,S2,X,Y⟩;have S3:Aside (SWK enc k w0 blk off d3 w1):=S2;have T3:Hid (SortedIn (ltOf cf) mid b d3∧PermIn mid b d2 d3):=(⟨X,Y⟩:_∧_);clear X Y S2)
              go_end0
              exact ⟨rfl,d3,S3.out,FIN.out d3 T3.out.1 T3.out.2⟩
            · have T3 : Hid (SortedIn (ltOf cf) mid b d2) := sorted_whole S34.out.1 S34.out.2 hr
              by_cases hr1:mid<e
              · have hr1z : (mid : Int) < (e : Int) := by omega
                have hr2z: ¬(e:Int)<(b:Int):=by omega
                go_wp2
                go_end0
                exact ⟨rfl,d2,S1.out,FIN.out d2 T3.out (permIn_refl _ _ _)⟩
              · have hr1z : ¬ (mid : Int) < (e : Int) := by omega
                go_wp2
                go_end0
                exact ⟨rfl,d2,S1.out,FIN.out d2 T3.out (permIn_refl _ _ _)⟩
theorem symMerge_w {P:Program} {α:Type} [Inhabited α] (FS:P.funcs[176]?=some Try.f176) (FR:P.funcs[169]?=some Try.f169) (F:P.funcs[148]?=some Try.f148) {k:Nat} (L:SortT P k) (enc:α→List Value) (cf:α→α→Int) (g:Nat) (cb:Array Value) (blk off cap:Nat) (d0:Array α) (w0:World)
    (eg: ∀args w,(callFunc g args).run P w= .ok (.enter g args) w) (hcmp:CmpLays P g cb enc k cf blk off d0.size w0) (R:RowK enc k w0 blk off d0) (hO:SWO (ltOf cf)) (hsz:d0.size<2305843009213693952): ∀N,SymN P enc cf k g cb blk off cap d0 w0 N
  |0=>fun a m b d w h1 _ _ h2 h3=>by omega
  | N + 1 => fun a m b d w hN hs S ham hmb hb sA sB => by
    by_cases c1:m=a+1
    · exact symMerge_one FS FR F L enc cf g cb blk off cap d0 w0 eg hcmp R hO hsz a m b d w c1 hs S ham hmb hb sA sB
    · by_cases c2 : b = m + 1
      · exact symMerge_last FS FR F L enc cf g cb blk off cap d0 w0 eg hcmp R hO hsz a m b d w c1 c2 hs S ham hmb hb sA sB
      · exact symMerge_big FS FR F L enc cf g cb blk off cap d0 w0 eg hcmp R hO hsz N (symMerge_w FS FR F L enc cf g cb blk off cap d0 w0 eg hcmp R hO hsz N) a m b d w hN c1 c2 hs S ham hmb hb sA sB
def InsN {α:Type} [Inhabited α] (P:Program) (enc:α→List Value) (cf:α→α→Int) (k g:Nat) (cb:Array Value) (blk off cap:Nat) (d0:Array α) (w0:World):Prop:=
  ∀ (a b : Nat) (d : Array α) (w : World), d0.size = d.size → SWK enc k w0 blk off d w → a ≤ b → b ≤ d.size →
    Calls P 147 #[.slice (some ⟨blk,off,none⟩) d.size cap, .int .i64 a, .int .i64 b, .func (.func g) #[] cb] w fun e w'=>e= .returned (.tuple #[])∧ ∃d',SWK enc k w0 blk off d' w'∧SortedIn (ltOf cf) a b d'∧PermIn a b d d'
set_option maxHeartbeats 8000000 in
set_option maxRecDepth 1000000 in
theorem stable_w {P:Program} {α:Type} [Inhabited α] (FI:P.funcs[147]?=some Try.f147) (FY:P.funcs[148]?=some Try.f148) (F:P.funcs[116]?=some Try.f116) {k:Nat} (L:SortT P k) (enc:α→List Value) (cf:α→α→Int) (g:Nat) (cb:Array Value) (blk off cap:Nat) (d0:Array α) (w0:World)
    (HI:InsN P enc cf k g cb blk off cap d0 w0) (HY: ∀N,SymN P enc cf k g cb blk off cap d0 w0 N) (hsz:d0.size<576460752303423488) (d:Array α) (w:World) (hs:d0.size=d.size) (S:SWK enc k w0 blk off d w):
    Calls P 116 #[.slice (some ⟨blk,off,none⟩) d.size cap, .int .i64 d.size, .func (.func g) #[] cb] w fun e w'=>e= .returned (.tuple #[])∧ ∃d',SWK enc k w0 blk off d' w'∧SortedIn (ltOf cf) 0 d.size d'∧PermIn 0 d.size d d':=by
  have mixed:=L.mixed;have t0:=L.t0;have a0:=L.a0;have z0:=L.z0;have v0:=L.v0;have t3:=L.t3;have a3:=L.a3;have z3:=L.z3;have v3:=L.v3;have t4:=L.t4;have a4:=L.a4;have z4:=L.z4;have v4:=L.v4;have t5:=L.t5;have a5:=L.a5;have z5:=L.z5;have v5:=L.v5;have t22:=L.t22;have a22:=L.a22;have z22:=L.z22;have v22:=L.v22;have t25:=L.t25;have a25:=L.a25;have z25:=L.z25;have v25:=L.v25;have aE:=L.aE;have zE:=L.zE
  have u0:=run_underlying L.t0;have u3:=run_underlying L.t3;have u4:=run_underlying L.t4;have u5:=run_underlying L.t5;have u22:=run_underlying L.t22
  have eI: ∀args w,(callFunc 147 args).run P w= .ok (.enter 147 args) w:=enters_of FI (by kernel_rfl) rfl
  have eY: ∀args w,(callFunc 148 args).run P w= .ok (.enter 148 args) w:=enters_of FY (by kernel_rfl) rfl
  have S0:Aside (SWK enc k w0 blk off d w):=S
  have HII:Hid _:=HI
  have HYY:Hid _:=HY
  clear S HI HY
  obtain ⟨n,hn⟩: ∃n,n=d.size:=⟨_,rfl⟩
  rw [←hn]
  have HN:Hid (n=d.size):=hn
  have hn1:n≤d.size∧d.size≤n:=by omega
  clear hn
  go_enter F,Try.ntmps116
  go_wp2
  go_loopg [7,8] (n+1) (fun kx s7 s8 wr=> ∃(t a:Nat) (dk:Array α),s7= .int .i64 a∧s8= .int .i64 ((a:Int)+20)∧a≤n∧n - a≤kx∧dk.size=n∧Aside (SWK enc k w0 blk off dk wr)∧Hid (a=t*20∧Upto (ltOf cf) 20 n t dk∧PermIn 0 n d dk))
  case atStart=>exact ⟨0,0,d,rfl,rfl,by omega,by omega,HN.out.symm,S0,(⟨by omega,fun c hc=>by omega,permIn_refl _ _ _⟩:_∧_∧_)⟩
  case round=>
    clear S0
    obtain ⟨t,a,dk,rfl,rfl,han,hkx,hds,S1,HH⟩:=hrel
    have HD:Hid (dk.size=n):=hds
    have hd1:dk.size≤n∧n≤dk.size:=by omega
    clear hds
    by_cases hlt:a+20≤n
    · have hltz : (a : Int) + 20 ≤ (n : Int) := by omega
      have hcall:=HII.out a (a+20) dk wr (by omega) S1.out (by omega) (by omega)
      rw [show ((a+20:Nat):Int)=(a:Int)+20 by omega,HD.out] at hcall
      clear S1
      go_wp2_with (go_at_fn 147;refine hcall.mono ?_;rintro e_ w1 ⟨rfl,d1,S2,X,Y⟩;have S3:Aside (SWK enc k w0 blk off d1 w1):=S2;have T:Hid (SortedIn (ltOf cf) a (a+20) d1∧PermIn a (a+20) dk d1):=(⟨X,Y⟩:_∧_);clear X Y S2)
      go_roundg (n - (a+20))
      case measure=>omega
      case rel=>
        have HH2:Hid (a+20=(t+1)*20∧Upto (ltOf cf) 20 n (t+1) d1∧PermIn 0 n d d1):=by
          obtain ⟨q1,q2,q3⟩:=HH.out
          have e1:t*20=a:=q1.symm
          have e2:min (t*20+20) n=a+20:=by omega
          show _∧_∧_
          exact ⟨by omega,upto_step q2 (by rw [e1,←e1,e2,e1];exact T.out.2) (by rw [e2,e1];exact T.out.1),part_perm q3 T.out.2 hlt (by omega)⟩
        exact ⟨t+1,a+20,d1,by rw [show ((a+20:Nat):Int)=(a:Int)+20 by omega],by rw [show ((a+20:Nat):Int)=(a:Int)+20 by omega],hlt,Nat.le_refl _,by rw [T.out.2.1];exact HD.out,S3,HH2⟩
    · have hltz : ¬ (a : Int) + 20 ≤ (n : Int) := by omega
      have hcall:=HII.out a n dk wr (by omega) S1.out (by omega) (by omega)
      rw [HD.out] at hcall
      clear S1
      go_wp2_with (go_at_fn 147;refine hcall.mono ?_;rintro e_ w1 ⟨rfl,d1,S2,X,Y⟩;have S3:Aside (SWK enc k w0 blk off d1 w1):=S2;have T:Hid (SortedIn (ltOf cf) a n d1∧PermIn a n dk d1):=(⟨X,Y⟩:_∧_);clear X Y S2)
      have HB:Hid (Blocks (ltOf cf) 20 n d1∧PermIn 0 n d d1∧d1.size=n):=by
        obtain ⟨q1,q2,q3⟩:=HH.out
        have e1:t*20=a:=q1.symm
        have e2:min (t*20+20) n=n:=by omega
        show _∧_∧_
        exact ⟨upto_all (upto_step q2 (by rw [e2,e1];exact T.out.2) (by rw [e2,e1];exact T.out.1)) (by omega),part_perm q3 T.out.2 (Nat.le_refl _) (by omega),by rw [T.out.2.1];exact HD.out⟩
      clear HH T HD hd1 hlt hltz
      go_loopg [6] (n+1) (fun kx s6 wr2=> ∃(bs:Nat) (dk:Array α),s6= .int .i64 bs∧20≤bs∧bs≤2*n+20∧n - bs≤kx∧Aside (SWK enc k w0 blk off dk wr2)∧Hid (Blocks (ltOf cf) bs n dk∧PermIn 0 n d dk∧dk.size=n))
      case atStart=>exact ⟨20,d1,rfl,by omega,by omega,by omega,S3,HB⟩
      case round=>
        clear S3 HB
        obtain ⟨bs,dk,rfl,hbs,hbs2,hkx2,S1,HB⟩:=hrel
        by_cases hlt:bs<n
        · have hltz : (bs : Int) < (n : Int) := by omega
          go_wp2
          go_loopg [7,8] (n+1) (fun kx s7 s8 wr3=> ∃(t a:Nat) (dk:Array α),s7= .int .i64 a∧s8= .int .i64 ((a:Int)+2*(bs:Int))∧a≤n∧n - a≤kx∧Aside (SWK enc k w0 blk off dk wr3)∧Hid (a=t*(2*bs)∧Mixed (ltOf cf) bs n t dk∧PermIn 0 n d dk∧dk.size=n))
          case atStart=>exact ⟨0,0,dk,rfl,by simp,by omega,by omega,S1,(⟨by omega,mixed_zero HB.out.1,HB.out.2.1,HB.out.2.2⟩:_∧_∧_∧_)⟩
          case round=>
            clear S1 HB
            obtain ⟨t,a,dk,rfl,rfl,han,hkx3,S1,HH⟩:=hrel
            have hd1:dk.size≤n∧n≤dk.size:=by have:=HH.out.2.2.2;omega
            by_cases hle:a+2*bs≤n
            · have hlez : (a : Int) + 2 * (bs : Int) ≤ (n : Int) := by omega
              have hm:SortedIn (ltOf cf) a (a+bs) dk∧SortedIn (ltOf cf) (a+bs) (a+2*bs) dk:=by
                obtain ⟨q1,q2,_,_⟩:=HH.out
                have q:=mixed_at q2
                rw [←q1,Nat.min_eq_left (by omega),Nat.min_eq_left (by omega)] at q
                exact q
              have hcall:SymR P enc cf k g cb blk off cap w0 a (a+bs) (a+2*bs) dk wr:=HYY.out _ a (a+bs) (a+2*bs) dk wr (Nat.le_refl _) (by omega) S1.out (by omega) (by omega) (by omega) hm.1 hm.2
              unfold SymR at hcall
              rw [show ((a+bs:Nat):Int)=(a:Int)+(bs:Int) by omega,show ((a+2*bs:Nat):Int)=(a:Int)+2*(bs:Int) by omega,HH.out.2.2.2] at hcall
              clear S1 hm
              go_wp2_with (go_at_fn 148;refine hcall.mono ?_;rintro e_ w1 ⟨rfl,d1,S2,X,Y⟩;have S3:Aside (SWK enc k w0 blk off d1 w1):=S2;have T:Hid (SortedIn (ltOf cf) a (a+2*bs) d1∧PermIn a (a+2*bs) dk d1):=(⟨X,Y⟩:_∧_);clear X Y S2)
              go_roundg (n - (a+2*bs))
              case measure=>omega
              case rel=>
                have HH2:Hid (a+2*bs=(t+1)*(2*bs)∧Mixed (ltOf cf) bs n (t+1) d1∧PermIn 0 n d d1∧d1.size=n):=by
                  obtain ⟨q1,q2,q3,q4⟩:=HH.out
                  have e2:min (t*(2*bs)+2*bs) n=t*(2*bs)+2*bs:=by omega
                  have T1:=T.out
                  rw [q1] at T1
                  show _∧_∧_∧_
                  exact ⟨by rw [Nat.add_mul,Nat.one_mul];omega,mixed_step q2 (by rw [e2];exact T1.2) (by rw [e2];exact T1.1),part_perm q3 T.out.2 hle (by omega),by rw [T.out.2.1];exact q4⟩
                exact ⟨t+1,a+2*bs,d1,by rw [show ((a+2*bs:Nat):Int)=(a:Int)+2*(bs:Int) by omega],by rw [show ((a+2*bs:Nat):Int)=(a:Int)+2*(bs:Int) by omega],hle,Nat.le_refl _,S3,HH2⟩
            · have hlez : ¬ (a : Int) + 2 * (bs : Int) ≤ (n : Int) := by omega
              by_cases hlm:a+bs<n
              · have hlmz : (a : Int) + (bs : Int) < (n : Int) := by omega
                have hm:SortedIn (ltOf cf) a (a+bs) dk∧SortedIn (ltOf cf) (a+bs) n dk:=by
                  obtain ⟨q1,q2,_,_⟩:=HH.out
                  have q:=mixed_at q2
                  rw [←q1,Nat.min_eq_left (by omega),Nat.min_eq_right (by omega)] at q
                  exact q
                have hcall:SymR P enc cf k g cb blk off cap w0 a (a+bs) n dk wr:=HYY.out _ a (a+bs) n dk wr (Nat.le_refl _) (by omega) S1.out (by omega) (by omega) (by omega) hm.1 hm.2
                unfold SymR at hcall
                rw [show ((a+bs:Nat):Int)=(a:Int)+(bs:Int) by omega,HH.out.2.2.2] at hcall
                clear S1 hm
                go_wp2_with (go_at_fn 148;refine hcall.mono ?_;rintro e_ w1 ⟨rfl,d1,S2,X,Y⟩;have S3:Aside (SWK enc k w0 blk off d1 w1):=S2;have T:Hid (SortedIn (ltOf cf) a n d1∧PermIn a n dk d1):=(⟨X,Y⟩:_∧_);clear X Y S2)
                go_roundg (n - 2*bs)
                case measure=>omega
                case rel=>
                  have HB2:Hid (Blocks (ltOf cf) (2*bs) n d1∧PermIn 0 n d d1∧d1.size=n):=by
                    obtain ⟨q1,q2,q3,q4⟩:=HH.out
                    have e2:min (t*(2*bs)+2*bs) n=n:=by omega
                    have T1:=T.out
                    rw [q1] at T1
                    show _∧_∧_
                    exact ⟨mixed_last (mixed_step q2 (by rw [e2];exact T1.2) (by rw [e2];exact T1.1)) (by omega),part_perm q3 T.out.2 (Nat.le_refl _) (by omega),by rw [T.out.2.1];exact q4⟩
                  exact ⟨2*bs,d1,by rw [show ((2*bs:Nat):Int)=(bs:Int)*2 by omega],by omega,by omega,Nat.le_refl _,S3,HB2⟩
              · have hlmz : ¬ (a : Int) + (bs : Int) < (n : Int) := by omega
                go_wp2
                go_roundg (n - 2*bs)
                case measure=>omega
                case rel=>
                  have HB2:Hid (Blocks (ltOf cf) (2*bs) n dk∧PermIn 0 n d dk∧dk.size=n):=(⟨mixed_end HH.out.2.1 (by have:=HH.out.1;omega),HH.out.2.2.1,HH.out.2.2.2⟩:_∧_∧_)
                  exact ⟨2*bs,dk,by rw [show ((2*bs:Nat):Int)=(bs:Int)*2 by omega],by omega,by omega,Nat.le_refl _,S1,HB2⟩
        · have hltz : ¬ (bs : Int) < (n : Int) := by omega
          go_wp2
          go_end0
          exact ⟨rfl,dk,S1.out,blocks_all HB.out.1 (by omega),HB.out.2.1⟩
end Go.Proofs.Ytahidkjncljkaaa.Print

namespace Go.Proofs.Ytahidkjncljkaaa.Print
open Go.Shelf Go.RowKit Go.Lib Go.Sort
open Go.Proofs.YtahidkjncljkaaaW.PrintWords Go.Proofs.YtahidkjncljkaaaW.PrintLast Go.Proofs.YtahidkjncljkaaaW.PrintMore
def renS:Ren:=⟨fun n=>if n=20 then 147 else n,fun n=>match n with|0=>0|3=>3|4=>4|22=>22|24=>39|25=>121|m=>m,fun n=>n⟩
theorem laysIns:SlLaysF0.n20 Try.prog renS where
 mixed:=by kernel_rfl
 f20:=⟨ "slices.insertionSortCmpFunc[doorkeeper/api.Want]",by decide,by kernel_rfl⟩
 t0:=Try.underlying0
 a0:=Try.isAgg0
 z0:=Try.sizeOf0
 v0:=Try.zeroValue0
 t3:=Try.underlying3
 a3:=Try.isAgg3
 z3:=Try.sizeOf3
 v3:=Try.zeroValue3
 t4:=Try.underlying4
 a4:=Try.isAgg4
 z4:=Try.sizeOf4
 v4:=Try.zeroValue4
 t22:=Try.underlying22
 a22:=Try.isAgg22
 z22:=Try.sizeOf22
 v22:=Try.zeroValue22
 t25:=Try.underlying121
 a25:=Try.isAgg121
 z25:=Try.sizeOf121
 v25:=Try.zeroValue121
theorem sortT:SortT Try.prog 5 where
 mixed:=by kernel_rfl
 t0:=Try.underlying0
 a0:=Try.isAgg0
 z0:=Try.sizeOf0
 v0:=Try.zeroValue0
 t3:=Try.underlying3
 a3:=Try.isAgg3
 z3:=Try.sizeOf3
 v3:=Try.zeroValue3
 t4:=Try.underlying4
 a4:=Try.isAgg4
 z4:=Try.sizeOf4
 v4:=Try.zeroValue4
 t5:=Try.underlying207
 a5:=Try.isAgg207
 z5:=Try.sizeOf207
 v5:=Try.zeroValue207
 t22:=Try.underlying22
 a22:=Try.isAgg22
 z22:=Try.sizeOf22
 v22:=Try.zeroValue22
 t25:=Try.underlying121
 a25:=Try.isAgg121
 z25:=Try.sizeOf121
 v25:=Try.zeroValue121
 aE:=Try.isAgg39
 zE:=Try.sizeOf39
abbrev SW_:={w:Want // w.f0.size≤maxLen}
instance:Inhabited SW_:=⟨⟨zWant,Nat.zero_le _⟩⟩
def encW (x:SW_):List Value:=[.string x.1.f0, .string x.1.f1, .int .i64 x.1.f2.f0, .int .i64 x.1.f2.f1, .int .i64 x.1.f2.f2]
def cfW (f:ByteArray→Int) (x y:SW_):Int:=cmpW f x.1.f0 y.1.f0
theorem cmpI_neg {x y:Int}:cmpI x y<0↔x<y:=by
  unfold cmpI
  by_cases h1:x<y
  · simp [h1]
  · by_cases h2:y<x<;>simp [h1,h2]
theorem cmpI_zero {x y:Int}:cmpI x y=0↔x=y:=by
  unfold cmpI
  by_cases h1:x<y
  · simp [h1];omega
  · by_cases h2 : y < x
    · simp [h1,h2];omega
    · simp [h1,h2];omega
theorem cmpS_neg {x y:ByteArray}:cmpS x y<0↔lt x y=true:=by
  unfold cmpS
  by_cases h1:lt x y=true
  · simp [h1]
  · by_cases h2:lt y x=true<;>simp [h1,h2]
theorem cmpW_neg {f:ByteArray→Int} {x y:ByteArray}:cmpW f x y<0↔f x<f y∨(f x=f y∧lt x y=true):=by
  unfold cmpW orI
  by_cases h:cmpI (f x) (f y)=0
  · rw [if_pos h, cmpS_neg]
    have:=cmpI_zero.1 h
    constructor
    · exact fun q=> .inr ⟨this,q⟩
    · rintro (q | q)
      · omega
      · exact q.2
  · rw [if_neg h, cmpI_neg]
    have:f x≠f y:=fun q=>h (cmpI_zero.2 q)
    constructor
    · exact fun q=> .inl q
    · rintro (q | q)
      · exact q
      · exact absurd q.1 this
theorem ltOf_W {f:ByteArray→Int} {x y:SW_}:ltOf (cfW f) x y=true↔f x.1.f0<f y.1.f0∨(f x.1.f0=f y.1.f0∧lt x.1.f0 y.1.f0=true):=by
 unfold ltOf cfW
 rw [decide_eq_true_iff,cmpW_neg]
theorem ltOf_Wf {f:ByteArray→Int} {x y:SW_}:ltOf (cfW f) x y=false↔f y.1.f0<f x.1.f0∨(f x.1.f0=f y.1.f0∧lt x.1.f0 y.1.f0=false):=by
  rw [←Bool.not_eq_true,ltOf_W]
  constructor
  · intro h
    by_cases e:f x.1.f0=f y.1.f0
    · exact .inr ⟨e,by rw [←Bool.not_eq_true];exact fun q=>h (.inr ⟨e,q⟩)⟩
    · exact .inl (by have: ¬f x.1.f0<f y.1.f0:=fun q=>h (.inl q);omega)
  · rintro (h | ⟨h, h'⟩) (k | ⟨k, k'⟩)
    · omega
    · omega
    · omega
    · rw [h'] at k';cases k'
theorem lt_ntrans {a b c:ByteArray} (h:lt a b=false) (k:lt b c=false):lt a c=false:=by
  cases q:lt a c with
  |false=>rfl
  | true =>
    by_cases e:b=c
    · rw [e,q] at h;cases h
    · have := lt_trans q (lt_total k e)
      rw [h] at this;cases this
theorem swoW (f:ByteArray→Int):SWO (ltOf (cfW f)) where
  irrefl x:=ltOf_Wf.2 (.inr ⟨rfl,lt_irrefl _⟩)
  trans x y z h k:=by
    rw [ltOf_W] at h k ⊢
    rcases h with h|⟨h,h'⟩<;>rcases k with k|⟨k,k'⟩
    · exact .inl (by omega)
    · exact .inl (by omega)
    · exact .inl (by omega)
    · exact .inr ⟨by omega,lt_trans h' k'⟩
  ntrans x y z h k:=by
    rw [ltOf_Wf] at h k ⊢
    rcases h with h|⟨h,h'⟩<;>rcases k with k|⟨k,k'⟩
    · exact .inl (by omega)
    · exact .inl (by omega)
    · exact .inl (by omega)
    · exact .inr ⟨by omega,lt_ntrans h' k'⟩
theorem sortWorld_block {α:Type} [Inhabited α] (enc:α→List Value) (k:Nat) (w:World) (blk off m:Nat) (dk:Array α) (os:Array Obj) {g:Nat} (hg:g<w.heap.size) (hne:g≠blk):(sortWorldK enc k w blk off m dk os).heap[g]?=w.heap[g]?:=by
 show ((w.heap.modify blk _)++os)[g]?=_
 rw [Array.getElem?_append_left (by simpa using hg),Array.getElem?_modify,if_neg (fun e=>hne e.symm)]
theorem sortWorld_own {α:Type} [Inhabited α] (enc:α→List Value) (k:Nat) (w:World) (blk off m:Nat) (dk:Array α) (os:Array Obj) {c:Array Value} {e:TypeId} {fr:Nat×Nat} (h:w.heap[blk]?=some (.cells c e fr)):(sortWorldK enc k w blk off m dk os).heap[blk]?=some (.cells (putCells id off (flatK enc k dk) c) e fr):=by
 have hl:blk<w.heap.size:=(Array.getElem?_eq_some_iff.1 h).1
 show ((w.heap.modify blk _)++os)[blk]?=_
 rw [Array.getElem?_append_left (by simpa using hl),Array.getElem?_modify,if_pos rfl,h]
 rfl
theorem sortWorld_grown {α:Type} [Inhabited α] (enc:α→List Value) (k:Nat) (w:World) (blk off m:Nat) (dk:Array α) (os:Array Obj):w.grownBy (sortWorldK enc k w blk off m dk os) (some blk) where
 os:=rfl
 tape:=rfl
 output:=rfl
 size:=by
  show w.heap.size≤((w.heap.modify blk _)++os).size
  simp
 block:=fun g hg hne=>sortWorld_block enc k w blk off m dk os hg (fun e=>hne (by rw [e]))
theorem cmpLaysW (f:ByteArray→Int) {w0:World} {gd b mb n:Nat} {v0:Value} (hgd:w0.heap[gd]?=some (.cells #[.pointer (some ⟨b,0,none⟩)] 108 (0,0))) (hb:w0.heap[b]?=some (.cells #[v0, .map (some mb)] 113 (0,0))) (hm:MapAt w0 mb n f) {blk:Nat} (h1:gd≠blk) (h2:b≠blk) (h3:mb≠blk) (off size:Nat):
    CmpLays Try.prog 79 #[.pointer (some ⟨gd,0,none⟩)] encW 5 (cfW f) blk off size w0:=by
  intro m os dk _ x y
  refine wantTop1_calls (sortWorldK encW 5 w0 blk off m dk os) gd b mb n v0 f ?_ ?_ ?_ x.1 y.1 x.2 y.2
  · rw [sortWorld_block _ _ _ _ _ _ _ _ (blk_lt hgd) h1];exact hgd
  · rw [sortWorld_block _ _ _ _ _ _ _ _ (blk_lt hb) h2];exact hb
  · exact hm.kept (sortWorld_block _ _ _ _ _ _ _ _ hm.lt h3)
theorem encW_len (x:SW_):(encW x).length=5:=rfl
theorem encW_one (x:SW_): ∀v∈encW x,v.oneCell'=true:=by
 intro v hv
 simp only [encW,List.mem_cons,List.not_mem_nil,or_false] at hv
 rcases hv with rfl|rfl|rfl|rfl|rfl<;>rfl
theorem sortTS:SortTS Try.prog where
 mixed:=by kernel_rfl
 t0:=Try.underlying0
 a0:=Try.isAgg0
 z0:=Try.sizeOf0
 v0:=Try.zeroValue0
 t3:=Try.underlying3
 a3:=Try.isAgg3
 z3:=Try.sizeOf3
 v3:=Try.zeroValue3
 t4:=Try.underlying4
 a4:=Try.isAgg4
 z4:=Try.sizeOf4
 v4:=Try.zeroValue4
 t5:=Try.underlying207
 a5:=Try.isAgg207
 z5:=Try.sizeOf207
 v5:=Try.zeroValue207
 t22:=Try.underlying85
 a22:=Try.isAgg85
 z22:=Try.sizeOf85
 v22:=Try.zeroValue85
 t25:=Try.underlying120
 a25:=Try.isAgg120
 z25:=Try.sizeOf120
 v25:=Try.zeroValue120
 tE:=Try.underlying9
 aE:=Try.isAgg9
 zE:=Try.sizeOf9
 vE:=Try.zeroValue9
theorem ltOf_S {f:ByteArray→Int} {x y:ByteArray}:ltOf (cmpW f) x y=true↔f x<f y∨(f x=f y∧lt x y=true):=by
 unfold ltOf
 rw [decide_eq_true_iff,cmpW_neg]
theorem ltOf_Sf {f:ByteArray→Int} {x y:ByteArray}:ltOf (cmpW f) x y=false↔f y<f x∨(f x=f y∧lt x y=false):=by
  rw [←Bool.not_eq_true,ltOf_S]
  constructor
  · intro h
    by_cases e:f x=f y
    · exact .inr ⟨e,by rw [←Bool.not_eq_true];exact fun q=>h (.inr ⟨e,q⟩)⟩
    · exact .inl (by have: ¬f x<f y:=fun q=>h (.inl q);omega)
  · rintro (h | ⟨h, h'⟩) (k | ⟨k, k'⟩)
    · omega
    · omega
    · omega
    · rw [h'] at k';cases k'
theorem swoS (f:ByteArray→Int):SWO (ltOf (cmpW f)) where
  irrefl x:=ltOf_Sf.2 (.inr ⟨rfl,lt_irrefl _⟩)
  trans x y z h k:=by
    rw [ltOf_S] at h k ⊢
    rcases h with h|⟨h,h'⟩<;>rcases k with k|⟨k,k'⟩
    · exact .inl (by omega)
    · exact .inl (by omega)
    · exact .inl (by omega)
    · exact .inr ⟨by omega,lt_trans h' k'⟩
  ntrans x y z h k:=by
    rw [ltOf_Sf] at h k ⊢
    rcases h with h|⟨h,h'⟩<;>rcases k with k|⟨k,k'⟩
    · exact .inl (by omega)
    · exact .inl (by omega)
    · exact .inl (by omega)
    · exact .inr ⟨by omega,lt_ntrans h' k'⟩
theorem ownS {w:World} {base:Nat} {v:Value} {l:List ByteArray} (h:Kd.R Kd.string 9 w base (fun _=>True) v l):(v= .slice none 0 0∧l=[])∨ ∃g cap cur,v= .slice (some ⟨g,0,none⟩) l.length cap∧base≤g∧w.heap[g]?=some (Obj.cells cur 9 (0,0))∧l.length≤cap∧cap≤maxLen∧cur.size=cap∧cur.toList.take l.length=l.map Value.string:=by
  have ho:=Kd.own_of_R h
  obtain ⟨h1,h2⟩:=ho
  rcases h2 with ⟨rfl,h2⟩|⟨g,cap,cur,rfl,hg,hh,hc,hm,hs,ht⟩
  · exact .inl ⟨rfl,List.length_eq_zero_iff.1 h2⟩
  · rw [Nat.mul_one] at hs ht
    exact .inr ⟨g,cap,cur,rfl,hg,hh,hc,hm,hs,ht⟩
theorem sortedS {w0 w:World} {base g cap:Nat} {d:Array ByteArray} (S:SRow w0 g cap d w) (hg:base≤g) (hc:d.size≤cap) (hm:cap≤maxLen):Kd.R Kd.string 9 w base (fun _=>True) (.slice (some ⟨g,0,none⟩) d.size cap) d.toList:=by
 obtain ⟨cur,hh,hs,ht⟩:=S.row
 refine Kd.R_of_own ⟨by simp [encs], .inr ⟨g,cap,cur,by rw [Array.length_toList],hg,hh,by rw [Array.length_toList];exact hc,hm,by rw [Nat.mul_one];exact hs, ?_⟩⟩ (fun _ _=>trivial)
 rw [Nat.mul_one,Array.length_toList]
 exact ht
set_option maxRecDepth 100000 in
theorem insNilS_calls (c:Nat) (fv:Value) (w:World):Calls Try.prog 170 #[.slice none 0 c, .int .i64 0, .int .i64 0,fv] w fun e w'=>e= .returned (.tuple #[])∧w'=w:=by
 go_enter Try.func170,Try.ntmps170
 go_wp2
 refine wp_loop_rounds 1 ?_
 rw [rounds_succ]
 go_wp2
 go_end0
 exact ⟨rfl,rfl⟩
set_option maxRecDepth 100000 in
theorem stableNilS_calls (c:Nat) (fv:Value) (w:World):Calls Try.prog 152 #[.slice none 0 c, .int .i64 0,fv] w fun e w'=>e= .returned (.tuple #[])∧w'=w:=by
 go_enter Try.func152,Try.ntmps152
 go_wp2
 refine wp_loop_rounds 1 ?_
 rw [rounds_succ]
 go_wp2_with (go_at_call 170;refine (insNilS_calls _ _ _).mono ?_;rintro e w1 ⟨rfl,rfl⟩)
 refine wp_loop_rounds 1 ?_
 rw [rounds_succ]
 go_wp2
 go_end0
 exact ⟨rfl,rfl⟩
set_option maxHeartbeats 1000000 in
set_option maxRecDepth 100000 in
theorem sortNames_calls {w W:World} {gl:Nat} {Al:Option Addr} {cl:Nat} {l:List Item} (hC:Kd.C k79 w Al l.length l) (hcl:l.length≤cl) (hll:l.length<1000000) (hB:Below w.heap.size w W) (hgl:W.heap[gl]?=some (Obj.cells #[.slice Al l.length cl] 46 (0,0))) {v:Value} {ns:List ByteArray} (hR:Kd.R Kd.string 9 W w.heap.size (fun _=>True) v ns) (hn:ns.length≤100000):
    Calls Try.prog 130 #[v, .func (.func 131) #[] #[.pointer (some ⟨gl,0,none⟩)]] W fun e w'=>e= .returned (.tuple #[])∧ ∃ns',Kd.R Kd.string 9 w' w.heap.size (fun _=>True) v ns'∧ns'.Perm ns∧ns'.Pairwise (fun x y=> ¬cmpW (depN l) y x<0)∧W.grownBy w' v.ownBlock:=by
  rcases ownS hR with ⟨rfl,rfl⟩|⟨g,cap,cur,rfl,hg,hh,hc,hcm,hcs,hflat⟩
  · have HR := Aside0.mk hR
    go_enter Try.func130,Try.ntmps130
    go_wp2_with (go_at_call 152;refine (stableNilS_calls _ _ _).mono ?_;rintro e w1 ⟨rfl,rfl⟩)
    go_end0
    exact ⟨rfl,[],HR.out, .refl _, .nil,⟨rfl,rfl,rfl,Nat.le_refl _,fun _ _ _=>rfl⟩⟩
  · obtain ⟨d, hd⟩ : ∃ d : Array ByteArray, d.toList = ns := ⟨ns.toArray, rfl⟩
    have hds:d.size=ns.length:=by rw [←hd,Array.length_toList]
    have S0:SRow W g cap d W:=⟨⟨rfl,rfl,rfl,Nat.le_refl _,fun _ _ _=>rfl⟩,cur,hh,hcs,by rw [hds,hd];exact hflat⟩
    have R:g<W.heap.size:=blk_lt hh
    have hcmp:CmpS Try.prog 131 #[.pointer (some ⟨gl,0,none⟩)] (cmpW (depN l)) W g cap d.size:=fun d' w' _ S x y=>by
      have hb:Below w.heap.size w w':=pw_below_grown hB (some g) hB.size S.gb (fun k e=>by cases e;exact hg)
      have hne:gl≠g:=by rintro rfl;rw [hgl] at hh;simp at hh
      exact dropCmp_calls w' gl Al cl l (Kd.C_below hC hb) hcl hll (blk_put_other2 hgl S.gb (fun e=>hne (Option.some.inj e))) x y
    have eg: ∀args w,(callFunc 131 args).run Try.prog w= .ok (.enter 131 args) w:=enters_of Try.func131 (by kernel_rfl) rfl
    have hI:=ins_s Try.func170 sortTS (cmpW (depN l)) 131 #[.pointer (some ⟨gl,0,none⟩)] g cap d W eg hcmp R (swoS _) (by omega)
    have hY:=symMerge_s Try.func179 Try.func177 Try.func171 sortTS (cmpW (depN l)) 131 #[.pointer (some ⟨gl,0,none⟩)] g cap d W eg hcmp R (swoS _) (by omega)
    have key:=stable_s Try.func170 Try.func171 Try.func152 sortTS (cmpW (depN l)) 131 #[.pointer (some ⟨gl,0,none⟩)] g cap d W hI hY (by omega) d W rfl S0
    rw [hds] at key
    have fin: ∀d':Array ByteArray,∀w',SRow W g cap d' w'→SortedIn (ltOf (cmpW (depN l))) 0 ns.length d'→PermIn 0 ns.length d d'→ ∃ns',Kd.R Kd.string 9 w' w.heap.size (fun _=>True) (.slice (some ⟨g,0,none⟩) ns.length cap) ns'∧ns'.Perm ns∧ns'.Pairwise (fun x y=> ¬cmpW (depN l) y x<0)∧W.grownBy w' (some g):=by
      intro d' w' S hso hp
      have hd':=hp.1
      have r:=sortedS S hg (by omega) hcm
      rw [hd',hds] at r
      refine ⟨_,r, ?_, ?_,S.gb⟩
      · have q := hp.2.2
        rw [show d'.extract 0 ns.length=d' by rw [←hds,←hd'];exact Array.extract_size,show d.extract 0 ns.length=d by rw [←hds];exact Array.extract_size,hd] at q
        exact q
      · rw [List.pairwise_iff_getElem]
        intro i j hi hj hij
        rw [Array.length_toList] at hi hj
        have q:=hso i j (Nat.zero_le _) hij (by omega)
        rw [getElem!_pos d' i hi,getElem!_pos d' j hj] at q
        unfold ltOf at q
        rw [decide_eq_false_iff_not] at q
        exact q
    have FIN:=Aside0.mk fin
    clear fin hI hY hcmp R eg hgl hR hh hflat hd S0 hC hB
    go_enter Try.func130,Try.ntmps130
    go_wp2_with (go_at_call 152;refine key.mono ?_;rintro e w1 ⟨rfl,d',S,X,Y⟩;have T:=Aside0.mk (FIN.out d' w1 S X Y);clear S X Y)
    go_end0
    obtain ⟨l',h1,h2,h3,h4⟩:=T.out
    exact ⟨rfl,l',h1,h2,h3,by simpa [Value.ownBlock] using h4⟩
end Go.Proofs.Ytahidkjncljkaaa.Print

namespace Go.Proofs.Ytahidkjncljkaaa.Print
open Go.RowKit Go.Shelf Go.Proofs.YtahidkjncljkaaaW.PrintWords Go.Proofs.YtahidkjncljkaaaW.PrintLast Go.Proofs.YtahidkjncljkaaaW.PrintMore
theorem fidx_anyG {α:Type} (p:α→Bool): ∀(l:List α) (i:Int),0≤i→decide (0≤fidx p l i)=l.any p
  |[],_,_=>rfl
  | x :: l, i, h => by
    unfold fidx
    rw [List.any_cons]
    by_cases hx:p x=true
    · rw [if_pos hx,hx];simpa using h
    rw [if_neg hx,fidx_anyG p l (i+1) (by omega)]
    simp [hx]
def markCells (x:S84):List Value:=[.string x.f0, .string x.f1, .int .i64 x.f2.f0, .int .i64 x.f2.f1, .int .i64 x.f2.f2, .int .i64 x.f3]
set_option maxHeartbeats 1000000 in
set_option maxRecDepth 100000 in
theorem dropHas_calls (W:World) (gm:Nat) (m:S84) (y:PGoal) (hm:W.heap[gm]?=some (.cells (markCells m).toArray 84 (0,0))):
  Calls Try.prog 129 #[.agg (goalCells y).toArray, .pointer (some ⟨gm,0,none⟩)] W fun e w'=>e= .returned (.bool (y.f0.f0.toList==m.f0.toList))∧Below W.heap.size W w':=by
 have hu141:=Try.underlying141;have hu39:=Try.underlying39;have hu84:=Try.underlying84;have HM:=Aside0.mk hm;clear hm;go_enter Try.func129,Try.ntmps129;go_wp2_with (first|((with_reducible refine gate_dst (N:=2) rfl ?_);refine box_event ?hg (N:=2) ?hd (cs:=(goalCells y).toArray) (t:=141) ?hr ?_;(case hd=>rfl);(case hg=>rfl);(case hr=>first|(go_simp;done)|(go_simp;rfl));intro gb2 hg w1 hbox hb;have HB:=Aside0.mk hb;have c0:w1.cell? ⟨gb2,0,none⟩=some (.string y.f0.f0):=(blk_cell hbox 0).trans rfl;have c1:w1.cell? ⟨gm,0,none⟩=some (.string m.f0):=(blk_cell (blk_below HM.out hb) 0).trans rfl;clear hb hbox hg))
 go_ret
 exact ⟨rfl,HB.out⟩
set_option maxHeartbeats 1000000 in
set_option maxRecDepth 100000 in
theorem stepsHas_calls (W:World) (gw:Nat) (x:S39) (m:S84) (hw:W.heap[gw]?=some (.cells #[.string x.f0, .string x.f1, .int .i64 x.f2.f0, .int .i64 x.f2.f1, .int .i64 x.f2.f2] 39 (0,0))):
  Calls Try.prog 93 #[.agg (markCells m).toArray, .pointer (some ⟨gw,0,none⟩)] W fun e w'=>e= .returned (.bool (m.f0.toList==x.f0.toList))∧Below W.heap.size W w':=by
 have hu39:=Try.underlying39;have hu84:=Try.underlying84;have HW:=Aside0.mk hw;clear hw;go_enter Try.func93,Try.ntmps93;go_wp2_with (first|((with_reducible refine gate_dst (N:=2) rfl ?_);refine box_event ?hg (N:=2) ?hd (cs:=(markCells m).toArray) (t:=84) ?hr ?_;(case hd=>rfl);(case hg=>rfl);(case hr=>first|(go_simp;done)|(go_simp;rfl));intro gb2 hg w1 hbox hb;have HB:=Aside0.mk hb;have c0:w1.cell? ⟨gb2,0,none⟩=some (.string m.f0):=(blk_cell hbox 0).trans rfl;have c1:w1.cell? ⟨gw,0,none⟩=some (.string x.f0):=(blk_cell (blk_below HW.out hb) 0).trans rfl;clear hb hbox hg))
 go_ret
 exact ⟨rfl,HB.out⟩
set_option maxHeartbeats 1000000 in
set_option maxRecDepth 100000 in
theorem idxMark_calls (g:Nat) (lb:Array Value) (p:S84→Bool) (eg: ∀args w,(callFunc g args).run Try.prog w= .ok (.enter g args) w) (w:World)
    (hp: ∀W x,Below w.heap.size w W→Calls Try.prog g (#[.agg (markCells x).toArray]++lb) W fun e w'=>e= .returned (.bool (p x))∧Below W.heap.size W w')
    (A:Option Addr) (c:Nat) (l:List S84) (hr0:Kd.C k84 w A l.length l) (hc0:l.length≤c):
    Calls Try.prog 123 #[.slice A l.length c, .func (.func g) #[] lb] w fun e w'=>e= .returned (.int .i64 (fidx p l 0))∧Below w.heap.size w w':=by
  have hu84:=Try.underlying84;have HR0:=Aside0.mk hr0;have HP:=Aside0.mk hp;have HEG:=Aside0.mk eg;have hm:l.length≤9223372036854775807:=hr0.2.1;clear hr0 hp eg;go_enter Try.func123,Try.ntmps123;go_wp2
  go_loopg [5,8] l.length (fun kq s5 s8 wr=> ∃i:Nat,i≤l.length∧l.length - i≤kq∧s8= .int .i64 i∧Aside0 (Below w.heap.size w wr)∧Aside0 (fidx p l 0=fidx p (l.drop i) i))
  case atStart=>exact ⟨0,by omega,by omega,rfl,⟨Below.refl _ _⟩,⟨rfl⟩⟩
  case round=>
    obtain ⟨i,hi,hg,rfl,HB,HF⟩:=hrel;by_cases hlt:i<l.length;rotate_left
    · obtain rfl : i = l.length := by omega
      go_wp2
      go_ret
      refine ⟨?_,HB.out⟩
      rw [HF.out,List.drop_length]
      rfl
    have hltz:(i:Int)<(l.length:Int):=by omega
    obtain ⟨ad,e1,h0,h1,h2,h3,h4,h5⟩:=at_T84 HR0.out (i:Int) (by omega) (by omega);cases e1;simp only [Int.toNat_natCast] at h0 h1 h2 h3 h4 h5;replace h0:=zx_ HB h0;replace h1:=zx_ HB h1;replace h2:=zx_ HB h2;replace h3:=zx_ HB h3;replace h4:=zx_ HB h4;replace h5:=zx_ HB h5;have hd:Aside0 _:=⟨fidx_drop p z84 l i hlt⟩;have HC:=am_ (HP.out wr (rd_T84 l i) HB.out);generalize hy:rd_T84 l i=y at h0 h1 h2 h3 h4 h5 HC;have hq:p (l.getD i z84)=p y:=by rw [←hy];simp [rd_T84]
    have HQ:=Aside0.mk hq;clear hy hq;have eg:=HEG.out;unfold markCells at HC
    cases hb:p y with
    | true =>
      rw [hb] at HC HQ;clear hb;go_wp2_with (go_at_fn g;refine HC.out.mono ?_;rintro e w' ⟨rfl,hb'⟩;have HB':=am_ (below_step HB.out hb');clear hb')
      go_ret
      refine ⟨?_,HB'.out⟩;rw [HF.out,hd.out,HQ.out]
      rfl
    | false =>
      rw [hb] at HC HQ;clear hb;go_wp2_with (go_at_fn g;refine HC.out.mono ?_;rintro e w' ⟨rfl,hb'⟩;have HB':=am_ (below_step HB.out hb');clear hb')
      go_roundg (l.length - (i+1))
      case measure=>omega
      case rel=>exact ⟨i+1,by omega,by omega,by go_num,HB',⟨by rw [HF.out,hd.out,HQ.out];rfl⟩⟩
set_option maxHeartbeats 1000000 in
set_option maxRecDepth 100000 in
theorem hasMark_calls (g:Nat) (lb:Array Value) (p:S84→Bool) (eg: ∀args w,(callFunc g args).run Try.prog w= .ok (.enter g args) w) (w:World)
  (hp: ∀W x,Below w.heap.size w W→Calls Try.prog g (#[.agg (markCells x).toArray]++lb) W fun e w'=>e= .returned (.bool (p x))∧Below W.heap.size W w')
  (A:Option Addr) (c:Nat) (l:List S84) (hr0:Kd.C k84 w A l.length l) (hc0:l.length≤c):
  Calls Try.prog 92 #[.slice A l.length c, .func (.func g) #[] lb] w fun e w'=>e= .returned (.bool (l.any p))∧Below w.heap.size w w':=by
 have HC:=am_ (idxMark_calls g lb p eg w hp A c l hr0 hc0);rw [←fidx_anyG p l 0 (by omega)];generalize fidx p l 0=r at HC;clear hp hr0 eg;go_enter Try.func92,Try.ntmps92;go_wp2_with (go_at_call 123;refine HC.out.mono ?_;rintro e w' ⟨rfl,hb'⟩;have HB':=Aside0.mk hb';clear hb')
 go_ret
 exact ⟨rfl,HB'.out⟩
set_option maxHeartbeats 1000000 in
set_option maxRecDepth 100000 in
theorem idxGoal_calls (g:Nat) (lb:Array Value) (p:PGoal→Bool) (eg: ∀args w,(callFunc g args).run Try.prog w= .ok (.enter g args) w) (w:World) (base:Nat)
    (hp: ∀W x,Below w.heap.size w W→Calls Try.prog g (#[.agg (goalCells x).toArray]++lb) W fun e w'=>e= .returned (.bool (p x))∧Below W.heap.size W w')
    (A:Option Addr) (c:Nat) (l:List PGoal) (hr0:Kd.R k141 141 w base (fun _=>True) (.slice A l.length c) l) (hl:l.length<1000000):
    Calls Try.prog 151 #[.slice A l.length c, .func (.func g) #[] lb] w fun e w'=>e= .returned (.int .i64 (fidx p l 0))∧Below w.heap.size w w':=by
  have hu141:=Try.underlying141;have HR0:=Aside0.mk hr0;have HP:=Aside0.mk hp;have HEG:=Aside0.mk eg;clear hr0 hp eg;go_enter Try.func151,Try.ntmps151;go_wp2
  go_loopg [5,8] l.length (fun kq s5 s8 wr=> ∃i:Nat,i≤l.length∧l.length - i≤kq∧s8= .int .i64 i∧Aside0 (Below w.heap.size w wr)∧Aside0 (fidx p l 0=fidx p (l.drop i) i))
  case atStart=>exact ⟨0,by omega,by omega,rfl,⟨Below.refl _ _⟩,⟨rfl⟩⟩
  case round=>
    obtain ⟨i,hi,hg,rfl,HB,HF⟩:=hrel;by_cases hlt:i<l.length;rotate_left
    · obtain rfl : i = l.length := by omega
      go_wp2
      go_ret
      refine ⟨?_,HB.out⟩
      rw [HF.out,List.drop_length]
      rfl
    have hltz:(i:Int)<(l.length:Int):=by omega
    have q0:(0:Int)≤(i:Int):=by omega
    obtain ⟨gg,cg',hv, -, -, -⟩:=Kd.R_form HR0.out (by omega)
    obtain ⟨rfl,rfl⟩:A=some ⟨gg,0,none⟩∧c=cg':=by
      injection hv with e1 e2 e3;exact ⟨e1,e3⟩
    clear hv;obtain ⟨y,hy⟩: ∃y,l[i]=y:=⟨_,rfl⟩
    have HG2:Kd.R k141 141 wr base (fun _=>True) (.slice (some ⟨gg,0,none⟩) l.length c) (l.take i++y::l.drop (i+1)):=by
      rw [←hy,←goal_split hlt];exact Kd.R_below HR0.out HB.out
    have LD:=am_ (fun j v hv=>goal_cell (show (l.take i).length=i by rw [List.length_take];omega) HG2 j (u:=v) hv);have hd:Aside0 _:=⟨fidx_drop p z141 l i hlt⟩;have HC:=am_ (HP.out wr y HB.out);have hq:p (l.getD i z141)=p y:=by rw [←hy];simp [hlt]
    have HQ:=Aside0.mk hq;clear hy hq HG2;have eg:=HEG.out
    cases hb:p y with
    | true =>
      rw [hb] at HC HQ;clear hb;go_wp2_with (first|((with_reducible refine gate_dst (N:=15) rfl ?_);refine load_at (goalCells y) rfl (.tmp 14) rfl (g:=gg) (off:=i*21) rfl _ hu141 rfl goalCells_info LD.out ?_)|(go_at_fn g;refine HC.out.mono ?_;rintro e w' ⟨rfl,hb'⟩;have HB':=am_ (below_step HB.out hb');clear hb'))
      go_ret
      refine ⟨?_,HB'.out⟩;rw [HF.out,hd.out,HQ.out]
      rfl
    | false =>
      rw [hb] at HC HQ;clear hb;go_wp2_with (first|((with_reducible refine gate_dst (N:=15) rfl ?_);refine load_at (goalCells y) rfl (.tmp 14) rfl (g:=gg) (off:=i*21) rfl _ hu141 rfl goalCells_info LD.out ?_)|(go_at_fn g;refine HC.out.mono ?_;rintro e w' ⟨rfl,hb'⟩;have HB':=am_ (below_step HB.out hb');clear hb'))
      go_roundg (l.length - (i+1))
      case measure=>omega
      case rel=>exact ⟨i+1,by omega,by omega,by go_num,HB',⟨by rw [HF.out,hd.out,HQ.out];rfl⟩⟩
set_option maxHeartbeats 1000000 in
set_option maxRecDepth 100000 in
theorem hasGoal_calls (g:Nat) (lb:Array Value) (p:PGoal→Bool) (eg: ∀args w,(callFunc g args).run Try.prog w= .ok (.enter g args) w) (w:World) (base:Nat)
  (hp: ∀W x,Below w.heap.size w W→Calls Try.prog g (#[.agg (goalCells x).toArray]++lb) W fun e w'=>e= .returned (.bool (p x))∧Below W.heap.size W w')
  (A:Option Addr) (c:Nat) (l:List PGoal) (hr0:Kd.R k141 141 w base (fun _=>True) (.slice A l.length c) l) (hl:l.length<1000000):
  Calls Try.prog 128 #[.slice A l.length c, .func (.func g) #[] lb] w fun e w'=>e= .returned (.bool (l.any p))∧Below w.heap.size w w':=by
 have HC:=am_ (idxGoal_calls g lb p eg w base hp A c l hr0 hl);rw [←fidx_anyG p l 0 (by omega)];generalize fidx p l 0=r at HC;clear hp hr0 eg;go_enter Try.func128,Try.ntmps128;go_wp2_with (go_at_call 151;refine HC.out.mono ?_;rintro e w' ⟨rfl,hb'⟩;have HB':=Aside0.mk hb';clear hb')
 go_ret
 exact ⟨rfl,HB'.out⟩
end Go.Proofs.Ytahidkjncljkaaa.Print

namespace Go.Proofs.Ytahidkjncljkaaa.Print
open Go.RowKit Go.Proofs.YtahidkjncljkaaaW.PrintWords Go.Proofs.YtahidkjncljkaaaW.PrintLast
end Go.Proofs.Ytahidkjncljkaaa.Print

namespace Go.Proofs.Ytahidkjncljkaaa.Print
open Go.RowKit Go.Proofs.YtahidkjncljkaaaW.PrintWords Go.Proofs.YtahidkjncljkaaaW.PrintLast Go.Proofs.YtahidkjncljkaaaW.PrintMore
attribute [local go_sem] max2_int min2_int max_two min_two max_three min_three max_four min_four

attribute [local go_sem high] eqA37
end Go.Proofs.Ytahidkjncljkaaa.Print

namespace Go.Proofs.Ytahidkjncljkaaa.Print
open Go.RowKit Go.Proofs.YtahidkjncljkaaaW.PrintWords Go.Proofs.YtahidkjncljkaaaW.PrintLast
abbrev PStep:=S76
def neV (a b:Vec):Bool:=(!(a.f0==b.f0)||(!(a.f1==b.f1)||(!(a.f2==b.f2))))
theorem neV_iff {a b:Vec}:neV a b=true↔a≠b:=by
 obtain ⟨a0,a1,a2⟩:=a;obtain ⟨b0,b1,b2⟩:=b;unfold neV;by_cases h0:a0=b0<;>by_cases h1:a1=b1<;>by_cases h2:a2=b2<;>simp [h0,h1,h2]
def raiseS (l:List Item) (wide:Bool) (w:Want):List PStep:=match look l w.f0 with
 |none=> [⟨1,w.f0,w.f1,upV l wide w⟩]
 |some x=>if neV x.f2 (upV l wide w)=true then [⟨2,w.f0,⟨#[]⟩,upV l wide w⟩] else []
def moveS (l:List Item) (w:Want):List PStep:=match look l w.f0 with
 |none=> []
 |some x=>if x.f1=w.f1 then [] else [⟨3,w.f0,w.f1,⟨0,0,0⟩⟩]
def lowerS (l:List Item) (wide:Bool) (w:Want):List PStep:=if neV (upV l wide w) w.f2=true then [⟨2,w.f0,⟨#[]⟩,w.f2⟩] else []
def delS (n:ByteArray):PStep:=⟨4,n,⟨#[]⟩,⟨0,0,0⟩⟩
def wideGo (l:List Item) (ms:List PMark):Bool→List Want→Option Bool
  |b,[]=>some b
  | b, w :: ws => match look l w.f0 with
    |none=>wideGo l ms b ws
    |some x=>if mlook ms w.f0=none then none else wideGo l ms (b|| !decide (x.f1=w.f1)) ws
def planR (ws:List Want) (ms:List PMark) (l:List Item):List PStep×Int:=
 if checkR ws=0 then (match wideGo l ms false (topR ws) with
  |none=>([],3)
  |some wide=>((((topR ws).flatMap (raiseS l wide)++(topR ws).flatMap (moveS l))++(topR ws).reverse.flatMap (lowerS l wide))++(goesR ws ms l).map delS,0)) else ([],checkR ws)
section
variable {ws:List Want} {ms:List PMark} {l:List Item} {top:List Want} {wide:Bool} {r:List PStep×Int}
end
end Go.Proofs.Ytahidkjncljkaaa.Print

namespace Go.Proofs.Ytahidkjncljkaaa.Print
open Go.RowKit Go.Proofs.YtahidkjncljkaaaW.PrintWords Go.Proofs.YtahidkjncljkaaaW.PrintLast Go.Proofs.YtahidkjncljkaaaW.PrintMore
theorem at_str {w:World} {A:Option Addr} {n:Nat} {xs:List ByteArray} (h:Kd.C Kd.string w A n xs) (i:Int) (h0:0≤i) (h1:i<n): ∃ad,A=some ad∧w.cell? (ad.add i.toNat)=some (.string (rdOf ByteArray.empty xs i)):=by
 obtain ⟨ad,c,e,_,hK,hc⟩:=Kd.C_get h ByteArray.empty i h0 h1;have hc0: ∀j u,c[j]?=some u→w.cell? (ad.add (i.toNat*1+j))=some u:=hc;obtain rfl:c=[.string (xs.getD i.toNat ByteArray.empty)]:=hK;have:=hc0 0 _ rfl
 rw [Nat.mul_one,Nat.add_zero] at this;exact ⟨ad,e,this⟩
end Go.Proofs.Ytahidkjncljkaaa.Print

namespace Go.Proofs.Ytahidkjncljkaaa.Print
open Go.RowKit Go.Shelf Go.Sort Go.Proofs.YtahidkjncljkaaaW.PrintWords Go.Proofs.YtahidkjncljkaaaW.PrintLast Go.Proofs.YtahidkjncljkaaaW.PrintMore
theorem Kd.R_types2 {α:Type} {d:Kd α} {e base t:Nat} {w:World} {u v:Value} {xs:List α} (h:d.R e w base (fun _=>True) u xs) (ho: ∀k,v.ownBlock=some k→ ∃cells,w.heap[k]?=some (Obj.cells cells t (0,0))) (ht: ∀q,q∈e::d.E→q≠t):d.R e w base (fun k=>some k≠v.ownBlock) u xs:=
 Kd.R_mono (Kd.R_bound h) (fun k hk he=>by
  obtain ⟨_,_,_,q,hq,cells,hc⟩:=hk
  obtain ⟨cs,hc2⟩:=ho k he.symm
  rw [hc] at hc2
  injection hc2 with hc2
  injection hc2 with _ h2 _
  exact ht q hq h2)
theorem blk_row {w w1:World} {k t t':Nat} {cs:Array Value} {v:Value} (h:w.heap[k]?=some (Obj.cells cs t (0,0))) (ho: ∀k,v.ownBlock=some k→ ∃cells,w.heap[k]?=some (Obj.cells cells t' (0,0))) (ht:t≠t') (hg:w.grownBy w1 v.ownBlock):w1.heap[k]?=some (Obj.cells cs t (0,0)):=
 blk_put_other2 h hg (fun e=>by
  obtain ⟨cs',hc⟩:=ho k e.symm;rw [h] at hc;injection hc with hc;injection hc with _ h2 _;exact ht h2)
def hasG (gs:List PGoal) (m:PMark):Bool:=gs.any (fun y=>y.f0.f0.toList==m.f0.toList)
def dropN (gs:List PGoal):List PMark→List ByteArray
 |[]=> []
 |m::ms=>if hasG gs m=true then dropN gs ms else m.f0::dropN gs ms
theorem dropN_append (gs:List PGoal): ∀a b:List PMark,dropN gs (a++b)=dropN gs a++dropN gs b
  |[],b=>rfl
  | m :: a, b => by
    show (if hasG gs m=true then dropN gs (a++b) else m.f0::dropN gs (a++b))=_
    rw [dropN_append gs a b]
    show _=(if hasG gs m=true then dropN gs a else m.f0::dropN gs a)++_
    split<;>rfl
theorem dropN_len (gs:List PGoal): ∀a:List PMark,(dropN gs a).length≤a.length
  |[]=>Nat.le_refl _
  | m :: a => by
    have:=dropN_len gs a
    unfold dropN
    split<;>simp<;>omega
def GoneIs (gs:List PGoal) (ms:List PMark) (l:List Item) (ns:List ByteArray):Prop:=ns.Perm (dropN gs ms)∧ns.Pairwise (fun x y=> ¬cmpW (depN l) y x<0)
set_option maxHeartbeats 8000000 in
set_option maxRecDepth 100000 in
theorem planDrop_calls (w W:World) (b:Nat) (vg vo:Value) (wide:Bool) (gs:List PGoal) (out:List S76) (Am:Option Addr) (cm:Nat) (ms:List PMark) (Al:Option Addr) (cl:Nat) (l:List Item) (hM:Kd.C k84 w Am ms.length ms) (hcm:ms.length≤cm) (hC:Kd.C k79 w Al l.length l) (hcl:l.length≤cl) (hll:l.length<1000000)
    (hb:W.heap[b]?=some (Obj.cells #[vg, .bool wide,vo] 139 (0,0))) (hge:w.heap.size≤b) (hB:Below w.heap.size w W) (hg:Kd.R k141 141 W w.heap.size (fun _=>True) vg gs) (ho:Kd.R k76 76 W w.heap.size (fun _=>True) vo out) (hl:out.length+gs.length+ms.length<50000):
    Calls Try.prog 97 #[.pointer (some ⟨b,0,none⟩), .slice Am ms.length cm, .slice Al l.length cl] W fun e w'=>e= .returned (.tuple #[])∧ ∃(ns:List ByteArray) (vo':Value),GoneIs gs ms l ns∧w'.heap[b]?=some (Obj.cells #[vg, .bool wide,vo'] 139 (0,0))∧Kd.R k76 76 w' w.heap.size (fun _=>True) vo' (out++ns.map delS)∧Below w.heap.size w w':=by
  have hu139:=Try.underlying139;have hu84:=Try.underlying84;have hu76:=Try.underlying76;obtain ⟨Ag,cg,eg⟩:=Kd.R_slice hg;subst eg;have HM:=Aside0.mk hM;have HC:=Aside0.mk hC;have HCL:=Aside0.mk hcl;have HLL:=Aside0.mk hll;have BK:=Aside0.mk hb;have GE:=Aside0.mk hge;have HB:=Aside0.mk hB;have HG:=Aside0.mk hg;have HO:=Aside0.mk ho;have HLN:=Aside0.mk hl;clear hM hC hcl hll hb hge hB hg ho hl;go_enter Try.func97,Try.ntmps97;go_wp2_with (first|((with_reducible refine gate_dst (N:=5) rfl ?_);refine bx_ (N:=5) (cs:=#[.slice Al l.length cl]) (t:=46) ?_;intro gb5 hg w1 hbox hb;replace HO:=am_ (Kd.R_below HO.out hb);replace HG:=am_ (Kd.R_below HG.out hb);replace BK:=am_ (blk_below BK.out hb);replace HB:=am_ (below_step HB.out hb);have B5:=Aside0.mk hbox;have G5:=Aside0.mk hg;clear hbox hb hg))
  go_loopg [6,13] ms.length (fun kq v6 v13 w'=> ∃(pre post:List PMark),ms=pre++post∧kq=post.length∧v13= .int .i64 (pre.length:Int)∧Aside0 (w'.heap[b]?=some (Obj.cells #[.slice Ag gs.length cg, .bool wide,vo] 139 (0,0)))∧Aside0 (w'.heap[gb5]?=some (Obj.cells #[.slice Al l.length cl] 46 (0,0)))∧Aside0 (Kd.R k141 141 w' w.heap.size (fun _=>True) (.slice Ag gs.length cg) gs)∧Aside0 (Kd.R k76 76 w' w.heap.size (fun _=>True) vo out)∧Aside0 (Kd.R Kd.string 9 w' w.heap.size (fun _=>True) v6 (dropN gs pre))∧Aside0 (Below w.heap.size w w'))
  case atStart=>exact ⟨[],ms,rfl,rfl,rfl,BK,B5,HG,HO,⟨Kd.R_nil _ _ _ _ _⟩,HB⟩
  case round=>
    clear BK HG HO HB B5;obtain ⟨pre,post,hms,hkq,rfl,BK,B5,HG,HO,HN,HB⟩:=hrel;obtain ⟨An,cn,en⟩:=Kd.R_slice HN.out;subst en
    cases post with
    | nil =>
      have c1:decide ((pre.length:Int)<(ms.length:Int))=false:=decide_eq_false (by rw [hms,List.append_nil];omega);rw [List.append_nil] at hms;subst hms;go_wp2_with (go_at_call 130;refine (sortNames_calls HC.out HCL.out HLL.out HB.out B5.out HN.out (by have:=HLN.out;have:=dropN_len gs ms;omega)).mono ?_;rintro e w7 ⟨rfl,ns,hn,hp,hs,hg⟩;have OWN:=own_typed (Kd.own_of_R HN.out);have n0_:=am_ (Kd.R_mono (Kd.R_grown (Kd.R_types2 HO.out OWN (by decide)) hg (fun k hk e=>hk e)) (fun _ _=>trivial));have n1_:=am_ (Kd.R_mono (Kd.R_grown (Kd.R_types2 HG.out OWN (by decide)) hg (fun k hk e=>hk e)) (fun _ _=>trivial));have n2_:=am_ (blk_row BK.out OWN (by decide) hg);have n3_:=am_ (pw_below_grown HB.out _ (below_size HB.out) hg (own_base (Kd.own_of_R HN.out)));have n4_:=Aside0.mk hn;have HP:Aside0 (GoneIs gs ms l ns):=Aside0.mk ⟨hp,hs⟩;clear HO HG BK B5 HN HB hn hp hs hg OWN;have HO:=n0_;have HG:=n1_;have BK:=n2_;have HB:=n3_;have HN:=n4_;clear n0_ n1_ n2_ n3_ n4_)
      have HLP:=am_ (show ns.length≤ms.length by rw [HP.out.1.length_eq];exact dropN_len gs ms);have elen:(dropN gs ms).length=ns.length:=HP.out.1.length_eq.symm;rw [elen] at HN ⊢;go_loopg [35] ns.length (fun kq v35 w'=> ∃(p2 q2:List ByteArray) (u:Value),ns=p2++q2∧kq=q2.length∧v35= .int .i64 (p2.length:Int)∧Aside0 (w'.heap[b]?=some (Obj.cells #[.slice Ag gs.length cg, .bool wide,u] 139 (0,0)))∧Aside0 (Kd.R k141 141 w' w.heap.size (fun _=>True) (.slice Ag gs.length cg) gs)∧Aside0 (Kd.R k76 76 w' w.heap.size (fun _=>True) u (out++p2.map delS))∧Aside0 (Kd.R Kd.string 9 w' w.heap.size (fun _=>True) (.slice An ns.length cn) ns)∧Aside0 (Below w.heap.size w w'))
      case atStart=>exact ⟨[],ns,vo,rfl,rfl,rfl,BK,HG,⟨by rw [List.map_nil,List.append_nil];exact HO.out⟩,HN,HB⟩
      case round=>
        clear BK HG HO HB HN;obtain ⟨p2,q2,u,hns,hkq2,rfl,BK,HG,HO,HN,HB⟩:=hrel
        cases q2 with
        | nil =>
          have c2:decide ((p2.length:Int)<(ns.length:Int))=false:=decide_eq_false (by rw [hns,List.append_nil];omega);rw [List.append_nil] at hns;subst hns;go_wp2
          (first|go_end0|((try simp only [Exit.inBlock,Exit.then]);refine bodyPost_ret (results_none rfl _ _ _) rfl ?_)|refine bodyPost_end (results_none rfl _ _ _) rfl ?_)
          first|exact ⟨rfl,_,HP.out,_,BK.out,HO.out,HB.out⟩|exact ⟨rfl,_,_,HP.out,BK.out,HO.out,HB.out⟩
        | cons s q2 =>
          have hn:ns.length=p2.length+(q2.length+1):=by rw [hns,List.length_append,List.length_cons]
          have c2:decide ((p2.length:Int)<(ns.length:Int))=true:=decide_eq_true (by omega);have p6:(0:Int)≤((p2.length:Nat):Int):=by omega
          have q6:((p2.length:Nat):Int)<(ns.length:Int):=by omega
          obtain ⟨ad,e6,k0⟩:=at_str (Kd.R_reads' HN.out).2.2 ((p2.length:Nat):Int) p6 q6;subst e6
          have es:rdOf ByteArray.empty ns ((p2.length:Nat):Int)=s:=by
            unfold rdOf;rw [Int.toNat_natCast,hns,List.getD_eq_getElem?_getD,List.getElem?_append_right (Nat.le_refl _),Nat.sub_self]
            rfl
          rw [es] at k0;simp only [Int.toNat_natCast] at k0;have HNS:=Aside0.mk hns;have HKQ:=Aside0.mk hkq2;have HNL:=Aside0.mk hn;have HLP:=am_ (show p2.length≤ms.length by have:=HLP.out;omega);clear hns hkq2 hn es;replace p6:=eq_true p6;replace q6:=eq_true q6;go_wp2_with (go_at_call 126;refine (planPut_calls w _ b _ _ _ _ (delS s) BK.out GE.out HB.out HO.out (by rw [List.length_append,List.length_map];have:=HLN.out;have:=HLP.out;omega)).mono ?_;rintro e w9 ⟨rfl,vo',hbk,ho,hb,hk⟩;have n0_:=am_ (R_keepS HN.out BK.out (by decide) hk);have n1_:=am_ (R_keepS HG.out BK.out (by decide) hk);clear HN HG BK HO HB hk;have HN:=n0_;have HG:=n1_;have BK:=Aside0.mk hbk;have HO:=Aside0.mk ho;have HB:=Aside0.mk hb;clear n0_ n1_ hbk ho hb)
          go_roundg q2.length
          case measure=>have:=HKQ.out;rw [this,List.length_cons];omega
          case rel=>exact ⟨p2++ [s],q2,_,by rw [HNS.out,List.append_assoc];rfl,rfl,by rw [List.length_append,List.length_singleton,nx_nat (n:=ns.length) (by have:=HNL.out;omega) (by have:=HLN.out;have:=HNL.out;have:=HP.out.1.length_eq;have:=dropN_len gs ms;omega)],BK,HG,⟨by rw [List.map_append,←List.append_assoc];exact HO.out⟩,HN,HB⟩
    | cons m post =>
      have hn:ms.length=pre.length+(post.length+1):=by rw [hms,List.length_append,List.length_cons]
      have c1:decide ((pre.length:Int)<(ms.length:Int))=true:=decide_eq_true (by omega);have p6:(0:Int)≤((pre.length:Nat):Int):=by omega
      have q6:((pre.length:Nat):Int)<(ms.length:Int):=by omega
      obtain ⟨ad,e6,k0,k1_,k2,k3,k4,k5⟩:=at_T84 HM.out ((pre.length:Nat):Int) p6 q6;subst e6
      have em:rd_T84 ms ((pre.length:Nat):Int)=m:=by
        rw [rd_pmark,Int.toNat_natCast,hms,List.getD_eq_getElem?_getD,List.getElem?_append_right (Nat.le_refl _),Nat.sub_self]
        rfl
      rw [em] at k0 k1_ k2 k3 k4 k5;simp only [Int.toNat_natCast] at k0 k1_ k2 k3 k4 k5;have k0:=zx_ HB k0;have k1_:=zx_ HB k1_;have k2:=zx_ HB k2;have k3:=zx_ HB k3;have k4:=zx_ HB k4;have k5:=zx_ HB k5;have HMS:=Aside0.mk hms;have HKQ:=Aside0.mk hkq;have HMN:=Aside0.mk hn;have HI:=am_ (show pre.length<ms.length by omega);clear hms hkq hn em;replace p6:=eq_true p6;replace q6:=eq_true q6
      cases hh:hasG gs m with
      | true =>
        have HH:=am_ (show dropN gs (pre++ [m])=dropN gs pre from by rw [dropN_append];unfold dropN;rw [if_pos hh];exact List.append_nil _);have hh2:gs.any (fun y=>y.f0.f0.toList==m.f0.toList)=true:=hh;clear hh
        go_wp2_with (first|((with_reducible refine gate_dst (N:=8) rfl ?_);refine bx_ (N:=8) (cs:=#[.string ⟨#[]⟩, .string ⟨#[]⟩, .int .i64 0, .int .i64 0, .int .i64 0, .int .i64 0]) (t:=84) ?_;intro gb8 hg w3 hbox hb;have NE8:=am_ (show b≠gb8 from by have:=blk_lt BK.out;omega);have NE58:=am_ (show gb5≠gb8 from by have:=blk_lt B5.out;omega);have GE8:=am_ (show w.heap.size≤gb8 from by rw [hg];exact below_size HB.out);replace HO:=am_ (Kd.R_below HO.out hb);replace HG:=am_ (Kd.R_below HG.out hb);replace HN:=am_ (Kd.R_below HN.out hb);replace BK:=am_ (blk_below BK.out hb);replace B5:=am_ (blk_below B5.out hb);replace HB:=am_ (below_step HB.out hb);have B8:=Aside0.mk hbox;clear hbox hb hg)|((with_reducible refine gate_store (t:=84) (p:=8) (v:= .tmp 16) rfl ?_);refine store_all B8.out 84 (.tmp 8) (.tmp 16) rfl rfl rfl (.agg #[.string m.f0, .string m.f1, .int .i64 m.f2.f0, .int .i64 m.f2.f1, .int .i64 m.f2.f2, .int .i64 m.f3]) [.string m.f0, .string m.f1, .int .i64 m.f2.f0, .int .i64 m.f2.f1, .int .i64 m.f2.f2, .int .i64 m.f3] rfl rfl rfl (by kernel_rfl) rfl (by intro q hq;simp only [List.mem_cons,List.not_mem_nil,or_false] at hq;rcases hq with rfl|rfl|rfl|rfl|rfl|rfl<;>rfl) ?_;intro w4 hbk hg;replace HO:=am_ (R_put HO.out B8.out (by decide) hg);replace HG:=am_ (R_put HG.out B8.out (by decide) hg);replace HN:=am_ (R_put HN.out B8.out (by decide) hg);replace BK:=am_ (blk_put_other BK.out hg NE8.out);replace B5:=am_ (blk_put_other B5.out hg NE58.out);replace HB:=am_ (below_put HB.out (below_size HB.out) hg GE8.out);replace B8:=am_ (hbk);clear hbk hg;have cb0:=zz_ BK 0;have c80:=zz_ B8 0)|(go_at_call 128;refine (hasGoal_calls 129 #[.pointer (some ⟨gb8,0,none⟩)] (fun y=>y.f0.f0.toList==m.f0.toList) (enters_of Try.func129 (by kernel_rfl) rfl) _ w.heap.size (fun W' x hb=>dropHas_calls W' gb8 m x (blk_below B8.out hb)) Ag cg gs HG.out (by have:=HLN.out;omega)).mono ?_;rintro e w5 ⟨rfl,hb⟩;try rw [hh2];replace HO:=am_ (Kd.R_below HO.out hb);replace HG:=am_ (Kd.R_below HG.out hb);replace HN:=am_ (Kd.R_below HN.out hb);replace BK:=am_ (blk_below BK.out hb);replace B5:=am_ (blk_below B5.out hb);replace B8:=am_ (blk_below B8.out hb);replace HB:=am_ (below_step HB.out hb);clear hb cb0 c80;have c80:=zz_ B8 0))
        go_roundg post.length
        case measure=>have:=HKQ.out;rw [this,List.length_cons];omega
        case rel=>exact ⟨pre++ [m],post,by rw [HMS.out,List.append_assoc];rfl,rfl,by rw [List.length_append,List.length_singleton,nx_nat (n:=ms.length) (by have:=HMN.out;omega) (by have:=HLN.out;omega)],BK,B5,HG,HO,⟨by rw [HH.out];exact HN.out⟩,HB⟩
      | false =>
        have HH:=am_ (show dropN gs (pre++ [m])=dropN gs pre++ [m.f0] from by rw [dropN_append];unfold dropN;rw [if_neg (by rw [hh];simp)];rfl);have hh2:gs.any (fun y=>y.f0.f0.toList==m.f0.toList)=false:=hh;clear hh
        go_wp2_with (first|((with_reducible refine gate_dst (N:=8) rfl ?_);refine bx_ (N:=8) (cs:=#[.string ⟨#[]⟩, .string ⟨#[]⟩, .int .i64 0, .int .i64 0, .int .i64 0, .int .i64 0]) (t:=84) ?_;intro gb8 hg w3 hbox hb;have NE8:=am_ (show b≠gb8 from by have:=blk_lt BK.out;omega);have NE58:=am_ (show gb5≠gb8 from by have:=blk_lt B5.out;omega);have GE8:=am_ (show w.heap.size≤gb8 from by rw [hg];exact below_size HB.out);replace HO:=am_ (Kd.R_below HO.out hb);replace HG:=am_ (Kd.R_below HG.out hb);replace HN:=am_ (Kd.R_below HN.out hb);replace BK:=am_ (blk_below BK.out hb);replace B5:=am_ (blk_below B5.out hb);replace HB:=am_ (below_step HB.out hb);have B8:=Aside0.mk hbox;clear hbox hb hg)|((with_reducible refine gate_store (t:=84) (p:=8) (v:= .tmp 16) rfl ?_);refine store_all B8.out 84 (.tmp 8) (.tmp 16) rfl rfl rfl (.agg #[.string m.f0, .string m.f1, .int .i64 m.f2.f0, .int .i64 m.f2.f1, .int .i64 m.f2.f2, .int .i64 m.f3]) [.string m.f0, .string m.f1, .int .i64 m.f2.f0, .int .i64 m.f2.f1, .int .i64 m.f2.f2, .int .i64 m.f3] rfl rfl rfl (by kernel_rfl) rfl (by intro q hq;simp only [List.mem_cons,List.not_mem_nil,or_false] at hq;rcases hq with rfl|rfl|rfl|rfl|rfl|rfl<;>rfl) ?_;intro w4 hbk hg;replace HO:=am_ (R_put HO.out B8.out (by decide) hg);replace HG:=am_ (R_put HG.out B8.out (by decide) hg);replace HN:=am_ (R_put HN.out B8.out (by decide) hg);replace BK:=am_ (blk_put_other BK.out hg NE8.out);replace B5:=am_ (blk_put_other B5.out hg NE58.out);replace HB:=am_ (below_put HB.out (below_size HB.out) hg GE8.out);replace B8:=am_ (hbk);clear hbk hg;have cb0:=zz_ BK 0;have c80:=zz_ B8 0)|(go_at_call 128;refine (hasGoal_calls 129 #[.pointer (some ⟨gb8,0,none⟩)] (fun y=>y.f0.f0.toList==m.f0.toList) (enters_of Try.func129 (by kernel_rfl) rfl) _ w.heap.size (fun W' x hb=>dropHas_calls W' gb8 m x (blk_below B8.out hb)) Ag cg gs HG.out (by have:=HLN.out;omega)).mono ?_;rintro e w5 ⟨rfl,hb⟩;try rw [hh2];replace HO:=am_ (Kd.R_below HO.out hb);replace HG:=am_ (Kd.R_below HG.out hb);replace HN:=am_ (Kd.R_below HN.out hb);replace BK:=am_ (blk_below BK.out hb);replace B5:=am_ (blk_below B5.out hb);replace B8:=am_ (blk_below B8.out hb);replace HB:=am_ (below_step HB.out hb);clear hb cb0 c80;have c80:=zz_ B8 0)|((with_reducible refine gate_builtin (b:= .append) (xs:=#[.tmp 24, .tmp 27]) rfl ?_);at_builtin;refine Kd.R_append Kd.string (w0:=w) w.heap.size rfl (.tmp 24) (.tmp 27) 85 9 (.string ⟨#[]⟩) 16 rfl Try.underlying85 info9 rfl (by decide) (by omega) _ (dropN gs pre) m.f0 [.string m.f0] (fun _=>True) (fun _=>False) rfl (by first|(go_simp;done)|(go_simp;rfl)|rfl) ?aP (fun _ hk=>hk.elim) (fun _ _=>trivial) HN.out HB.out (below_size HB.out) (by have:=HLN.out;have:=dropN_len gs pre;have:=HI.out;have:=HMN.out;omega) ?_;(case aP=>exact (rfl:Kd.M Kd.string _ _ _ m.f0 [.string m.f0]));intro v6 w6 ho hb hg hat;have OWN:=own_typed (Kd.own_of_R HN.out);have n0_:=am_ (Kd.R_mono (Kd.R_grown (Kd.R_types2 HO.out OWN (by decide)) hg (fun k hk e=>hk e)) (fun _ _=>trivial));have n1_:=am_ (Kd.R_mono (Kd.R_grown (Kd.R_types2 HG.out OWN (by decide)) hg (fun k hk e=>hk e)) (fun _ _=>trivial));have n2_:=am_ (blk_row BK.out OWN (by decide) hg);have n3_:=am_ (blk_row B5.out OWN (by decide) hg);have n4_:=Aside0.mk ho;have n5_:=Aside0.mk hb;clear HO HG BK B5 HN HB ho hb hg hat OWN;have HO:=n0_;have HG:=n1_;have BK:=n2_;have B5:=n3_;have HN:=n4_;have HB:=n5_;clear n0_ n1_ n2_ n3_ n4_ n5_))
        go_roundg post.length
        case measure=>have:=HKQ.out;rw [this,List.length_cons];omega
        case rel=>exact ⟨pre++ [m],post,by rw [HMS.out,List.append_assoc];rfl,rfl,by rw [List.length_append,List.length_singleton,nx_nat (n:=ms.length) (by have:=HMN.out;omega) (by have:=HLN.out;omega)],BK,B5,HG,HO,⟨by rw [HH.out];exact HN.out⟩,HB⟩
end Go.Proofs.Ytahidkjncljkaaa.Print

namespace Go.Proofs.Ytahidkjncljkaaa.Print
open Go.RowKit Go.Proofs.YtahidkjncljkaaaW.PrintWords Go.Proofs.YtahidkjncljkaaaW.PrintLast Go.Proofs.YtahidkjncljkaaaW.PrintMore
attribute [local go_sem] max2_int min2_int max_two min_two max_three min_three max_four min_four

mutual
def want_list_sums.l0:Nat→List (S39)→Int→Int→List (S39)→Option (Int)
 |0,_,_,_,_=>none
 |k+1,x9,x10,x11,x2000=>if x11<x10 then (if 0≤x11 then (if x11<(x9.length:Int) then (want_list_sums.l1 k ([]:List (S37)) x9 x10 x11 x2000 (x2000.length:Int) 0 x2000 ((rd_T39 x9 x11).f0) ((rd_T39 x9 x11).f1) ((rd_T39 x9 x11).f2.f0) ((rd_T39 x9 x11).f2.f1) ((rd_T39 x9 x11).f2.f2)) else (none)) else (none)) else (some 0)
def want_list_sums.l1:Nat→List (S37)→List (S39)→Int→Int→List (S39)→Int→Int→List (S39)→ByteArray→ByteArray→Int→Int→Int→Option (Int)
 |0,_,_,_,_,_,_,_,_,_,_,_,_,_=>none
 |k+1,x5,x9,x10,x11,x16,x17,x18,x2000,x4000,x4001,x4002,x4003,x4004=>if x18<x17 then (if 0≤x18 then (if x18<(x16.length:Int) then (if ((rd_T39 x16 x18).f1).toList=x4000.toList then (if x5.length<5864062014805 then (want_list_sums.l1 k (x5++ [(⟨(rd_T39 x16 x18).f2.f0,(rd_T39 x16 x18).f2.f1,(rd_T39 x16 x18).f2.f2⟩:S37)]) x9 x10 x11 x16 x17 (wrap64 (x18+1)) x2000 x4000 x4001 x4002 x4003 x4004) else (none)) else (want_list_sums.l1 k x5 x9 x10 x11 x16 x17 (wrap64 (x18+1)) x2000 x4000 x4001 x4002 x4003 x4004)) else (none)) else (none)) else ((vec_Add.f x5).bind fun bt9=>((vec_Le.f bt9.1 bt9.2.1 bt9.2.2 x4002 x4003 x4004).bind fun t12=>(if t12=true then (want_list_sums.l0 k x9 x10 (wrap64 (x11+1)) x2000) else (some 11))))
end
def want_list_sums.f (k:Nat) (l0_0:List (S39)):Option (Int):=want_list_sums.l0 k l0_0 (l0_0.length:Int) 0 l0_0
theorem want_list_sums.mono_l: ∀k,(∀y0 y1 y2 y3,LeO (want_list_sums.l0 k y0 y1 y2 y3) (want_list_sums.l0 (k+1) y0 y1 y2 y3))∧(∀y0 y1 y2 y3 y4 y5 y6 y7 y8 y9 y10 y11 y12,LeO (want_list_sums.l1 k y0 y1 y2 y3 y4 y5 y6 y7 y8 y9 y10 y11 y12) (want_list_sums.l1 (k+1) y0 y1 y2 y3 y4 y5 y6 y7 y8 y9 y10 y11 y12))
 |0=>⟨fun _ _ _ _ r h=>by simp [want_list_sums.l0] at h,fun _ _ _ _ _ _ _ _ _ _ _ _ _ r h=>by simp [want_list_sums.l1] at h⟩
 |k+1=>by
  obtain ⟨ih0,ih1⟩:=want_list_sums.mono_l k;refine ⟨?_, ?_⟩<;>(intros;first|unfold want_list_sums.l0|unfold want_list_sums.l1)<;>repeat' with_reducible first|apply ih0|apply ih1|apply LeO.refl|apply LeO.none|apply LeO.ite|refine LeO.bind ?_ fun _=> ?_
theorem want_list_sums.mono: ∀a0 k,LeO (want_list_sums.f k a0) (want_list_sums.f (k+1) a0):=by
 intro a0 k;obtain ⟨ih0,ih1⟩:=want_list_sums.mono_l k;unfold want_list_sums.f
 repeat' with_reducible first|apply ih0|apply ih1|apply LeO.refl|apply LeO.none|apply LeO.ite|refine LeO.bind ?_ fun _=> ?_
set_option maxHeartbeats 8000000 in
set_option maxRecDepth 100000 in
theorem want_list_sums.calls (k:Nat) (A0_0:Option Addr) (c0_0:Nat) (l0_0:List (S39)) (r:Int) (w:World) (hr0_0:Kd.C k39 w A0_0 l0_0.length l0_0) (hc0_0:l0_0.length≤c0_0) (h:want_list_sums.f k l0_0=some r):
  Calls Try.prog 75 #[.agg #[.slice A0_0 l0_0.length c0_0]] w fun e w'=>e= .returned (.int .i64 r)∧Below w.heap.size w w':=by
 have hu110:=Try.underlying110;have hu39:=Try.underlying39;have hu37:=Try.underlying37;have HR0_0:=Aside0.mk hr0_0;have HC0_0:=Aside0.mk hc0_0;clear hr0_0 hc0_0;have HB:=am_ (Below.refl w.heap.size w);have H:(want_list_sums.l0 k l0_0 (l0_0.length:Int) 0 l0_0)=some r:=h;clear h;have H':=Aside0.mk H;clear H;go_enter Try.func75,Try.ntmps75;go_wp2_with (first|((with_reducible refine gate_dst (N:=1) rfl ?_);refine bx_ (N:=1) (cs:=#[.slice A0_0 l0_0.length c0_0]) (t:=110) ?_;intro gb1 hg w2 hbox hb;have BK1:=am_ (hbox);have GE1:=am_ ((zg0_ HB hg:w.heap.size≤gb1));replace HB:=am_ (below_step (zl0_ HB) hb);clear hb hbox hg;have hcz3_0:=zz_ BK1 0;have hfz3_0:=blk_frozen BK1.out 0))
 go_loopg [11] k (fun kq v11 w'=> ∃(x11_1:Int),v11= .int .i64 x11_1∧Aside0 (want_list_sums.l0 kq l0_0 (l0_0.length:Int) x11_1 l0_0=some r)∧Aside0 (kq≤k)∧Aside0 (w'.heap[gb1]?=some (.cells #[(.slice A0_0 l0_0.length c0_0)] 110 (0,0)))∧Aside0 (Below w.heap.size w w'))
 case atStart=>exact ⟨(0),rf_,H',⟨Nat.le_refl _⟩,am_ (zb_ BK1),⟨zl1_ HB GE1⟩⟩
 case round=>
  clear H';obtain ⟨x11_1,rfl,HA,HK1,BK1,HB⟩:=hrel
  cases gk with
  |zero=>exact absurd HA.out (by simp [want_list_sums.l0])
  |succ k1=>
   have H:=HA.out;clear HA;simp only [want_list_sums.l0] at H;by_cases c4:x11_1<(l0_0.length:Int);rotate_left
   ·rw [if_neg c4] at H;have c4b0:=decide_eq_false c4;clear c4;obtain rfl:=Option.some.inj H;go_wp2
    go_ret
    exact ⟨by first|rfl|(simp [errW_none,errW_some]<;>rfl)|(simp [*,errW_none,errW_some]<;>rfl),zl1_ HB GE1⟩

   rw [if_pos c4] at H;have c4b0:=decide_eq_true c4;clear c4;replace H:=zif_ H;obtain ⟨c5,H⟩:=H;have c5b0:=decide_eq_true c5;clear c5;replace H:=zif_ H;obtain ⟨c6,H⟩:=H;have c6b0:=decide_eq_true c6;clear c6;have H':=Aside0.mk H;clear H;obtain ⟨p2,q2,ad2,e2,hx2_0,hx2_1,hx2_2,hx2_3,hx2_4⟩:=zat_ (at_T39 HR0_0.out x11_1);cases e2;replace hx2_0:=zx5_ HB hx2_0 hx2_1 hx2_2 hx2_3 hx2_4;clear hx2_1 hx2_2 hx2_3 hx2_4;obtain ⟨hx2_0,hx2_1,hx2_2,hx2_3,hx2_4⟩:=hx2_0;go_wp2_with (first|((with_reducible refine gate_dst (N:=4) rfl ?_);refine bx_ (N:=4) (cs:=#[.string (⟨#[]⟩:ByteArray), .string (⟨#[]⟩:ByteArray), .int .i64 0, .int .i64 0, .int .i64 0]) (t:=39) ?_;intro gb3 hg w7 hbox hb;have BK3:=am_ (hbox);have GE3:=am_ ((zg1_ HB GE1 hg:w.heap.size≤gb3));replace HB:=am_ (below_step (zl1_ HB GE1) hb);have NB1_3:=am_ ((zn_ BK1 hg:gb1≠gb3));have NB3_1:=am_ ((zm_ BK1 hg:gb3≠gb1));replace BK1:=bb_ BK1 hb;clear hb hbox hg;have hnb8:=NB3_1.out;have hnc8:=NB1_3.out;obtain ⟨hcz9_0,hcz9_1,hcz9_2,hcz9_3,hcz9_4,hfz9_0,hfz9_1,hfz9_2,hfz9_3,hfz9_4⟩:=y5_ BK3;have hcz10_0:=zz_ BK1 0;have hfz10_0:=blk_frozen BK1.out 0))
   go_loopg [5,18] k1 (fun kq v5 v18 w'=> ∃(x5_2:List (S37)) (x18_2:Int),v18= .int .i64 x18_2∧Aside0 (want_list_sums.l1 kq x5_2 l0_0 (l0_0.length:Int) x11_1 l0_0 (l0_0.length:Int) x18_2 l0_0 ((rd_T39 l0_0 x11_1).f0) ((rd_T39 l0_0 x11_1).f1) ((rd_T39 l0_0 x11_1).f2.f0) ((rd_T39 l0_0 x11_1).f2.f1) ((rd_T39 l0_0 x11_1).f2.f2)=some r)∧Aside0 (kq≤k1)∧Aside0 (Kd.R k37 37 w' w.heap.size (fun _=>True) v5 x5_2)∧Aside0 (w'.heap[gb1]?=some (.cells #[(.slice (some ad2) l0_0.length c0_0)] 110 (0,0)))∧Aside0 (w'.heap[gb3]?=some (.cells #[.string ((rd_T39 l0_0 x11_1).f0), .string ((rd_T39 l0_0 x11_1).f1), .int .i64 ((rd_T39 l0_0 x11_1).f2.f0), .int .i64 ((rd_T39 l0_0 x11_1).f2.f1), .int .i64 ((rd_T39 l0_0 x11_1).f2.f2)] 39 (0,0)))∧Aside0 (Below w.heap.size w w'))
   case atStart=>exact ⟨(([]:List (S37))),(0),rf_,H',⟨Nat.le_refl _⟩,⟨by first|exact Kd.R_nil _ _ _ _ _|exact Kd.N_nil _ _ _ _ _|exact Kd.V_nil _ _ _ _ _|exact Kd.Q_nil _ _ _ _ _|exact Kd.S_nil _ _ _ _ _⟩,⟨zw_ BK1⟩,⟨zw_ BK3⟩,⟨zl2_ HB GE1 GE3⟩⟩
   case round=>
    clear H';obtain ⟨x5_2,x18_2,rfl,HA,HK2,HO_5,BK1,BK3,HB⟩:=hrel
    cases gk with
    |zero=>exact absurd HA.out (by simp [want_list_sums.l1])
    |succ k2=>
     have H:=HA.out;clear HA;simp only [want_list_sums.l1] at H;by_cases c11:x18_2<(l0_0.length:Int)
     ·rw [if_pos c11] at H;have c11b0:=decide_eq_true c11;clear c11;replace H:=zif_ H;obtain ⟨c12,H⟩:=H;have c12b0:=decide_eq_true c12;clear c12;replace H:=zif_ H;obtain ⟨c13,H⟩:=H;have c13b0:=decide_eq_true c13;clear c13;by_cases c14:((rd_T39 l0_0 x18_2).f1).toList=((rd_T39 l0_0 x11_1).f0).toList;rotate_left
      ·rw [if_neg c14] at H;have c14b0:=beq_eq_false_iff_ne.mpr c14;have c14b1:=bne_iff_ne.mpr c14;have H':=Aside0.mk H;clear H;obtain ⟨p4,q4,ad4,e4,hx4_0,hx4_1,hx4_2,hx4_3,hx4_4⟩:=zat_ (at_T39 HR0_0.out x18_2);obtain rfl:ad2=ad4:=(by injection e4);replace hx4_0:=zx5_ HB hx4_0 hx4_1 hx4_2 hx4_3 hx4_4;clear hx4_1 hx4_2 hx4_3 hx4_4;obtain ⟨hx4_0,hx4_1,hx4_2,hx4_3,hx4_4⟩:=hx4_0;go_wp2_with (first|((with_reducible refine gate_dst (N:=7) rfl ?_);refine bx_ (N:=7) (cs:=#[.string (⟨#[]⟩:ByteArray), .string (⟨#[]⟩:ByteArray), .int .i64 0, .int .i64 0, .int .i64 0]) (t:=39) ?_;intro gb5 hg w23 hbox hb;replace HO_5:=ob_ HO_5 hb;have BK5:=am_ (hbox);have GE5:=am_ ((zg2_ HB GE1 GE3 hg:w.heap.size≤gb5));replace HB:=am_ (below_step (zl2_ HB GE1 GE3) hb);have NB1_5:=am_ ((zn_ BK1 hg:gb1≠gb5));have NB5_1:=am_ ((zm_ BK1 hg:gb5≠gb1));replace BK1:=bb_ BK1 hb;have NB3_5:=am_ ((zn_ BK3 hg:gb3≠gb5));have NB5_3:=am_ ((zm_ BK3 hg:gb5≠gb3));replace BK3:=bb_ BK3 hb;clear hb hbox hg;have hnb24:=NB5_1.out;have hnc24:=NB1_5.out;have hnb25:=NB5_3.out;have hnc25:=NB3_5.out;obtain ⟨hcz26_0,hcz26_1,hcz26_2,hcz26_3,hcz26_4,hfz26_0,hfz26_1,hfz26_2,hfz26_3,hfz26_4⟩:=y5_ BK5;have hnb27:=NB3_1.out;have hnc27:=NB1_3.out;obtain ⟨hcz28_0,hcz28_1,hcz28_2,hcz28_3,hcz28_4⟩:=x5_ BK3;have hfz28_0:=blk_frozen BK3.out 0;have hfz28_1:=blk_frozen BK3.out 1;have hfz28_2:=blk_frozen BK3.out 2;have hfz28_3:=blk_frozen BK3.out 3;have hfz28_4:=blk_frozen BK3.out 4))
       go_roundg k2
       case measure=>have:=HK1.out;have:=HK2.out;omega
       case rel=>exact ⟨(x5_2),(wrap64 (x18_2+1)),rf_,H',⟨by have:=HK1.out;have:=HK2.out;omega⟩,⟨zy_ HO_5 BK5⟩,⟨zw_ BK1⟩,⟨zw_ BK3⟩,⟨zl3_ HB GE1 GE3 GE5⟩⟩
      rw [if_pos c14] at H;have c14b0:=beq_iff_eq.mpr c14;have c14b1:=bne_eq_false_iff_eq.mpr c14;clear c14;replace H:=zif_ H;obtain ⟨c15,H⟩:=H;have LMc15:=Aside0.mk c15;clear c15;obtain ⟨y6,hy6⟩: ∃y_:List (S37),y_=(x5_2++ [(⟨(rd_T39 l0_0 x18_2).f2.f0,(rd_T39 l0_0 x18_2).f2.f1,(rd_T39 l0_0 x18_2).f2.f2⟩:S37)]):=⟨_,rfl⟩;(first|replace H:=zsb_ hy6 H|rw [←hy6] at H);have Ny6:=Aside0.mk hy6;clear hy6;have H':=Aside0.mk H;clear H;obtain ⟨p4,q4,ad4,e4,hx4_0,hx4_1,hx4_2,hx4_3,hx4_4⟩:=zat_ (at_T39 HR0_0.out x18_2);obtain rfl:ad2=ad4:=(by injection e4);replace hx4_0:=zx5_ HB hx4_0 hx4_1 hx4_2 hx4_3 hx4_4;clear hx4_1 hx4_2 hx4_3 hx4_4;obtain ⟨hx4_0,hx4_1,hx4_2,hx4_3,hx4_4⟩:=hx4_0
      go_wp2_with (first|((with_reducible refine gate_dst (N:=7) rfl ?_);refine bx_ (N:=7) (cs:=#[.string (⟨#[]⟩:ByteArray), .string (⟨#[]⟩:ByteArray), .int .i64 0, .int .i64 0, .int .i64 0]) (t:=39) ?_;intro gb5 hg w16 hbox hb;replace HO_5:=ob_ HO_5 hb;have BK5:=am_ (hbox);have GE5:=am_ ((zg2_ HB GE1 GE3 hg:w.heap.size≤gb5));replace HB:=am_ (below_step (zl2_ HB GE1 GE3) hb);have NB1_5:=am_ ((zn_ BK1 hg:gb1≠gb5));have NB5_1:=am_ ((zm_ BK1 hg:gb5≠gb1));replace BK1:=bb_ BK1 hb;have NB3_5:=am_ ((zn_ BK3 hg:gb3≠gb5));have NB5_3:=am_ ((zm_ BK3 hg:gb5≠gb3));replace BK3:=bb_ BK3 hb;clear hb hbox hg;have hnb17:=NB5_1.out;have hnc17:=NB1_5.out;have hnb18:=NB5_3.out;have hnc18:=NB3_5.out;obtain ⟨hcz19_0,hcz19_1,hcz19_2,hcz19_3,hcz19_4,hfz19_0,hfz19_1,hfz19_2,hfz19_3,hfz19_4⟩:=y5_ BK5;have hnb20:=NB3_1.out;have hnc20:=NB1_3.out;obtain ⟨hcz21_0,hcz21_1,hcz21_2,hcz21_3,hcz21_4⟩:=x5_ BK3;have hfz21_0:=blk_frozen BK3.out 0;have hfz21_1:=blk_frozen BK3.out 1;have hfz21_2:=blk_frozen BK3.out 2;have hfz21_3:=blk_frozen BK3.out 3;have hfz21_4:=blk_frozen BK3.out 4)|((with_reducible refine gate_builtin (b:= .append) (xs:=#[.tmp 27, .tmp 30]) rfl ?_);at_builtin;refine Kd.R_append k37 (w0:=w) w.heap.size rfl (.tmp 27) (.tmp 30) 161 37 (.agg #[(.int .i64 0),(.int .i64 0),(.int .i64 0)]) 24 rfl Try.underlying161 info37 rfl (by decide) (by omega) u5 x5_2 (⟨(rd_T39 l0_0 x18_2).f2.f0,(rd_T39 l0_0 x18_2).f2.f1,(rd_T39 l0_0 x18_2).f2.f2⟩:S37) [.int .i64 ((rd_T39 l0_0 x18_2).f2.f0), .int .i64 ((rd_T39 l0_0 x18_2).f2.f1), .int .i64 ((rd_T39 l0_0 x18_2).f2.f2)] (fun _=>True) (fun _=>False) rfl (by first|(go_simp;done)|(go_simp;rfl)) ?aP (fun _ hk=>hk.elim) ?aF ?aO ?aB ?aS ?aL ?_;(case aP=>exact k37_mkM _ _ _ (⟨(rd_T39 l0_0 x18_2).f2.f0,(rd_T39 l0_0 x18_2).f2.f1,(rd_T39 l0_0 x18_2).f2.f2⟩:S37));(case aB=>exact (zl3_ HB GE1 GE3 GE5));(case aF=>exact (fun _ _=>trivial));(case aO=>exact (by refine zt_ ?_;exact Kd.R_mono (Kd.R_far (p:=⟨gb5,4,none⟩) (Kd.R_far (p:=⟨gb5,3,none⟩) (Kd.R_far (p:=⟨gb5,2,none⟩) (Kd.R_far (p:=⟨gb5,1,none⟩) (Kd.R_far (p:=⟨gb5,0,none⟩) (Kd.R_types HO_5.out BK5.out (by decide)) (fun _ hk=>hk.2) (.string ((rd_T39 l0_0 x18_2).f0))) (fun _ hk=>hk.2) (.string ((rd_T39 l0_0 x18_2).f1))) (fun _ hk=>hk.2) (.int .i64 ((rd_T39 l0_0 x18_2).f2.f0))) (fun _ hk=>hk.2) (.int .i64 ((rd_T39 l0_0 x18_2).f2.f1))) (fun _ hk=>hk.2) (.int .i64 ((rd_T39 l0_0 x18_2).f2.f2))) (fun _ hk=>trivial)));(case aS=>exact (below_size (zl3_ HB GE1 GE3 GE5)));(case aL=>have:=LMc15.out;omega);intro v7 w22 ho hb hg hat;rw [←Ny6.out] at ho;have n0_:=am_ (blk_grown (g:=gb1) (o:= .cells #[.slice (some ad2) l0_0.length c0_0] 110 (0,0)) (zw_ BK1) hg (Kd.R_ne HO_5.out BK1.out (by decide)));have n1_:=am_ (blk_grown (g:=gb3) (o:= .cells #[.string ((rd_T39 l0_0 x11_1).f0), .string ((rd_T39 l0_0 x11_1).f1), .int .i64 ((rd_T39 l0_0 x11_1).f2.f0), .int .i64 ((rd_T39 l0_0 x11_1).f2.f1), .int .i64 ((rd_T39 l0_0 x11_1).f2.f2)] 39 (0,0)) (zw_ BK3) hg (Kd.R_ne HO_5.out BK3.out (by decide)));have n2_:=am_ (blk_grown (g:=gb5) (o:= .cells #[.string ((rd_T39 l0_0 x18_2).f0), .string ((rd_T39 l0_0 x18_2).f1), .int .i64 ((rd_T39 l0_0 x18_2).f2.f0), .int .i64 ((rd_T39 l0_0 x18_2).f2.f1), .int .i64 ((rd_T39 l0_0 x18_2).f2.f2)] 39 (0,0)) (zw_ BK5) hg (Kd.R_ne HO_5.out BK5.out (by decide)));have n3_:=am_ (hb);have n4_:=am_ (ho);clear BK1;clear BK3;clear BK5;clear HB;clear HO_5;have BK1:=n0_;have BK3:=n1_;have BK5:=n2_;have HB:=n3_;have HO8:=n4_;clear n0_ n1_ n2_ n3_ n4_;clear ho hb hg hat))
      go_roundg k2
      case measure=>have:=HK1.out;have:=HK2.out;omega
      case rel=>exact ⟨(y6),(wrap64 (x18_2+1)),rf_,H',⟨by have:=HK1.out;have:=HK2.out;omega⟩,am_ (zr_ HO8),am_ (zb_ BK1),am_ (zb_ BK3),⟨zl3_ HB GE1 GE3 GE5⟩⟩
     rw [if_neg c11] at H;have c11b0:=decide_eq_false c11;clear c11;replace H:=zbd_ H;obtain ⟨⟨t9,t10,t11⟩,A29,H⟩:=H;try dsimp only at H
     replace H:=zbd_ H;obtain ⟨t12,A30,H⟩:=H;try dsimp only at H
     by_cases c31:t12=true
     ·subst c31;rw [if_pos rfl] at H;have H':=Aside0.mk H;clear H;try go_wp2
      replace HO_5:=am_ (Kd.R_drew HO_5.out);replace BK1:=am_ (blk_drew BK1.out);replace BK3:=am_ (blk_drew BK3.out);replace HB:=am_ (below_drew1 HB.out);obtain ⟨Ao33,co33,eo33⟩:=Kd.R_slice HO_5.out;(first|subst eo33|cases eo33);refine start_ (n:=6) (S:=fun w'=>w'.cell? ⟨gb3,0,none⟩=some (.string ((rd_T39 l0_0 x11_1).f0))∧w'.cell? ⟨gb3,1,none⟩=some (.string ((rd_T39 l0_0 x11_1).f1))∧w'.cell? ⟨gb3,2,none⟩=some (.int .i64 ((rd_T39 l0_0 x11_1).f2.f0))∧w'.cell? ⟨gb3,3,none⟩=some (.int .i64 ((rd_T39 l0_0 x11_1).f2.f1))∧w'.cell? ⟨gb3,4,none⟩=some (.int .i64 ((rd_T39 l0_0 x11_1).f2.f2))) (ds:=[]) (bt_ 6 0) (by kernel_rfl) rfl rfl ⟨(blk_cell BK3.out 0).trans rfl,(blk_cell BK3.out 1).trans rfl,(blk_cell BK3.out 2).trans rfl,(blk_cell BK3.out 3).trans rfl,(blk_cell BK3.out 4).trans rfl⟩ (fun hHeld=> ?_);generalize wr.drew=w32 at HO_5 BK1 BK3 HB hHeld ⊢;refine pure_ (i:=0) (N:=some 33) (v:= ?_) (a':= ?_) (bt_ 6 1) rfl rfl (by kernel_rfl) (fun _ _ _ h=>h) (Or.inl ⟨by rfl, ?_⟩) ?_ ?_;rotate_left
      ·intro w';go_simp
       with_reducible rfl
      rotate_left
      ·simp only [Act.put,List.setIfInBounds_toArray,List.set_cons_zero,List.set_cons_succ,i64_w,i32_w]
       rfl
      refine pure_ (i:=2) (N:=some 35) (v:= ?_) (a':= ?_) (bt_ 6 5) rfl rfl (by kernel_rfl) (fun _ _ _ h=>h) (Or.inl ⟨by rfl, ?_⟩) ?_ ?_;rotate_left
      ·intro w';go_simp
       with_reducible rfl
      rotate_left
      ·simp only [Act.put,List.setIfInBounds_toArray,List.set_cons_zero,List.set_cons_succ,i64_w,i32_w]
       rfl
      refine take_ (i:=3) (N:=some 36) (v:= ?_) (a':= ?_) (bt_ 6 13) rfl rfl (by kernel_rfl) (fun _ _ _ h=>h) (Or.inl ⟨by rfl, ?_⟩) hHeld ?_ ?_;rotate_left
      ·rintro w' ⟨s0,s1,s2,s3,s4⟩;go_simp
       with_reducible rfl
      rotate_left
      ·simp only [Act.put,List.setIfInBounds_toArray,List.set_cons_zero,List.set_cons_succ,i64_w,i32_w]
       rfl
      refine one_ (i:=1) (N:=some 34) (bt_ 6 15) rfl rfl (by kernel_rfl) (by decide) (fun K hK=> ?_);refine gs_ Try.func115 #[.slice Ao33 x5_2.length co33] ?_
      with_reducible refine (vec_Add.calls _ _ x5_2 t9 t10 t11 _ ?side1 ?side2 A29.out).mono ?_
      (case side1=>exact zc_ (Kd.R_reads' HO_5.out).2.2);(case side2=>exact (Kd.R_reads' HO_5.out).2.1);rintro e w34 ⟨rfl,hb⟩;refine ⟨_,rfl, ?_⟩;replace HO_5:=ob_ HO_5 hb;replace BK1:=bb_ BK1 hb;replace BK3:=bb_ BK3 hb;replace HB:=am_ (below_step (zl2_ HB GE1 GE3) hb);(try clear hb);(try clear hb2);(try clear hk);(try clear hi);refine hK.out _ _ ⟨(blk_cell BK3.out 0).trans rfl,(blk_cell BK3.out 1).trans rfl,(blk_cell BK3.out 2).trans rfl,(blk_cell BK3.out 3).trans rfl,(blk_cell BK3.out 4).trans rfl⟩ (fun hHeld=> ?_);clear hK K;refine no_ (N:=some 34) ?_;refine one_ (i:=4) (N:=some 37) (bt_ 6 31) rfl rfl (by kernel_rfl) (by decide) (fun K hK=> ?_);refine gs_ Try.func114 #[.agg #[.int .i64 t9, .int .i64 t10, .int .i64 t11], .agg #[.int .i64 ((rd_T39 l0_0 x11_1).f2.f0), .int .i64 ((rd_T39 l0_0 x11_1).f2.f1), .int .i64 ((rd_T39 l0_0 x11_1).f2.f2)]] ?_
      with_reducible refine (vec_Le.calls t9 t10 t11 ((rd_T39 l0_0 x11_1).f2.f0) ((rd_T39 l0_0 x11_1).f2.f1) ((rd_T39 l0_0 x11_1).f2.f2) true _ A30.out).mono ?_
      rintro e w35 ⟨rfl,hb⟩;refine ⟨_,rfl, ?_⟩;replace HO_5:=ob_ HO_5 hb;replace BK1:=bb_ BK1 hb;replace BK3:=bb_ BK3 hb;replace HB:=am_ (below_step (zl2_ HB GE1 GE3) hb);(try clear hb);(try clear hb2);(try clear hk);(try clear hi);refine hK.out _ _ ⟨(blk_cell BK3.out 0).trans rfl,(blk_cell BK3.out 1).trans rfl,(blk_cell BK3.out 2).trans rfl,(blk_cell BK3.out 3).trans rfl,(blk_cell BK3.out 4).trans rfl⟩ (fun hHeld=> ?_);clear hK K;refine no_ (N:=some 37) ?_;refine pure_ (i:=5) (N:=some 38) (v:= ?_) (a':= ?_) (bt_ 6 63) rfl rfl (by kernel_rfl) (fun _ _ _ h=>h) (Or.inl ⟨by rfl, ?_⟩) ?_ ?_;rotate_left
      ·intro w';go_simp
       with_reducible rfl
      rotate_left
      ·simp only [Act.put,List.setIfInBounds_toArray,List.set_cons_zero,List.set_cons_succ,i64_w,i32_w]
       rfl
      refine done_ (by kernel_rfl) ?_;try go_wp2
      go_roundg k2
      case measure=>have:=HK1.out;have:=HK2.out;omega
      case rel=>exact ⟨(wrap64 (x11_1+1)),rf_,H',⟨by have:=HK1.out;have:=HK2.out;omega⟩,am_ (zb_ BK1),⟨zl2_ HB GE1 GE3⟩⟩
     replace c31:=Bool.eq_false_iff.mpr c31;subst c31;rw [if_neg (show¬(false=true) by decide)] at H;obtain rfl:=Option.some.inj H;try go_wp2
     replace HO_5:=am_ (Kd.R_drew HO_5.out);replace BK1:=am_ (blk_drew BK1.out);replace BK3:=am_ (blk_drew BK3.out);replace HB:=am_ (below_drew1 HB.out);obtain ⟨Ao37,co37,eo37⟩:=Kd.R_slice HO_5.out;(first|subst eo37|cases eo37);refine start_ (n:=6) (S:=fun w'=>w'.cell? ⟨gb3,0,none⟩=some (.string ((rd_T39 l0_0 x11_1).f0))∧w'.cell? ⟨gb3,1,none⟩=some (.string ((rd_T39 l0_0 x11_1).f1))∧w'.cell? ⟨gb3,2,none⟩=some (.int .i64 ((rd_T39 l0_0 x11_1).f2.f0))∧w'.cell? ⟨gb3,3,none⟩=some (.int .i64 ((rd_T39 l0_0 x11_1).f2.f1))∧w'.cell? ⟨gb3,4,none⟩=some (.int .i64 ((rd_T39 l0_0 x11_1).f2.f2))) (ds:=[]) (bt_ 6 0) (by kernel_rfl) rfl rfl ⟨(blk_cell BK3.out 0).trans rfl,(blk_cell BK3.out 1).trans rfl,(blk_cell BK3.out 2).trans rfl,(blk_cell BK3.out 3).trans rfl,(blk_cell BK3.out 4).trans rfl⟩ (fun hHeld=> ?_);generalize wr.drew=w36 at HO_5 BK1 BK3 HB hHeld ⊢;refine pure_ (i:=0) (N:=some 33) (v:= ?_) (a':= ?_) (bt_ 6 1) rfl rfl (by kernel_rfl) (fun _ _ _ h=>h) (Or.inl ⟨by rfl, ?_⟩) ?_ ?_;rotate_left
     ·intro w';go_simp
      with_reducible rfl
     rotate_left
     ·simp only [Act.put,List.setIfInBounds_toArray,List.set_cons_zero,List.set_cons_succ,i64_w,i32_w]
      rfl
     refine pure_ (i:=2) (N:=some 35) (v:= ?_) (a':= ?_) (bt_ 6 5) rfl rfl (by kernel_rfl) (fun _ _ _ h=>h) (Or.inl ⟨by rfl, ?_⟩) ?_ ?_;rotate_left
     ·intro w';go_simp
      with_reducible rfl
     rotate_left
     ·simp only [Act.put,List.setIfInBounds_toArray,List.set_cons_zero,List.set_cons_succ,i64_w,i32_w]
      rfl
     refine take_ (i:=3) (N:=some 36) (v:= ?_) (a':= ?_) (bt_ 6 13) rfl rfl (by kernel_rfl) (fun _ _ _ h=>h) (Or.inl ⟨by rfl, ?_⟩) hHeld ?_ ?_;rotate_left
     ·rintro w' ⟨s0,s1,s2,s3,s4⟩;go_simp
      with_reducible rfl
     rotate_left
     ·simp only [Act.put,List.setIfInBounds_toArray,List.set_cons_zero,List.set_cons_succ,i64_w,i32_w]
      rfl
     refine one_ (i:=1) (N:=some 34) (bt_ 6 15) rfl rfl (by kernel_rfl) (by decide) (fun K hK=> ?_);refine gs_ Try.func115 #[.slice Ao37 x5_2.length co37] ?_
     with_reducible refine (vec_Add.calls _ _ x5_2 t9 t10 t11 _ ?side1 ?side2 A29.out).mono ?_
     (case side1=>exact zc_ (Kd.R_reads' HO_5.out).2.2);(case side2=>exact (Kd.R_reads' HO_5.out).2.1);rintro e w38 ⟨rfl,hb⟩;refine ⟨_,rfl, ?_⟩;replace HO_5:=ob_ HO_5 hb;replace BK1:=bb_ BK1 hb;replace BK3:=bb_ BK3 hb;replace HB:=am_ (below_step (zl2_ HB GE1 GE3) hb);(try clear hb);(try clear hb2);(try clear hk);(try clear hi);refine hK.out _ _ ⟨(blk_cell BK3.out 0).trans rfl,(blk_cell BK3.out 1).trans rfl,(blk_cell BK3.out 2).trans rfl,(blk_cell BK3.out 3).trans rfl,(blk_cell BK3.out 4).trans rfl⟩ (fun hHeld=> ?_);clear hK K;refine no_ (N:=some 34) ?_;refine one_ (i:=4) (N:=some 37) (bt_ 6 31) rfl rfl (by kernel_rfl) (by decide) (fun K hK=> ?_);refine gs_ Try.func114 #[.agg #[.int .i64 t9, .int .i64 t10, .int .i64 t11], .agg #[.int .i64 ((rd_T39 l0_0 x11_1).f2.f0), .int .i64 ((rd_T39 l0_0 x11_1).f2.f1), .int .i64 ((rd_T39 l0_0 x11_1).f2.f2)]] ?_
     with_reducible refine (vec_Le.calls t9 t10 t11 ((rd_T39 l0_0 x11_1).f2.f0) ((rd_T39 l0_0 x11_1).f2.f1) ((rd_T39 l0_0 x11_1).f2.f2) false _ A30.out).mono ?_
     rintro e w39 ⟨rfl,hb⟩;refine ⟨_,rfl, ?_⟩;replace HO_5:=ob_ HO_5 hb;replace BK1:=bb_ BK1 hb;replace BK3:=bb_ BK3 hb;replace HB:=am_ (below_step (zl2_ HB GE1 GE3) hb);(try clear hb);(try clear hb2);(try clear hk);(try clear hi);refine hK.out _ _ ⟨(blk_cell BK3.out 0).trans rfl,(blk_cell BK3.out 1).trans rfl,(blk_cell BK3.out 2).trans rfl,(blk_cell BK3.out 3).trans rfl,(blk_cell BK3.out 4).trans rfl⟩ (fun hHeld=> ?_);clear hK K;refine no_ (N:=some 37) ?_;refine pure_ (i:=5) (N:=some 38) (v:= ?_) (a':= ?_) (bt_ 6 63) rfl rfl (by kernel_rfl) (fun _ _ _ h=>h) (Or.inl ⟨by rfl, ?_⟩) ?_ ?_;rotate_left
     ·intro w';go_simp
      with_reducible rfl
     rotate_left
     ·simp only [Act.put,List.setIfInBounds_toArray,List.set_cons_zero,List.set_cons_succ,i64_w,i32_w]
      rfl
     refine done_ (by kernel_rfl) ?_;try go_wp2
     go_ret
     exact ⟨by first|rfl|(simp [errW_none,errW_some]<;>rfl)|(simp [*,errW_none,errW_some]<;>rfl),zl2_ HB GE1 GE3⟩
def wloose (l:List (S39)) (w:S39):Bool:= !decide (w.f1=⟨#[]⟩) && decide (wplace l w.f1<0)
def wflat (l:List (S39)) (w:S39):Bool:=decide (fillR l w.f0=0)
noncomputable def want_Check.f (k:Nat) (l0:List (S39)):Option Int:=open Classical in
 if 120<l0.length then some 4 else if smallW l0 then (if wnames l0 l0 0=0 then (if l0.any (wloose l0)=true then some 2 else if l0.any (wflat l0)=true then some 10 else want_list_sums.f k l0) else some (wnames l0 l0 0)) else none
open Classical in
theorem want_Check.mono: ∀a0 k,LeO (want_Check.f k a0) (want_Check.f (k+1) a0):=by
 intro a0 k;unfold want_Check.f
 repeat' with_reducible first|apply want_list_sums.mono|apply LeO.refl|apply LeO.ite|refine LeO.bind ?_ fun _=> ?_
theorem any_drop {l:List S39} (p:S39→Bool) {i:Nat} (h:i<l.length):(l.drop i).any p=(p (rd_T39 l i)||(l.drop (i+1)).any p):=by
 rw [List.drop_eq_getElem_cons h,List.any_cons]
 have e:rd_T39 l (i:Int)=l[i]:=by
  show l.getD (i:Int).toNat _=_
  rw [Int.toNat_natCast,List.getD_eq_getElem?_getD,List.getElem?_eq_getElem h,Option.getD_some]
 rw [e]
set_option maxHeartbeats 8000000 in
set_option maxRecDepth 100000 in
theorem want_Check.calls (k:Nat) (A0:Option Addr) (c0:Nat) (l0:List (S39)) (r:Int) (w:World) (hr0:Kd.C k39 w A0 l0.length l0) (hc0:l0.length≤c0) (h:want_Check.f k l0=some r):
    Calls Try.prog 26 #[.slice A0 l0.length c0] w fun e w'=>e= .returned (.int .i64 r)∧Below w.heap.size w w':=by
  obtain ⟨l,rfl⟩: ∃l,l=l0:=⟨_,rfl⟩;obtain ⟨A,rfl⟩: ∃A,A=A0:=⟨_,rfl⟩;obtain ⟨c,rfl⟩: ∃c,c=c0:=⟨_,rfl⟩;have hu113:=Try.underlying113;have hu110:=Try.underlying110;have hu39:=Try.underlying39;unfold want_Check.f at h;have HR:=Aside0.mk hr0;have HC:=Aside0.mk hc0;have HB:=am_ (Below.refl w.heap.size w);clear hr0 hc0;by_cases h1:120<l.length
  · rw [if_pos h1] at h
    obtain rfl:=Option.some.inj h
    have hz:(120:Int)<(l.length:Int):=by omega
    clear h
    go_enter Try.func26,Try.ntmps26
    go_wp2
    go_ret
    exact ⟨rfl,HB.out⟩
  rw [if_neg h1] at h
  split at h
  case isFalse=>cases h
  case isTrue hs=>
  have hl:l.length≤1000:=by omega
  have hz: ¬(120:Int)<(l.length:Int):=by omega
  have HS:=Aside0.mk hs;have HL:=Aside0.mk hl;have HF:=Aside0.mk h;clear hs hl h1 h;go_enter Try.func26,Try.ntmps26;by_cases hn:wnames l l 0=0
  case neg=>
    rw [if_neg hn] at HF;have hnb:(wnames l l 0 !=0)=true:=bne_iff_ne.mpr hn;clear hn;go_wp2_with (first|((with_reducible refine gate_dst (N:=15) rfl ?_);refine bx_ (N:=15) (cs:=#[.slice A l.length c, .map none]) (t:=113) ?_;intro gb15 hg w1 hbox hb;have BK15:=am_ (hbox);have GE15:=am_ ((by rw [hg];exact below_size HB.out:w.heap.size≤gb15));replace HB:=am_ (below_step HB.out hb);have EQ15:=am_ (hg);clear hb hbox hg;have cgb15_0:=zz_ BK15 0)|(go_at_call 72;refine (wantNames_calls A c l _ (Kd.C_below HR.out HB.out) HC.out (by have:=HL.out;omega)).mono ?_;rintro e w2 ⟨rfl,hb⟩;have n0_:=am_ (below_step HB.out hb);have n1_:=am_ (blk_below BK15.out hb);clear HB BK15 hb cgb15_0;have HB:=n0_;have BK15:=n1_;clear n0_ n1_))
    go_ret
    exact ⟨congrArg (fun z=>Ending.returned (.int .i64 z)) (Option.some.inj HF.out),HB.out⟩
  rw [if_pos hn] at HF;have hnb:(wnames l l 0 !=0)=false:=by rw [hn];rfl
  clear hn;go_wp2_with (first|((with_reducible refine gate_dst (N:=15) rfl ?_);refine bx_ (N:=15) (cs:=#[.slice A l.length c, .map none]) (t:=113) ?_;intro gb15 hg w1 hbox hb;have BK15:=am_ (hbox);have GE15:=am_ ((by rw [hg];exact below_size HB.out:w.heap.size≤gb15));replace HB:=am_ (below_step HB.out hb);have EQ15:=am_ (hg);clear hb hbox hg;have cgb15_0:=zz_ BK15 0)|(go_at_call 72;refine (wantNames_calls A c l _ (Kd.C_below HR.out HB.out) HC.out (by have:=HL.out;omega)).mono ?_;rintro e w2 ⟨rfl,hb⟩;have n0_:=am_ (below_step HB.out hb);have n1_:=am_ (blk_below BK15.out hb);clear HB BK15 hb cgb15_0;have HB:=n0_;have BK15:=n1_;clear n0_ n1_))
  clear hz hnb;go_loopg [26] l.length (fun kq v26 w'=> ∃i:Nat,v26= .int .i64 i∧i≤l.length∧l.length - i≤kq∧Aside0 (Below w.heap.size w w')∧Aside0 (w'.heap[gb15]?=some (.cells #[.slice A l.length c, .map none] 113 (0,0)))∧Aside0 (l.any (wloose l)=(l.drop i).any (wloose l)))
  case atStart=>exact ⟨0,rfl,by omega,by omega,HB,BK15,⟨rfl⟩⟩
  case round=>
    clear HB BK15;obtain ⟨i,rfl,hil,hkq,HB,BK15,HA⟩:=hrel;by_cases hlt:i<l.length;rotate_left
    · obtain rfl : i = l.length := by omega
      have a: ¬l.any (wloose l)=true:=by rw [HA.out,List.drop_length];simp
      rw [if_neg a] at HF
      clear a HA
      have cb15_0:=zz_ BK15 0
      go_wp2_with (go_at_call 74;refine (wantFill_calls w _ gb15 A c l none BK15.out GE15.out HB.out HR.out HC.out HL.out HS.out).mono ?_;rintro e w3 ⟨rfl,mb,n,hbk,hm,hb,_⟩;clear BK15 HB;have BK15:=Aside0.mk hbk;have MP:=Aside0.mk hm;have HB:=Aside0.mk hb;clear hbk hm hb cb15_0)
      go_loopg [48] l.length (fun kq v48 w'=> ∃i:Nat,v48= .int .i64 i∧i≤l.length∧l.length - i≤kq∧Aside0 (Below w.heap.size w w')∧Aside0 (w'.heap[gb15]?=some (.cells #[.slice A l.length c, .map (some mb)] 113 (0,0)))∧Aside0 (MapAt w' mb n (fillR l))∧Aside0 (l.any (wflat l)=(l.drop i).any (wflat l)))
      case atStart=>exact ⟨0,rfl,by omega,by omega,HB,BK15,MP,⟨rfl⟩⟩
      case round=>
        clear HB BK15 MP;obtain ⟨i,rfl,hil,hkq,HB,BK15,MP,HA⟩:=hrel;by_cases hlt:i<l.length;rotate_left
        · obtain rfl : i = l.length := by omega
          have a: ¬l.any (wflat l)=true:=by rw [HA.out,List.drop_length];simp
          rw [if_neg a] at HF
          clear a HA
          have cb15_0:=zz_ BK15 0
          go_wp2_with (go_at_call 75;refine (want_list_sums.calls k A c l r _ (Kd.C_below HR.out HB.out) HC.out HF.out).mono ?_;rintro e w6 ⟨rfl,hb⟩;have n0_:=am_ (below_step HB.out hb);clear HB hb BK15 MP cb15_0;have HB:=n0_;clear n0_)
          go_ret
          exact ⟨rfl,HB.out⟩


        have hltz:(i:Int)<(l.length:Int):=by omega
        obtain ⟨x,hx⟩: ∃x:Int,x=(i:Int):=⟨_,rfl⟩;have HX0:=am_ (show 0≤x by omega);have HX1:=am_ (show x<(l.length:Int) by omega);have HD:=am_ (any_drop (wflat l) hlt);rw [←hx] at HD;have HXI:=Aside0.mk hx;rw [←hx];have hltx:x<(l.length:Int):=HX1.out;have SM:=am_ (smallW_rd HS.out x);clear hltz hx;have p6:0≤x:=HX0.out;have q6:x<(l.length:Int):=HX1.out;obtain ⟨ad,e6,k0,k1,k2,k3,k4⟩:=at_T39 HR.out x p6 q6;cases e6;have k0:=zx_ HB k0;have k1:=zx_ HB k1;have k2:=zx_ HB k2;have k3:=zx_ HB k3;have k4:=zx_ HB k4;replace p6:=eq_true p6;replace q6:=eq_true q6;have BK15_:=BK15
        go_wp2_with (first|((with_reducible refine gate_dst (N:=8) rfl ?_);refine bx_ (N:=8) (cs:=#[.string ⟨#[]⟩, .string ⟨#[]⟩, .int .i64 0, .int .i64 0, .int .i64 0]) (t:=39) ?_;intro gb8 hg w4 hbox hb;replace BK15:=am_ (blk_below BK15.out hb);have BK8:=am_ (hbox);have GE8:=am_ ((by rw [hg];exact below_size HB.out:w.heap.size≤gb8));replace HB:=am_ (below_step HB.out hb);have EQ8:=am_ (hg);have NM:=am_ (show mb≠gb8 from by have:=MP.out.lt;rw [hg];exact Nat.ne_of_lt this);have m_:=am_ (MP.out.below hb);clear MP;have MP:=m_;clear m_;have NE:=am_ (show gb15≠gb8 from by have:=blk_lt BK15_.out;rw [hg];exact Nat.ne_of_lt this);clear hb hbox hg;have cgb8_0:=zz_ BK8 0;have cgb8_1:=zz_ BK8 1;have cgb8_2:=zz_ BK8 2;have cgb8_3:=zz_ BK8 3;have cgb8_4:=zz_ BK8 4)|((with_reducible refine gate_store (t:=39) (p:=8) (v:= .tmp 51) rfl ?_);refine store_all BK8.out 39 (.tmp 8) (.tmp 51) rfl rfl rfl (.agg #[.string (rd_T39 l x).f0, .string (rd_T39 l x).f1, .int .i64 (rd_T39 l x).f2.f0, .int .i64 (rd_T39 l x).f2.f1, .int .i64 (rd_T39 l x).f2.f2]) [.string (rd_T39 l x).f0, .string (rd_T39 l x).f1, .int .i64 (rd_T39 l x).f2.f0, .int .i64 (rd_T39 l x).f2.f1, .int .i64 (rd_T39 l x).f2.f2] rfl rfl rfl (by kernel_rfl) rfl (by intro q hq;simp only [List.mem_cons,List.not_mem_nil,or_false] at hq;rcases hq with rfl|rfl|rfl|rfl|rfl<;>rfl) ?_;intro w5 hbk hg;clear cgb8_0 cgb8_1 cgb8_2 cgb8_3 cgb8_4;replace BK15:=am_ (blk_put_other BK15.out hg (NE.out));replace HB:=am_ (below_put HB.out (below_size HB.out) hg GE8.out);replace MP:=am_ (MP.out.other hg NM.out);replace BK8:=am_ (hbk);clear hbk hg;have c8_0:=zz_ BK8 0))
        clear k0 k1 k2 k3 k4 p6 q6;have cb_1:=zz_ BK15 1;have z0:=fun (n_:Nat)=>(show (w5.drewN n_).cell? _=some _ from cb_1)
        have z1:=fun (n_:Nat)=>(show (w5.drewN n_).cell? _=some _ from c8_0)
        have z2:=fun (n_:Nat)=>MP.out.look Try.underlying111 SM.out.1 (w5.drewN n_) rfl
        by_cases e2:fillR l (rd_T39 l x).f0=0
        · have HW := am_ (show wflat l (rd_T39 l x) = true from decide_eq_true e2)
          have e2b:(fillR l (rd_T39 l x).f0==0)=true:=by rw [e2];rfl
          clear e2
          go_quiet (fail)
          try go_wp2
          go_ret
          refine ⟨?_,pw_below_drewN HB.out _⟩
          have a:l.any (wflat l)=true:=by rw [HA.out,HD.out,HW.out,Bool.true_or]
          have f:=HF.out
          rw [if_pos a] at f
          exact congrArg (fun z=>Ending.returned (.int .i64 z)) (Option.some.inj f)
        have HW:=am_ (show wflat l (rd_T39 l x)=false from decide_eq_false e2);have e2b:(fillR l (rd_T39 l x).f0==0)=false:=by rw [beq_eq_false_iff_ne];exact e2
        clear e2;go_quiet (fail)
        try go_wp2
        clear z0 z1 z2 cb_1 c8_0;have n0_:=am_ (blk_drewN BK15.out nq);have n1_:=am_ (MP.out.kept (w':=w5.drewN nq) rfl);have n2_:=am_ (pw_below_drewN HB.out nq);clear BK15 MP HB BK8 BK15_ NE NM;have BK15:=n0_;have MP:=n1_;have HB:=n2_;clear n0_ n1_ n2_;generalize w5.drewN nq=w8 at BK15 MP HB ⊢;go_roundg (l.length - (i+1))
        case measure=>omega
        case rel=>exact ⟨i+1,by rw [HXI.out,wnx (by have:=HL.out;omega)],by omega,by omega,HB,BK15,MP,⟨by rw [HA.out,HD.out,HW.out,Bool.false_or]⟩⟩
    have hltz:(i:Int)<(l.length:Int):=by omega
    obtain ⟨x,hx⟩: ∃x:Int,x=(i:Int):=⟨_,rfl⟩;have HX0:=am_ (show 0≤x by omega);have HX1:=am_ (show x<(l.length:Int) by omega);have HD:=am_ (any_drop (wloose l) hlt);rw [←hx] at HD;have HXI:=Aside0.mk hx;rw [←hx];have hltx:x<(l.length:Int):=HX1.out;clear hltz hx;have p6:0≤x:=HX0.out;have q6:x<(l.length:Int):=HX1.out;obtain ⟨ad,e6,k0,k1,k2,k3,k4⟩:=at_T39 HR.out x p6 q6;cases e6;have k0:=zx_ HB k0;have k1:=zx_ HB k1;have k2:=zx_ HB k2;have k3:=zx_ HB k3;have k4:=zx_ HB k4;replace p6:=eq_true p6;replace q6:=eq_true q6;have BK15_:=BK15;by_cases e1:(rd_T39 l x).f1=⟨#[]⟩
    · have hE : (rd_T39 l x).f1.toList.isEmpty = true := by rw [e1, ByteArray.toList_eq]; rfl
      have HW:=am_ (show wloose l (rd_T39 l x)=false by unfold wloose;rw [decide_eq_true e1];rfl)
      clear e1
      go_wp2_with (first|((with_reducible refine gate_dst (N:=6) rfl ?_);refine bx_ (N:=6) (cs:=#[.string ⟨#[]⟩, .string ⟨#[]⟩, .int .i64 0, .int .i64 0, .int .i64 0]) (t:=39) ?_;intro gb6 hg w4 hbox hb;replace BK15:=am_ (blk_below BK15.out hb);have BK6:=am_ (hbox);have GE6:=am_ ((by rw [hg];exact below_size HB.out:w.heap.size≤gb6));replace HB:=am_ (below_step HB.out hb);have EQ6:=am_ (hg);have NE:=am_ (show gb15≠gb6 from by have:=blk_lt BK15_.out;rw [hg];exact Nat.ne_of_lt this);clear hb hbox hg;have cgb6_0:=zz_ BK6 0;have cgb6_1:=zz_ BK6 1;have cgb6_2:=zz_ BK6 2;have cgb6_3:=zz_ BK6 3;have cgb6_4:=zz_ BK6 4)|((with_reducible refine gate_store (t:=39) (p:=6) (v:= .tmp 29) rfl ?_);refine store_all BK6.out 39 (.tmp 6) (.tmp 29) rfl rfl rfl (.agg #[.string (rd_T39 l x).f0, .string (rd_T39 l x).f1, .int .i64 (rd_T39 l x).f2.f0, .int .i64 (rd_T39 l x).f2.f1, .int .i64 (rd_T39 l x).f2.f2]) [.string (rd_T39 l x).f0, .string (rd_T39 l x).f1, .int .i64 (rd_T39 l x).f2.f0, .int .i64 (rd_T39 l x).f2.f1, .int .i64 (rd_T39 l x).f2.f2] rfl rfl rfl (by kernel_rfl) rfl (by intro q hq;simp only [List.mem_cons,List.not_mem_nil,or_false] at hq;rcases hq with rfl|rfl|rfl|rfl|rfl<;>rfl) ?_;intro w5 hbk hg;clear cgb6_0 cgb6_1 cgb6_2 cgb6_3 cgb6_4;replace BK15:=am_ (blk_put_other BK15.out hg (NE.out));replace HB:=am_ (below_put HB.out (below_size HB.out) hg GE6.out);replace BK6:=am_ (hbk);clear hbk hg;have c6_1:=zz_ BK6 1))
      clear k0 k1 k2 k3 k4 p6 q6
      have z1:=fun (n_:Nat)=>(show (w5.drewN n_).cell? _=some _ from c6_1)
      go_quiet (fail)
      try go_wp2
      clear z1 c6_1
      have n0_:=am_ (blk_drewN BK15.out nq)
      have n2_:=am_ (pw_below_drewN HB.out nq)
      clear BK15 HB BK6 BK15_ NE
      have BK15:=n0_
      have HB:=n2_
      clear n0_ n2_
      generalize w5.drewN nq=w8 at BK15 HB ⊢
      go_roundg (l.length - (i+1))
      case measure=>omega
      case rel=>exact ⟨i+1,by rw [HXI.out,wnx (by have:=HL.out;omega)],by omega,by omega,HB,BK15,⟨by rw [HA.out,HD.out,HW.out,Bool.false_or]⟩⟩
    have hE:(rd_T39 l x).f1.toList.isEmpty=false:=by
      cases q:(rd_T39 l x).f1.toList with
      |nil=>exact absurd (ByteArray.ext (Array.toList_inj.1 (by rw [←ByteArray.toList_eq,q]))) e1
      |cons _ _=>rfl
    have E1:=Aside0.mk e1;clear e1;go_wp2_with (first|((with_reducible refine gate_dst (N:=6) rfl ?_);refine bx_ (N:=6) (cs:=#[.string ⟨#[]⟩, .string ⟨#[]⟩, .int .i64 0, .int .i64 0, .int .i64 0]) (t:=39) ?_;intro gb6 hg w4 hbox hb;replace BK15:=am_ (blk_below BK15.out hb);have BK6:=am_ (hbox);have GE6:=am_ ((by rw [hg];exact below_size HB.out:w.heap.size≤gb6));replace HB:=am_ (below_step HB.out hb);have EQ6:=am_ (hg);have NE:=am_ (show gb15≠gb6 from by have:=blk_lt BK15_.out;rw [hg];exact Nat.ne_of_lt this);clear hb hbox hg;have cgb6_0:=zz_ BK6 0;have cgb6_1:=zz_ BK6 1;have cgb6_2:=zz_ BK6 2;have cgb6_3:=zz_ BK6 3;have cgb6_4:=zz_ BK6 4)|((with_reducible refine gate_store (t:=39) (p:=6) (v:= .tmp 29) rfl ?_);refine store_all BK6.out 39 (.tmp 6) (.tmp 29) rfl rfl rfl (.agg #[.string (rd_T39 l x).f0, .string (rd_T39 l x).f1, .int .i64 (rd_T39 l x).f2.f0, .int .i64 (rd_T39 l x).f2.f1, .int .i64 (rd_T39 l x).f2.f2]) [.string (rd_T39 l x).f0, .string (rd_T39 l x).f1, .int .i64 (rd_T39 l x).f2.f0, .int .i64 (rd_T39 l x).f2.f1, .int .i64 (rd_T39 l x).f2.f2] rfl rfl rfl (by kernel_rfl) rfl (by intro q hq;simp only [List.mem_cons,List.not_mem_nil,or_false] at hq;rcases hq with rfl|rfl|rfl|rfl|rfl<;>rfl) ?_;intro w5 hbk hg;clear cgb6_0 cgb6_1 cgb6_2 cgb6_3 cgb6_4;replace BK15:=am_ (blk_put_other BK15.out hg (NE.out));replace HB:=am_ (below_put HB.out (below_size HB.out) hg GE6.out);replace BK6:=am_ (hbk);clear hbk hg;have c6_1:=zz_ BK6 1))
    clear k0 k1 k2 k3 k4 p6 q6 c6_1;have n0_:=am_ (blk_drew BK15.out);have n1_:=am_ (blk_drew BK6.out);have n2_:=am_ (below_drew1 HB.out);clear BK15 BK6 HB BK15_ NE;have BK15:=n0_;have BK6:=n1_;have HB:=n2_;clear n0_ n1_ n2_;refine start_ (n:=13) (S:=fun w'=>w'.cell? ⟨gb6,1,none⟩=some (.string (rd_T39 l x).f1)∧w'.cell? ⟨gb15,0,none⟩=some (.slice (some ad) l.length c)) (ds:=[]) (bs_ 13 0) (by kernel_rfl) rfl rfl ⟨(blk_cell BK6.out 1).trans rfl,(blk_cell BK15.out 0).trans rfl⟩ (fun hHeld=> ?_);generalize w5.drew=w9 at BK15 BK6 HB hHeld ⊢;refine pv_ (i:=0) (N:=some 30) (bs_ 13 1) ?_;refine tv_ (i:=1) (N:=some 31) (bs_ 13 2) hHeld ?_;refine pv_ (i:=2) (N:=some 32) (bs_ 13 3) ?_;refine pv_ (i:=3) (N:=some 33) (bs_ 13 4) ?_;refine pv_ (i:=4) (N:=some 34) (bs_ 13 5) ?_;refine pv_ (i:=5) (N:=some 35) (bs_ 13 6) ?_;refine pv_ (i:=6) (N:=some 36) (bs_ 13 7) ?_;refine tv_ (i:=7) (N:=some 37) (bs_ 13 8) hHeld ?_;refine pv_ (i:=8) (N:=some 38) (bs_ 13 9) ?_;refine tv_ (i:=9) (N:=some 39) (bs_ 13 10) hHeld ?_;refine one_ (i:=10) (N:=some 40) (bs_ 13 11) rfl rfl (by kernel_rfl) (by decide) (fun K hK=> ?_);refine goes_ Try.func73 (by kernel_rfl) rfl #[.agg #[.slice (some ad) l.length c], .string (rd_T39 l x).f1] (by rfl) rfl rfl (by (try simp only [List.map_toArray,List.map_cons,List.map_nil]);rfl) ?_;refine (wantFind_calls (some ad) c l (rd_T39 l x).f1 _ (Kd.C_below HR.out HB.out) HC.out).mono ?_;rintro e w10 ⟨rfl,hb⟩;have n0_:=am_ (blk_below BK15.out hb)
    have n1_:=am_ (blk_below BK6.out hb);have n2_:=am_ (below_step HB.out hb);clear BK15 BK6 HB hb;have BK15:=n0_;have BK6:=n1_;have HB:=n2_;clear n0_ n1_ n2_;refine ⟨_,rfl, ?_⟩;refine hK.out _ _ ⟨(blk_cell BK6.out 1).trans rfl,(blk_cell BK15.out 0).trans rfl⟩ (fun hHeld=> ?_);clear hK K;refine norm_ (a':= ?_) ?_ ?_;rotate_left
    · show Act.put _ (some 40) _ = _
      simp only [Act.put,List.setIfInBounds_toArray,List.set_cons_zero,List.set_cons_succ,i64_w,i32_w]
      rfl
    refine pv_ (i:=11) (N:=some 41) (bs_ 13 12) ?_;refine pv_ (i:=12) (N:=some 42) (bs_ 13 13) ?_;refine done_ (by kernel_rfl) ?_;by_cases e2:wplace l (rd_T39 l x).f1<0;rotate_left
    · have HW := am_ (show wloose l (rd_T39 l x) = false by unfold wloose; rw [decide_eq_false e2, Bool.and_false])
      go_wp2
      go_roundg (l.length - (i+1))
      case measure=>omega
      case rel=>exact ⟨i+1,by rw [HXI.out,wnx (by have:=HL.out;omega)],by omega,by omega,HB,BK15,⟨by rw [HA.out,HD.out,HW.out,Bool.false_or]⟩⟩
    have HW:=am_ (show wloose l (rd_T39 l x)=true by unfold wloose;rw [decide_eq_false E1.out,decide_eq_true e2];rfl);go_wp2
    go_ret
    refine ⟨?_,HB.out⟩;have a:l.any (wloose l)=true:=by rw [HA.out,HD.out,HW.out,Bool.true_or]
    have f:=HF.out;rw [if_pos a] at f;exact congrArg (fun z=>Ending.returned (.int .i64 z)) (Option.some.inj f)
end Go.Proofs.Ytahidkjncljkaaa.Print

namespace Go.Proofs.Ytahidkjncljkaaa.Print
open Go.RowKit Go.Proofs.YtahidkjncljkaaaW.PrintWords Go.Proofs.YtahidkjncljkaaaW.PrintLast
theorem wplace_eq (l:List Want) (n:ByteArray):wplace l n=wfnd l n:=rfl
theorem wmay_eq (w:Want):wmay w=mayW w:=by
 unfold wmay mayW;rw [Bool.eq_iff_iff,decide_eq_true_iff,decide_eq_true_iff,and_assoc]
theorem wfnd_at {pre ws:List Want} {w:Want}:wfnd (pre++w::ws) w.f0=pre.length↔lookW pre w.f0=none:=by
  obtain ⟨x,hx⟩: ∃x,lookW (pre++w::ws) w.f0=some x:=by
    cases h:lookW (pre++w::ws) w.f0 with
    |some x=>exact ⟨x,rfl⟩
    |none=>exact absurd rfl (lookW_none.1 h w (by simp))
  obtain ⟨j,h1,h2,h3,h4,h5⟩:=wfnd_some hx;rw [h2];have hw:(pre++w::ws).getD pre.length zWant=w:=by rw [List.getD_eq_getElem?_getD];simp
  have hj:j≤pre.length:=by
    by_cases c:j≤pre.length
    · exact c
    exact absurd (by rw [hw]) (h5 pre.length (by omega))
  rw [lookW_none]
  constructor
  · intro e y hy q
    obtain ⟨m,hm,rfl⟩:=List.getElem_of_mem hy
    refine h5 m (by omega) ?_
    rw [List.getD_eq_getElem?_getD,List.getElem?_append_left hm,List.getElem?_eq_getElem hm]
    exact q
  intro q;by_cases c:j=pre.length
  · rw [c]
  have hlt:j<pre.length:=by omega
  refine absurd ?_ (q pre[j] (List.getElem_mem hlt));rw [List.getD_eq_getElem?_getD,List.getElem?_append_left hlt,List.getElem?_eq_getElem hlt] at h3;rw [show pre[j]=x from h3];exact h4
theorem wnames_ph1 {l:List Want}: ∀(ws pre:List Want),pre++ws=l→wnames l ws pre.length=ph1 pre ws
  |[],pre,_=>rfl
  | w :: ws, pre, h => by
    unfold wnames ph1;rw [wmay_eq,wplace_eq];by_cases c:mayW w=true;rotate_left
    · rw [if_neg c,if_neg c]
    rw [if_pos c,if_pos c];by_cases d:lookW pre w.f0=none
    · rw [if_pos (by rw [← h]; exact wfnd_at.2 d), if_neg (by rw [d]; simp)]
      have:=wnames_ph1 (l:=l) ws (pre++ [w]) (by rw [←h];simp)
      rwa [List.length_append,List.length_singleton] at this
    rw [if_neg (by rw [←h];exact fun q=>d (wfnd_at.1 q)),if_pos]
    cases e:lookW pre w.f0 with
    |none=>exact absurd e d
    |some _=>rfl
theorem wnames_eq (l:List Want):wnames l l 0=ph1 [] l:=wnames_ph1 l [] rfl
theorem wloose_eq (l:List Want):wloose l=noPar l:=by
 funext w
 unfold wloose noPar;rw [wplace_eq,Bool.eq_iff_iff]
 simp [wfnd_neg]
structure GoodD (l:List Want) (f:ByteArray→Int):Prop where
 or: ∀n,f n=0∨(0<depR l n∧f n=depR l n)
theorem lookW_self {l:List Want} (hn:(l.map (·.f0)).Nodup) {w:Want} (hw:w∈l):lookW l w.f0=some w:=by
  unfold lookW
  induction l with
  |nil=>cases hw
  | cons x l ih =>
    rw [List.map_cons,List.nodup_cons] at hn;rw [List.find?_cons];by_cases e:x.f0=w.f0
    · rw [decide_eq_true e]
      rcases List.mem_cons.1 hw with rfl|hw
      · rfl
      exact absurd (e▸List.mem_map_of_mem hw) hn.1
    rw [decide_eq_false e]
    rcases List.mem_cons.1 hw with rfl|hw
    · exact absurd rfl e
    exact ih hn.2 hw
theorem depR_up {l:List Want} (hp:ParW l) {w:Want} (hx:lookW l w.f0=some w) (h:w.f1=⟨#[]⟩∨0<depR l w.f1):depR l w.f0=depR l w.f1+1:=by
  have c: ∃us,ChainW l w.f1 us:=by
    by_cases c: ∃us,ChainW l w.f1 us
    · exact c
    rcases h with h|h
    · exact ⟨[],by rw [h];exact chainW_nil hp.root⟩
    rw [depR_none hp (fun us k=>c ⟨us,k⟩)] at h;omega
  obtain ⟨us,c⟩:=c;rw [depR_chain hp c,depR_chain hp (chainW_cons hx c),List.length_cons]
  omega
theorem small_dep {l:List Want} (hl:l.length≤1000) (hp:ParW l) (n:ByteArray) (h:0<depR l n):wrap64 (depR l n+1)=depR l n+1:=by
 have:=depR_le hp n
 exact w64 (by omega) (by omega)
theorem fstep_at {l:List Want} (hl:l.length≤1000) (hp:ParW l) (hn:(l.map (·.f0)).Nodup) {f:ByteArray→Int} (G:GoodD l f) {w:Want} (hw:w∈l) (n:ByteArray):fstep f w n=f n∨(0<depR l n∧fstep f w n=depR l n):=by
  have hx:=lookW_self hn hw;unfold fstep;by_cases e:w.f1=⟨#[]⟩
  · rw [if_pos e]
    unfold updM
    by_cases c:n=w.f0
    rotate_left
    · rw [if_neg c];exact .inl rfl
    rw [if_pos c,c]
    have:=depR_up hp hx (.inl e)
    rw [e,depR_root hp] at this
    exact .inr ⟨by omega,by omega⟩
  rw [if_neg e];by_cases d:f w.f1>0;rotate_left
  · rw [if_neg d];exact .inl rfl
  rw [if_pos d];unfold updM;by_cases c:n=w.f0;rotate_left
  · rw [if_neg c];exact .inl rfl
  rw [if_pos c,c];have g:=G.or w.f1;have g':0<depR l w.f1∧f w.f1=depR l w.f1:=g.resolve_left (by omega);rw [g'.2,small_dep hl hp _ g'.1,depR_up hp hx (.inr g'.1)];exact .inr ⟨by omega,rfl⟩
theorem fstep_good {l:List Want} (hl:l.length≤1000) (hp:ParW l) (hn:(l.map (·.f0)).Nodup) {f:ByteArray→Int} (G:GoodD l f) {w:Want} (hw:w∈l):GoodD l (fstep f w):=⟨fun n=>by
  rcases fstep_at hl hp hn G hw n with h|h
  · rw [h];exact G.or n
  exact .inr h⟩
theorem fstep_keep {l:List Want} (hl:l.length≤1000) (hp:ParW l) (hn:(l.map (·.f0)).Nodup) {f:ByteArray→Int} (G:GoodD l f) {w:Want} (hw:w∈l) {n:ByteArray} (h:0<depR l n) (q:f n=depR l n):fstep f w n=depR l n:=by
  rcases fstep_at hl hp hn G hw n with h|h
  · rw [h,q]
  exact h.2
theorem fstep_hit {l:List Want} (hl:l.length≤1000) (hp:ParW l) (hn:(l.map (·.f0)).Nodup) {f:ByteArray→Int} (G:GoodD l f) {w:Want} (hw:w∈l) (h:0<depR l w.f0) (q:0<depR l w.f1→f w.f1=depR l w.f1):fstep f w w.f0=depR l w.f0:=by
  have hx:=lookW_self hn hw;obtain ⟨h1,h2,h3⟩:=depR_some hp hx h;unfold fstep;by_cases e:w.f1=⟨#[]⟩
  · rw [if_pos e]
    unfold updM
    rw [if_pos rfl,h1,e,depR_root hp]
    rfl
  have d:=h3 e;rw [if_neg e,if_pos (by rw [q d];exact d)];unfold updM;rw [if_pos rfl,q d,small_dep hl hp _ d,h1]
theorem fround_all {l:List Want} (hl:l.length≤1000) (hp:ParW l) (hn:(l.map (·.f0)).Nodup): ∀(ws:List Want) (f:ByteArray→Int),(∀w∈ws,w∈l)→GoodD l f→GoodD l (ws.foldl fstep f)∧(∀n,0<depR l n→f n=depR l n→ws.foldl fstep f n=depR l n)∧
    ∀w∈ws,0<depR l w.f0→(0<depR l w.f1→f w.f1=depR l w.f1)→ws.foldl fstep f w.f0=depR l w.f0
  |[],f,_,G=>⟨G,fun _ _ h=>h,fun w hw=>by cases hw⟩
  | x :: ws, f, hs, G => by
    have hx:=hs x (by simp);obtain ⟨a,b,c⟩:=fround_all hl hp hn ws (fstep f x) (fun w hw=>hs w (by simp [hw])) (fstep_good hl hp hn G hx);rw [List.foldl_cons];refine ⟨a,fun n h q=>b n h (fstep_keep hl hp hn G hx h q),fun w hw h q=> ?_⟩
    rcases List.mem_cons.1 hw with rfl|hw
    · exact b _ h (fstep_hit hl hp hn G hx h q)
    exact c w hw h (fun d=>fstep_keep hl hp hn G hx d (q d))
theorem frounds_all {l:List Want} (hl:l.length≤1000) (hp:ParW l) (hn:(l.map (·.f0)).Nodup): ∀(m r:Nat) (f:ByteArray→Int),GoodD l f→(∀n,0<depR l n→depR l n≤r→f n=depR l n)→GoodD l (frounds l m f)∧ ∀n,0<depR l n→depR l n≤(r+m:Nat)→frounds l m f n=depR l n
  |0,r,f,G,h=>⟨G,h⟩
  | m + 1, r, f, G, h => by
    obtain ⟨a,b,c⟩:=fround_all hl hp hn l f (fun _ h=>h) G
    have k:=frounds_all hl hp hn m (r+1) (fround l f) a (fun n d e=>by
      cases hx:lookW l n with
      |none=>rw [depR_absent hp hx] at d;omega
      | some x =>
        obtain ⟨hm,hf⟩:=lookW_mem hx;subst hf;obtain ⟨h1,h2,h3⟩:=depR_some hp hx d;exact c x hm d (fun d2=>h _ d2 (by omega)))
    refine ⟨k.1,fun n d e=>k.2 n d (by omega)⟩
theorem fillR_eq {l:List Want} (hl:l.length≤1000) (hp:ParW l) (hn:(l.map (·.f0)).Nodup) (n:ByteArray):fillR l n=if 0<depR l n then depR l n else 0:=by
  obtain ⟨a,b⟩:=frounds_all hl hp hn l.length 0 (fun _=>0) ⟨fun _=> .inl rfl⟩ (fun n d e=>by omega)
  show frounds l l.length _ n=_
  by_cases d:0<depR l n
  · rw [if_pos d]
    exact b n d (by have:=depR_le hp n;omega)
  rw [if_neg d]
  rcases a.or n with h|h
  · exact h
  exact absurd h.1 d
theorem sums_l1 {l:List Want} (hl:l.length≤120) (hm: ∀w∈l,MayP w.f2) {i:Nat} (hi:i<l.length) {r:Int} (hr:LeP (sumW l l[i].f0) l[i].f2→Ev (fun k=>want_list_sums.l0 k l (l.length:Int) ((i+1:Nat):Int) l) r) (hb: ¬LeP (sumW l l[i].f0) l[i].f2→r=11):
    ∀ (d j : Nat) (acc : List Vec), l.length - j = d → j ≤ l.length → acc.length ≤ j → UptoV j (⟨(vecByF (fun x y => wrap64 (x + y)) acc 0 0 0).1, (vecByF (fun x y => wrap64 (x + y)) acc 0 0 0).2.1, (vecByF (fun x y => wrap64 (x + y)) acc 0 0 0).2.2⟩ : Vec) → sumGo l[i].f0 (l.drop j) (⟨(vecByF (fun x y => wrap64 (x + y)) acc 0 0 0).1, (vecByF (fun x y => wrap64 (x + y)) acc 0 0 0).2.1, (vecByF (fun x y => wrap64 (x + y)) acc 0 0 0).2.2⟩ : Vec) = sumW l l[i].f0 →
      Ev (fun k=>want_list_sums.l1 k acc l (l.length:Int) (i:Int) l (l.length:Int) (j:Int) l l[i].f0 l[i].f1 l[i].f2.f0 l[i].f2.f1 l[i].f2.f2) r
  | 0, j, acc, hd, hj, ha, hv, hs => by
    rw [List.drop_of_length_le (by omega)] at hs
    unfold sumGo at hs
    refine Ev.step (fun k=>want_list_sums.l1.eq_2 (k:=k) ..) ?_
    refine Ev.congr (fun k=>by rw [if_neg (by omega),show vec_Add.f acc=some (vecByF (fun x y=>wrap64 (x+y)) acc 0 0 0) from rfl,Option.bind_some,vec_Le_eq,Option.bind_some,hs,nx64 hi (by omega)]) ?_
    by_cases c:LeP (sumW l l[i].f0) l[i].f2
    · exact Ev.congr (fun k=>if_pos (decide_eq_true c)) (hr c)
    rw [hb c]
    exact Ev.congr (fun k=>if_neg (by rw [decide_eq_true_iff];exact c)) (Ev.now _)
  | d + 1, j, acc, hd, hj, ha, hv, hs => by
    have hlt:j<l.length:=by omega
    rw [List.drop_eq_getElem_cons hlt] at hs
    unfold sumGo at hs
    refine Ev.step (fun k=>want_list_sums.l1.eq_2 (k:=k) ..) ?_
    rw [rd_wantN l hlt,nx64 hlt (by omega)]
    refine Ev.congr (fun k=>by rw [if_pos (by omega),if_pos (by omega),if_pos (by omega)]) ?_
    by_cases c:l[j].f1=l[i].f0
    rotate_left
    · rw [if_neg c] at hs
      refine Ev.congr (fun k=>if_neg (fun q=>c (nm_inj.1 q))) ?_
      exact sums_l1 hl hm hi hr hb d (j+1) acc (by omega) (by omega) (by omega) (uptoV_succ hv) hs
    rw [if_pos c] at hs
    refine Ev.congr (fun k=>by rw [if_pos (nm_inj.2 c),if_pos (by omega)]) ?_
    have hu:=hm _ (List.getElem_mem hlt)
    have e:(⟨(vecByF (fun x y=>wrap64 (x+y)) (acc++ [(⟨l[j].f2.f0,l[j].f2.f1,l[j].f2.f2⟩:Vec)]) 0 0 0).1,(vecByF (fun x y=>wrap64 (x+y)) (acc++ [(⟨l[j].f2.f0,l[j].f2.f1,l[j].f2.f2⟩:Vec)]) 0 0 0).2.1,(vecByF (fun x y=>wrap64 (x+y)) (acc++ [(⟨l[j].f2.f0,l[j].f2.f1,l[j].f2.f2⟩:Vec)]) 0 0 0).2.2⟩:Vec)=vadd ⟨(vecByF (fun x y=>wrap64 (x+y)) acc 0 0 0).1,(vecByF (fun x y=>wrap64 (x+y)) acc 0 0 0).2.1,(vecByF (fun x y=>wrap64 (x+y)) acc 0 0 0).2.2⟩ l[j].f2:=by
      rw [vecByF_snoc]
      have a:=hv .cpu;have b:=hv .mem;have d:=hv .pods
      have a':=hu .cpu;have b':=hu .mem;have d':=hu .pods
      simp only [Comp.of] at a b d a' b' d'
      have e1:(j:Int)<120:=by omega
      have u1:wrap64 ((vecByF (fun x y=>wrap64 (x+y)) acc 0 0 0).1+l[j].f2.f0)=_:=w64 (by omega) (by omega)
      have u2:wrap64 ((vecByF (fun x y=>wrap64 (x+y)) acc 0 0 0).2.1+l[j].f2.f1)=_:=w64 (by omega) (by omega)
      have u3:wrap64 ((vecByF (fun x y=>wrap64 (x+y)) acc 0 0 0).2.2+l[j].f2.f2)=_:=w64 (by omega) (by omega)
      rw [u1,u2,u3]
      rfl
    refine sums_l1 hl hm hi hr hb d (j+1) _ (by omega) (by omega) (by rw [List.length_append,List.length_singleton];omega) ?_ ?_
    · rw [e];exact uptoV_add hv hu
    rw [e];exact hs
theorem sums_l0 {l:List Want} (hl:l.length≤120) (hm: ∀w∈l,MayP w.f2): ∀(d i:Nat),l.length - i=d→i≤l.length→Ev (fun k=>want_list_sums.l0 k l (l.length:Int) (i:Int) l) (if (l.drop i).any (badSum l)=true then 11 else 0)
  | 0, i, hd, hi => by
    rw [List.drop_of_length_le (by omega)];exact Ev.step (fun k=>want_list_sums.l0.eq_2 (k:=k) ..) (Ev.congr (fun k=>if_neg (by omega)) (Ev.now _))
  | d + 1, i, hd, hi => by
    have hlt:i<l.length:=by omega
    have next:=sums_l0 hl hm d (i+1) (by omega) (by omega);rw [List.drop_eq_getElem_cons hlt,List.any_cons];refine Ev.step (fun k=>want_list_sums.l0.eq_2 (k:=k) ..) ?_;rw [rd_wantN l hlt];refine Ev.congr (fun k=>by rw [if_pos (by omega),if_pos (by omega),if_pos (by omega)]) ?_;refine sums_l1 hl hm hlt (fun c=> ?_) (fun c=> ?_) l.length 0 [] (by omega) (by omega) (by simp) (fun c=>by cases c<;>exact ⟨Int.le_refl _,by simp [Comp.of,vecByF]⟩) (by rw [List.drop_zero];rfl)
    · rw [show badSum l l[i] = false from by unfold badSum; rw [decide_eq_true c]; rfl, Bool.false_or]
      exact next
    rw [show badSum l l[i]=true from by unfold badSum;rw [decide_eq_false c];rfl,Bool.true_or,if_pos rfl]
theorem want_Check_ev {l:List Want} (hs:smallW l):Ev (fun k=>want_Check.f k l) (checkR l):=by
  classical
  unfold want_Check.f checkR;by_cases c0:120<l.length
  · rw [if_pos (show l.length > 120 from c0)]
    exact Ev.congr (fun k=>if_pos c0) (Ev.now _)
  refine Ev.congr (fun k=>by rw [if_neg c0,if_pos hs,wnames_eq]) ?_;rw [if_neg (show¬l.length>120 from c0)];by_cases c1:ph1 [] l=0;rotate_left
  · rw [if_pos c1]
    exact Ev.congr (fun k=>if_neg c1) (Ev.now _)
  rw [if_neg (show¬(ph1 [] l≠0) from fun q=>q c1)];refine Ev.congr (fun k=>by rw [if_pos c1,wloose_eq]) ?_;by_cases c2:l.any (noPar l)=true
  · rw [if_pos c2]
    exact Ev.congr (fun k=>if_pos c2) (Ev.now _)
  rw [if_neg c2];refine Ev.congr (fun k=>if_neg c2) ?_;have hm:=ph1_ok c1
  have hn:(l.map (·.f0)).Nodup:=by
    have:=ph1_nodup c1 (by simp)
    rwa [List.nil_append] at this
  have hp:ParW l:=⟨fun w hw=>(mayW_iff.1 (hm w hw)).1.1,fun w hw e=>by
    have q:=any_false.1 c2 w hw;unfold noPar at q;rw [decide_eq_false_iff_not] at q
    cases hx:lookW l w.f1 with
    |none=>exact absurd ⟨e,hx⟩ q
    |some x=>exact ⟨x,rfl⟩⟩
  have ef:l.any (wflat l)=l.any (fun w=>decide (depR l w.f0<1)):=by
    congr 1
    funext w
    unfold wflat;rw [fillR_eq (by omega) hp hn,Bool.eq_iff_iff,decide_eq_true_iff,decide_eq_true_iff];by_cases d:0<depR l w.f0
    · rw [if_pos d];omega
    rw [if_neg d];omega
  rw [ef];by_cases c3:l.any (fun w=>decide (depR l w.f0<1))=true
  · rw [if_pos c3]
    exact Ev.congr (fun k=>if_pos c3) (Ev.now _)
  rw [if_neg c3];refine Ev.congr (fun k=>if_neg c3) ?_;have h:=sums_l0 (by omega) (fun w hw=>(mayW_iff.1 (hm w hw)).2) l.length 0 (by omega) (by omega);rw [List.drop_zero] at h;exact h
theorem depR_pos {l:List Want} (h:TreeW l) (n:ByteArray):0≤depR l n:=by
 cases hx:lookW l n with
 |none=>rw [depR_absent h.par hx];omega
 |some x=>obtain ⟨hm,rfl⟩:=lookW_mem hx;have:=h.dep x hm;omega
theorem fillR_tree {l:List Want} (h:TreeW l) (n:ByteArray):fillR l n=depR l n:=by
  rw [fillR_eq (by have:=h.len;omega) h.par h.nodup];have:=depR_pos h n
  by_cases d:0<depR l n
  · rw [if_pos d]
  rw [if_neg d];omega
end Go.Proofs.Ytahidkjncljkaaa.Print

namespace Go.Proofs.Ytahidkjncljkaaa.Print
open Go.RowKit Go.Proofs.YtahidkjncljkaaaW.PrintWords Go.Proofs.YtahidkjncljkaaaW.PrintLast Go.Proofs.YtahidkjncljkaaaW.PrintMore
attribute [local go_sem] max2_int min2_int max_two min_two max_three min_three max_four min_four

def slices_Clone_Want.f (l0:List (S39)):Option (List (S39)):=if l0.length<2513169434916 then some l0 else none
set_option maxHeartbeats 8000000 in
set_option maxRecDepth 100000 in
theorem slices_Clone_Want.calls (A0:Option Addr) (c0:Nat) (l0:List (S39)) (r:List (S39)) (w:World) (hr0:Kd.C k39 w A0 l0.length l0) (hc0:l0.length≤c0) (h:slices_Clone_Want.f l0=some r):
    Calls Try.prog 77 #[.slice A0 l0.length c0] w fun e w'=> ∃v0_:Value,e= .returned (v0_)∧Kd.R k39 39 w' w.heap.size (fun _=>True) v0_ r∧Below w.heap.size w w':=by
  have hlim:l0.length<2513169434916∧l0=r:=by
    unfold slices_Clone_Want.f at h
    split at h
    · exact ⟨by assumption,Option.some.inj h⟩
    cases h
  obtain ⟨hlim,rfl⟩:=hlim;have hnil:=fun (W:World) (n c:Nat)=>Lib.run_eql_slice_nil (P:=Try.prog) W 22 39 A0 n c 0 0 Try.underlying22
  cases A0 with
  | none =>
    have hl:l0=[]:=by
      cases l0 with
      |nil=>rfl
      |cons x l=>exact absurd (hr0.2.2 (by simp)) (by simp)
    subst hl;clear hr0;go_enter Try.func77,Try.ntmps77;go_wp2
    go_ret
    exact ⟨_,rfl,Kd.R_nil _ _ _ _ _,Below.refl _ _⟩
  | some ad =>
    have HR0:=Aside0.mk hr0;have HC0:=Aside0.mk hc0;have LM:=Aside0.mk hlim;clear hr0 hc0 hlim h;have HB:=am_ (Below.refl w.heap.size w);go_enter Try.func77,Try.ntmps77;go_wp2_with (first|((with_reducible refine gate_dst (N:=5) rfl ?_);refine Kd.R_lit k39 _ 39 ?hg (N:=5) ?hd (xs:=([]:List (S39))) (inner:=[]) (ok:=fun _=>True) (okp:=fun _=>True) ?hr ?hp (fun _ hk=>hk) trivial (Below.refl _ _) (Nat.le_refl _) (by simp) ?_;(case hd=>rfl);(case hg=>rfl);(case hr=>first|(go_simp;done)|(go_simp;rfl));(case hp=>exact (Reps.none _ _));intro v2 w3 ho4 hb hg_ hnew_;clear hg_ hnew_;have HO3:=am_ (Kd.R_lower ho4 (below_size HB.out));replace HB:=am_ (below_step HB.out hb);clear hb ho4)|((with_reducible refine gate_builtin (b:= .append) (xs:=#[.tmp 5, .tmp 6]) rfl ?_);at_builtin;refine Kd.R_append_rows k39 (w0:=w) w.heap.size rfl (.tmp 5) (.tmp 6) 22 39 (.agg #[(.string ⟨#[]⟩),(.string ⟨#[]⟩),(.int .i64 0),(.int .i64 0),(.int .i64 0)]) 56 rfl Try.underlying22 info39 rfl (by decide) (by omega) v2 [] l0 _ _ _ (fun _=>True) (fun _=>False) rfl rfl ?aO ?aR (fun _ _ h=>h) (fun _ h=>h.elim) ?aF ?aB ?aS ?aL ?_;(case aR=>exact (Kd.C_below HR0.out HB.out));(case aB=>exact HB.out);(case aF=>exact (fun _ _=>trivial));(case aO=>exact HO3.out);(case aS=>exact (below_size HB.out));(case aL=>have:=LM.out;simp;omega);intro v5 w5 ho hb hg hat;have n0_:=am_ (hb);have n1_:=am_ (ho);clear HB;clear HO3;have HB:=n0_;have HO6:=n1_;clear n0_ n1_;clear ho hb hg hat))
    go_ret
    exact ⟨_,rfl,HO6.out,HB.out⟩


end Go.Proofs.Ytahidkjncljkaaa.Print
