/- TrialMade: a part -/
import Derived.Test.YtcgefpklljclgaaBTrialMade0
import Derived.Test.YtcgefpklljclgaaBTrialMade1
import Derived.Test.YtcgefpklljclgaaBTrialMade2
import Derived.Test.YtcgefpklljclgaaBTrialMade3
import Derived.Test.YtcgefpklljclgaaBTrialMade4
import Derived.Test.YtcgefpklljclgaaBTrialMade7
import Derived.Test.YtcgefpklljclgaaBTrialMade8
namespace Go.Proofs.Ytcgefpklljclgaa.Print
open Go.RowKit Go.Proofs.YtcgefpklljclgaaW.PrintWords Go.Proofs.YtcgefpklljclgaaW.PrintLast Go.Proofs.YtcgefpklljclgaaW.PrintMore
attribute [local go_sem] max2_int min2_int max_two min_two max_three min_three max_four min_four
set_option linter.unusedVariables false
set_option linter.unusedSimpArgs false

mutual
def law12_Make.l0:Nat→List Int→List (S31)→Int→Option ((List (S31)))
 |0,_,_,_=>none
 |k+1,x0,x3,x4=>if (wrap64 (x4+2))<(x0.length:Int) then (law12_Make.j1 k x0 x3 x4 (decide ((x3.length:Int)<24))) else (law12_Make.j1 k x0 x3 x4 false)
def law12_Make.j1:Nat→List Int→List (S31)→Int→Bool→Option ((List (S31)))
 |0,_,_,_,_=>none
 |k+1,x0,x3,x4,x21=>if x21=true then (if 0≤x4 then (if x4<(x0.length:Int) then (if (x3.length:Int)>0 then (law12_Make.j2 k x0 x3 x4 (wrap64 (rd x0 x4)) (⟨#[]⟩:ByteArray) (decide ((Int.tmod (wrap64 (rd x0 x4)) 3)>0))) else (law12_Make.j2 k x0 x3 x4 (wrap64 (rd x0 x4)) (⟨#[]⟩:ByteArray) false)) else (none)) else (none)) else (some x3)
def law12_Make.j2:Nat→List Int→List (S31)→Int→Int→ByteArray→Bool→Option ((List (S31)))
 |0,_,_,_,_,_,_=>none
 |k+1,x0,x3,x4,x5,x6,x36=>if x36=true then (if (x3.length:Int)=0 then (none) else (if 0≤(Int.tmod (wrap64 (Int.tdiv x5 3)) (x3.length:Int)) then (if (Int.tmod (wrap64 (Int.tdiv x5 3)) (x3.length:Int))<(x3.length:Int) then (law12_Make.j3 k x0 x3 x4 ((rd_T31 x3 (Int.tmod (wrap64 (Int.tdiv x5 3)) (x3.length:Int))).f0)) else (none)) else (none))) else (law12_Make.j3 k x0 x3 x4 x6)
def law12_Make.j3:Nat→List Int→List (S31)→Int→ByteArray→Option ((List (S31)))
 |0,_,_,_,_=>none
 |k+1,x0,x3,x4,x6=>if 0≤(wrap64 (x4+1)) then (if (wrap64 (x4+1))<(x0.length:Int) then ((r10_Create.f k x3 (strOfNums (([(wrap64 (97+(Int.tmod (wrap64 ((x3.length:Int)*5)) 24))) % 256]:List Int))) x6 (wrap64 (20+(wrap64 (rd x0 (wrap64 (x4+1)))))) (wrap64 (20+(wrap64 (rd x0 (wrap64 (x4+1)))))) (wrap64 (20+(wrap64 (rd x0 (wrap64 (x4+1))))))).bind fun bt7=>(if bt7.2=0 then (if 0≤(wrap64 (x4+2)) then (if (wrap64 (x4+2))<(x0.length:Int) then (if (bt7.1.length:Int)=0 then (none) else (if 0≤(Int.tmod (wrap64 (Int.tdiv (wrap64 (rd x0 (wrap64 (x4+2)))) 16)) (bt7.1.length:Int)) then (if (Int.tmod (wrap64 (Int.tdiv (wrap64 (rd x0 (wrap64 (x4+2)))) 16)) (bt7.1.length:Int))<(bt7.1.length:Int) then ((r10_Admit.f k bt7.1 ((rd_T31 bt7.1 (Int.tmod (wrap64 (Int.tdiv (wrap64 (rd x0 (wrap64 (x4+2)))) 16)) (bt7.1.length:Int))).f0) (Int.tmod (wrap64 (rd x0 (wrap64 (x4+2)))) 16) (wrap64 (Int.tdiv (Int.tmod (wrap64 (rd x0 (wrap64 (x4+2)))) 16) 2)) (Int.tmod (Int.tmod (wrap64 (rd x0 (wrap64 (x4+2)))) 16) 3)).bind fun bt15=>(if bt15.2=0 then (law12_Make.l0 k x0 bt15.1 (wrap64 (x4+3))) else (law12_Make.l0 k x0 bt7.1 (wrap64 (x4+3))))) else (none)) else (none))) else (none)) else (none)) else (law12_Make.l0 k x0 x3 (wrap64 (x4+3))))) else (none)) else (none)
end
def law12_Make.f (k:Nat) (l0:List Int):Option ((List (S31))):=law12_Make.l0 k l0 ([]:List (S31)) 0
theorem law12_Make.mono_l: ∀k,(∀y0 y1 y2,LeO (law12_Make.l0 k y0 y1 y2) (law12_Make.l0 (k+1) y0 y1 y2))∧(∀y0 y1 y2 y3,LeO (law12_Make.j1 k y0 y1 y2 y3) (law12_Make.j1 (k+1) y0 y1 y2 y3))∧(∀y0 y1 y2 y3 y4 y5,LeO (law12_Make.j2 k y0 y1 y2 y3 y4 y5) (law12_Make.j2 (k+1) y0 y1 y2 y3 y4 y5))∧(∀y0 y1 y2 y3,LeO (law12_Make.j3 k y0 y1 y2 y3) (law12_Make.j3 (k+1) y0 y1 y2 y3))
 |0=>⟨fun _ _ _ r h=>by simp [law12_Make.l0] at h,fun _ _ _ _ r h=>by simp [law12_Make.j1] at h,fun _ _ _ _ _ _ r h=>by simp [law12_Make.j2] at h,fun _ _ _ _ r h=>by simp [law12_Make.j3] at h⟩
 |k+1=>by
  obtain ⟨ih0,ih1,ih2,ih3⟩:=law12_Make.mono_l k
  refine ⟨?_, ?_, ?_, ?_⟩
  ·intro y0 y1 y2
   unfold law12_Make.l0
   repeat' first
   |(with_reducible exact ih0 _ _ _)
   |(with_reducible exact ih1 _ _ _ _)
   |(with_reducible exact ih2 _ _ _ _ _ _)
   |(with_reducible exact ih3 _ _ _ _)
   |(with_reducible exact r10_Admit.mono _ _ _ _ _ _)
   |(with_reducible exact r10_Create.mono _ _ _ _ _ _ _)
   |(with_reducible exact LeO.refl _)
   |(with_reducible exact LeO.none _)
   |(with_reducible refine LeO.ite ?_ ?_)
   |(with_reducible refine LeO.bind ?_ (fun _=> ?_))
   |exact ih0 _ _ _
   |exact ih1 _ _ _ _
   |exact ih2 _ _ _ _ _ _
   |exact ih3 _ _ _ _
   |exact r10_Admit.mono _ _ _ _ _ _
   |exact r10_Create.mono _ _ _ _ _ _ _
   |exact LeO.none _
   |refine LeO.ite ?_ ?_
   |refine LeO.bind ?_ (fun _=> ?_)
  ·intro y0 y1 y2 y3
   unfold law12_Make.j1
   repeat' first
   |(with_reducible exact ih0 _ _ _)
   |(with_reducible exact ih1 _ _ _ _)
   |(with_reducible exact ih2 _ _ _ _ _ _)
   |(with_reducible exact ih3 _ _ _ _)
   |(with_reducible exact r10_Admit.mono _ _ _ _ _ _)
   |(with_reducible exact r10_Create.mono _ _ _ _ _ _ _)
   |(with_reducible exact LeO.refl _)
   |(with_reducible exact LeO.none _)
   |(with_reducible refine LeO.ite ?_ ?_)
   |(with_reducible refine LeO.bind ?_ (fun _=> ?_))
   |exact ih0 _ _ _
   |exact ih1 _ _ _ _
   |exact ih2 _ _ _ _ _ _
   |exact ih3 _ _ _ _
   |exact r10_Admit.mono _ _ _ _ _ _
   |exact r10_Create.mono _ _ _ _ _ _ _
   |exact LeO.none _
   |refine LeO.ite ?_ ?_
   |refine LeO.bind ?_ (fun _=> ?_)
  ·intro y0 y1 y2 y3 y4 y5
   unfold law12_Make.j2
   repeat' first
   |(with_reducible exact ih0 _ _ _)
   |(with_reducible exact ih1 _ _ _ _)
   |(with_reducible exact ih2 _ _ _ _ _ _)
   |(with_reducible exact ih3 _ _ _ _)
   |(with_reducible exact r10_Admit.mono _ _ _ _ _ _)
   |(with_reducible exact r10_Create.mono _ _ _ _ _ _ _)
   |(with_reducible exact LeO.refl _)
   |(with_reducible exact LeO.none _)
   |(with_reducible refine LeO.ite ?_ ?_)
   |(with_reducible refine LeO.bind ?_ (fun _=> ?_))
   |exact ih0 _ _ _
   |exact ih1 _ _ _ _
   |exact ih2 _ _ _ _ _ _
   |exact ih3 _ _ _ _
   |exact r10_Admit.mono _ _ _ _ _ _
   |exact r10_Create.mono _ _ _ _ _ _ _
   |exact LeO.none _
   |refine LeO.ite ?_ ?_
   |refine LeO.bind ?_ (fun _=> ?_)
  intro y0 y1 y2 y3
  unfold law12_Make.j3
  repeat' first
  |(with_reducible exact ih0 _ _ _)
  |(with_reducible exact ih1 _ _ _ _)
  |(with_reducible exact ih2 _ _ _ _ _ _)
  |(with_reducible exact ih3 _ _ _ _)
  |(with_reducible exact r10_Admit.mono _ _ _ _ _ _)
  |(with_reducible exact r10_Create.mono _ _ _ _ _ _ _)
  |(with_reducible exact LeO.refl _)
  |(with_reducible exact LeO.none _)
  |(with_reducible refine LeO.ite ?_ ?_)
  |(with_reducible refine LeO.bind ?_ (fun _=> ?_))
  |exact ih0 _ _ _
  |exact ih1 _ _ _ _
  |exact ih2 _ _ _ _ _ _
  |exact ih3 _ _ _ _
  |exact r10_Admit.mono _ _ _ _ _ _
  |exact r10_Create.mono _ _ _ _ _ _ _
  |exact LeO.none _
  |refine LeO.ite ?_ ?_
  |refine LeO.bind ?_ (fun _=> ?_)
theorem law12_Make.mono: ∀a0 k,LeO (law12_Make.f k a0) (law12_Make.f (k+1) a0):=by
 intro a0 k
 obtain ⟨ih0,ih1,ih2,ih3⟩:=law12_Make.mono_l k
 unfold law12_Make.f
 repeat' first
  |(with_reducible exact ih0 _ _ _)
  |(with_reducible exact ih1 _ _ _ _)
  |(with_reducible exact ih2 _ _ _ _ _ _)
  |(with_reducible exact ih3 _ _ _ _)
  |(with_reducible exact r10_Admit.mono _ _ _ _ _ _)
  |(with_reducible exact r10_Create.mono _ _ _ _ _ _ _)
  |(with_reducible exact LeO.refl _)
  |(with_reducible exact LeO.none _)
  |(with_reducible refine LeO.ite ?_ ?_)
  |(with_reducible refine LeO.bind ?_ (fun _=> ?_))
  |exact ih0 _ _ _
  |exact ih1 _ _ _ _
  |exact ih2 _ _ _ _ _ _
  |exact ih3 _ _ _ _
  |exact r10_Admit.mono _ _ _ _ _ _
  |exact r10_Create.mono _ _ _ _ _ _ _
  |exact LeO.none _
  |refine LeO.ite ?_ ?_
  |refine LeO.bind ?_ (fun _=> ?_)
set_option maxHeartbeats 8000000 in
set_option maxRecDepth 100000 in
theorem law12_Make.calls (k:Nat) (A0:Option Addr) (c0:Nat) (l0:List Int) (r:List (S31)) (w:World) (hr0:Kd.C (Kd.int .u8) w A0 l0.length l0) (hc0:l0.length≤c0) (h:law12_Make.f k l0=some r):
  Calls Try.prog 32 #[.slice A0 l0.length c0] w fun e w'=> ∃v0_:Value,e= .returned (v0_)∧Kd.R k31 31 w' w.heap.size (fun _=>True) v0_ r∧Below w.heap.size w w':=by
 have HR0:=Aside0.mk hr0
 clear hr0 hc0
 have HB:=am_ (Below.refl w.heap.size w)
 have H:(law12_Make.l0 k l0 ([]:List (S31)) 0)=some r:=h
 clear h
 have H':=Aside0.mk H
 clear H
 go_enter Try.func32,Try.ntmps32
 go_wp2
 go_loopg [3,4] k (fun kq v3 v4 w'=> ∃(x3_1:List (S31)) (x4_1:Int),v4= .int .i64 x4_1∧Aside0 (law12_Make.l0 kq l0 x3_1 x4_1=some r)∧Aside0 (kq≤k)∧Aside0 (Kd.R k31 31 w' w.heap.size (fun _=>True) v3 x3_1)∧Aside0 (Below w.heap.size w w'))
 case atStart=>exact ⟨(([]:List (S31))),(0),(by first|rfl|(simp;done)|(simp [*];done)),H',⟨Nat.le_refl _⟩,⟨by first|exact Kd.R_nil _ _ _ _ _|exact Kd.N_nil _ _ _ _ _|exact Kd.V_nil _ _ _ _ _|exact Kd.Q_nil _ _ _ _ _|exact Kd.S_nil _ _ _ _ _⟩,⟨zl0_ HB⟩⟩
 case round=>
  clear H'
  obtain ⟨x3_1,x4_1,rfl,HA,HK1,HO_3,HB⟩:=hrel
  cases gk with
  |zero=>exact absurd HA.out (by simp [law12_Make.l0])
  |succ k1=>
   have H:=HA.out
   clear HA
   simp only [law12_Make.l0] at H
   have HC2:=Aside0.mk H
   clear H
   go_upto_region 3 with (fail)
   go_cut [21] (fun v21 wc=> ∃(kq:Nat) (x21_1:Bool),v21= .bool x21_1∧Aside0 (law12_Make.j1 kq l0 x3_1 x4_1 x21_1=some r)∧Aside0 (kq≤k1)∧Aside0 (Kd.R k31 31 wc w.heap.size (fun _=>True) u3 x3_1)∧Aside0 (Below w.heap.size w wc))
   case first=>
    have H:=HC2.out
    clear HC2
    by_cases c3:(wrap64 (x4_1+2))<(l0.length:Int)
    rotate_left
    ·rw [if_neg c3] at H
     have c3b0:decide ((wrap64 (x4_1+2))<(l0.length:Int))=false:=decide_eq_false c3
     clear c3
     (first|rw [c3b0]|(simp only [i64_w,i32_w];rw [c3b0])|skip)
     have H':=Aside0.mk H
     clear H
     go_wp2
     go_meet
     case rel=>exact ⟨_,(false),(by first|rfl|(simp;done)|(simp [*];done)),H',⟨by have:=HK1.out;first|omega|exact Nat.le_refl _⟩,⟨by (with_reducible repeat (first|apply Kd.R_alloc|apply Kd.R_drewN|apply Kd.R_drew));exact HO_3.out⟩,⟨zl0_ HB⟩⟩
    rw [if_pos c3] at H
    have c3b0:decide ((wrap64 (x4_1+2))<(l0.length:Int))=true:=decide_eq_true c3
    clear c3
    (first|rw [c3b0]|(simp only [i64_w,i32_w];rw [c3b0])|skip)
    have H':=Aside0.mk H
    clear H
    obtain ⟨Ao4,co4,eo4⟩:=Kd.R_slice HO_3.out
    subst eo4
    go_wp2
    go_meet
    case rel=>exact ⟨_,(decide ((x3_1.length:Int)<24)),(by first|rfl|(simp;done)|(simp [*];done)),H',⟨by have:=HK1.out;first|omega|exact Nat.le_refl _⟩,⟨by (with_reducible repeat (first|apply Kd.R_alloc|apply Kd.R_drewN|apply Kd.R_drew));exact HO_3.out⟩,⟨zl0_ HB⟩⟩
   case rest=>
    clear HC2
    try clear p2
    try clear c3
    try clear c3b0
    obtain ⟨kq,x21_1,rfl,HA,HJ1,HO_3,HB⟩:=hcut
    cases kq with
    |zero=>exact absurd HA.out (by simp [law12_Make.j1])
    |succ kj1=>
     have H:=HA.out
     clear HA
     simp only [law12_Make.j1] at H
     by_cases c5:x21_1=true
     rotate_left
     ·replace c5:=Bool.eq_false_iff.mpr c5
      subst c5
      have H1:(some x3_1)=some r:=by rw [if_neg (show¬(false=true) by decide)] at H;exact H
      clear H
      have H:=H1
      clear H1
      obtain rfl:=Option.some.inj H
      go_wp2
      go_ret
      exact ⟨_,by first|rfl|(simp [errW_none,errW_some]<;>rfl)|(simp [*,errW_none,errW_some]<;>rfl),by (with_reducible repeat (first|apply Kd.R_alloc|apply Kd.R_drewN|apply Kd.R_drew));exact HO_3.out,zl0_ HB⟩

     subst c5
     have H1:(if 0≤x4_1 then (if x4_1<(l0.length:Int) then (if (x3_1.length:Int)>0 then (law12_Make.j2 kj1 l0 x3_1 x4_1 (wrap64 (rd l0 x4_1)) (⟨#[]⟩:ByteArray) (decide ((Int.tmod (wrap64 (rd l0 x4_1)) 3)>0))) else (law12_Make.j2 kj1 l0 x3_1 x4_1 (wrap64 (rd l0 x4_1)) (⟨#[]⟩:ByteArray) false)) else (none)) else (none))=some r:=by rw [if_pos rfl] at H;exact H
     clear H
     have H:=H1
     clear H1
     by_cases c6:0≤x4_1
     rotate_left
     ·rw [if_neg c6] at H
      exact absurd H (by simp)
     rw [if_pos c6] at H
     have c6b0:decide (0≤x4_1)=true:=decide_eq_true c6
     clear c6
     by_cases c7:x4_1<(l0.length:Int)
     rotate_left
     ·rw [if_neg c7] at H
      exact absurd H (by simp)
     rw [if_pos c7] at H
     have c7b0:decide (x4_1<(l0.length:Int))=true:=decide_eq_true c7
     clear c7
     have HC8:=Aside0.mk H
     clear H
     have p1:0≤(x4_1:Int):=of_decide_eq_true zq_
     have q1:x4_1<(l0.length:Int):=of_decide_eq_true zq_
     obtain ⟨ad1,e1,hx1_0⟩:=Kd.at_int HR0.out x4_1 p1 q1
     cases e1
     replace hx1_0:=zx_ HB hx1_0
     replace p1:=eq_true p1
     replace q1:=eq_true q1
     go_upto_region 7 with (fail)
     go_cut [36] (fun v36 wc=> ∃(kq:Nat) (x36_7:Bool),v36= .bool x36_7∧Aside0 (law12_Make.j2 kq l0 x3_1 x4_1 (wrap64 (rd l0 x4_1)) (⟨#[]⟩:ByteArray) x36_7=some r)∧Aside0 (kq≤kj1)∧Aside0 (Kd.R k31 31 wc w.heap.size (fun _=>True) u3 x3_1)∧Aside0 (Below w.heap.size w wc))
     case first=>
      have H:=HC8.out
      clear HC8
      by_cases c9:(x3_1.length:Int)>0
      ·rw [if_pos c9] at H
       have c9b0:decide (0<(x3_1.length:Int))=true:=decide_eq_true c9
       have c9b1:decide (0<x3_1.length)=true:=decide_eq_true (by omega)
       clear c9
       (first|rw [c9b0]|(simp only [i64_w,i32_w];rw [c9b0])|skip)
       have H':=Aside0.mk H
       clear H
       obtain ⟨Ao10,co10,eo10⟩:=Kd.R_slice HO_3.out
       subst eo10
       go_wp2
       go_meet
       case rel=>exact ⟨_,(decide ((Int.tmod (wrap64 (rd l0 x4_1)) 3)>0)),(by first|rfl|(simp;done)|(simp [*];done)),H',⟨by have:=HK1.out;have:=HJ1.out;first|omega|exact Nat.le_refl _⟩,⟨by (with_reducible repeat (first|apply Kd.R_alloc|apply Kd.R_drewN|apply Kd.R_drew));exact HO_3.out⟩,⟨zl0_ HB⟩⟩
      rw [if_neg c9] at H
      have c9b0:decide (0<(x3_1.length:Int))=false:=decide_eq_false c9
      have c9b1:decide (0<x3_1.length)=false:=decide_eq_false (by omega)
      clear c9
      (first|rw [c9b0]|(simp only [i64_w,i32_w];rw [c9b0])|skip)
      have H':=Aside0.mk H
      clear H
      obtain ⟨Ao11,co11,eo11⟩:=Kd.R_slice HO_3.out
      subst eo11
      go_wp2
      go_meet
      case rel=>exact ⟨_,(false),(by first|rfl|(simp;done)|(simp [*];done)),H',⟨by have:=HK1.out;have:=HJ1.out;first|omega|exact Nat.le_refl _⟩,⟨by (with_reducible repeat (first|apply Kd.R_alloc|apply Kd.R_drewN|apply Kd.R_drew));exact HO_3.out⟩,⟨zl0_ HB⟩⟩
     case rest=>
      clear HC8
      try clear p1
      try clear q1
      try clear hx1
      try clear p2
      try clear c3
      try clear c3b0
      try clear c5
      try clear c6
      try clear c6b0
      try clear p6
      try clear c7
      try clear c7b0
      try clear c9
      try clear c9b0
      try clear c9b1
      try clear hx1_0
      try clear p1
      try clear p2
      try clear q1
      obtain ⟨kq,x36_7,rfl,HA,HJ7,HO_3,HB⟩:=hcut
      cases kq with
      |zero=>exact absurd HA.out (by simp [law12_Make.j2])
      |succ kj7=>
       have H:=HA.out
       clear HA
       simp only [law12_Make.j2] at H
       have HC12:=Aside0.mk H
       clear H
       go_upto_if 36 with (fail)
       go_cut [6] (fun v6 wc=> ∃(kq:Nat) (x6_11:ByteArray),v6= .string x6_11∧Aside0 (law12_Make.j3 kq l0 x3_1 x4_1 x6_11=some r)∧Aside0 (kq≤kj7)∧Aside0 (Kd.R k31 31 wc w.heap.size (fun _=>True) u3 x3_1)∧Aside0 (Below w.heap.size w wc))
       case first=>
        have H:=HC12.out
        clear HC12
        by_cases c13:x36_7=true
        rotate_left
        ·replace c13:=Bool.eq_false_iff.mpr c13
         subst c13
         have H1:(law12_Make.j3 kj7 l0 x3_1 x4_1 (⟨#[]⟩:ByteArray))=some r:=by rw [if_neg (show¬(false=true) by decide)] at H;exact H
         clear H
         have H:=H1
         clear H1
         have H':=Aside0.mk H
         clear H
         go_wp2
         go_meet
         case rel=>exact ⟨_,((⟨#[]⟩:ByteArray)),(by first|rfl|(simp;done)|(simp [*];done)),H',⟨by have:=HK1.out;have:=HJ1.out;have:=HJ7.out;first|omega|exact Nat.le_refl _⟩,⟨by (with_reducible repeat (first|apply Kd.R_alloc|apply Kd.R_drewN|apply Kd.R_drew));exact HO_3.out⟩,⟨zl0_ HB⟩⟩
        subst c13
        have H1:(if (x3_1.length:Int)=0 then (none) else (if 0≤(Int.tmod (wrap64 (Int.tdiv (wrap64 (rd l0 x4_1)) 3)) (x3_1.length:Int)) then (if (Int.tmod (wrap64 (Int.tdiv (wrap64 (rd l0 x4_1)) 3)) (x3_1.length:Int))<(x3_1.length:Int) then (law12_Make.j3 kj7 l0 x3_1 x4_1 ((rd_T31 x3_1 (Int.tmod (wrap64 (Int.tdiv (wrap64 (rd l0 x4_1)) 3)) (x3_1.length:Int))).f0)) else (none)) else (none)))=some r:=by rw [if_pos rfl] at H;exact H
        clear H
        have H:=H1
        clear H1
        by_cases c14:(x3_1.length:Int)=0
        ·rw [if_pos c14] at H
         exact absurd H (by simp)
        rw [if_neg c14] at H
        have c14b0:((x3_1.length:Int)==0)=false:=beq_eq_false_iff_ne.mpr c14
        have c14b2: ¬(x3_1=[]):=fun h_=>c14 (by rw [h_];rfl)
        (first|rw [c14b0]|(simp only [i64_w,i32_w];rw [c14b0])|skip)
        obtain ⟨ji15,hji15⟩: ∃j_:Int,(Int.tmod (wrap64 (Int.tdiv (wrap64 (rd l0 x4_1)) 3)) (x3_1.length:Int))=j_:=⟨_,rfl⟩
        replace H:(if 0≤(ji15) then (if (ji15)<(x3_1.length:Int) then (law12_Make.j3 kj7 l0 x3_1 x4_1 ((rd_T31 x3_1 (ji15)).f0)) else (none)) else (none))=some r:=by first|(rw [hji15] at H;exact H)|(simp only [hji15] at H ⊢;exact H)
        by_cases c16:0≤(ji15)
        rotate_left
        ·rw [if_neg c16] at H
         exact absurd H (by simp)
        rw [if_pos c16] at H
        have c16b0:decide (0≤(ji15))=true:=decide_eq_true c16
        clear c16
        by_cases c17:(ji15)<(x3_1.length:Int)
        rotate_left
        ·rw [if_neg c17] at H
         exact absurd H (by simp)
        rw [if_pos c17] at H
        have c17b0:decide ((ji15)<(x3_1.length:Int))=true:=decide_eq_true c17
        clear c17
        have H':=Aside0.mk H
        clear H
        obtain ⟨Ao18,co18,eo18⟩:=Kd.R_slice HO_3.out
        subst eo18
        have p2:0≤((ji15):Int):=of_decide_eq_true zq_
        have q2:(ji15)<(x3_1.length:Int):=of_decide_eq_true zq_
        obtain ⟨ad2,e2,hx2_0,hx2_1,hx2_2,hx2_3,hx2_4,hx2_5,hx2_6,hx2_7,hx2_8,hx2_9,hx2_10,hx2_11⟩:=at_T31 (Kd.R_reads' HO_3.out).2.2 (ji15) p2 q2
        cases e2
        replace p2:=eq_true p2
        replace q2:=eq_true q2
        go_wp2
        go_meet
        case rel=>exact ⟨_,((rd_T31 x3_1 (ji15)).f0),(by first|rfl|(simp;done)|(simp only [←hji15]<;>(first|rfl|simp))|(simp [*];done)),H',⟨by have:=HK1.out;have:=HJ1.out;have:=HJ7.out;first|omega|exact Nat.le_refl _⟩,⟨by (with_reducible repeat (first|apply Kd.R_alloc|apply Kd.R_drewN|apply Kd.R_drew));exact HO_3.out⟩,⟨zl0_ HB⟩⟩
       case rest=>
        clear HC12
        try clear c1
        try clear p1
        try clear q1
        try clear hx1
        try clear p2
        try clear q2
        try clear hx2
        try clear c3
        try clear c3b0
        try clear c5
        try clear c6
        try clear c6b0
        try clear p6
        try clear c7
        try clear c7b0
        try clear c9
        try clear c9b0
        try clear c9b1
        try clear c13
        try clear c14
        try clear c14b0
        try clear c14b2
        try clear c16
        try clear c16b0
        try clear c17
        try clear c17b0
        try clear hx1_0
        try clear hx2_0
        try clear hx2_1
        try clear hx2_10
        try clear hx2_11
        try clear hx2_2
        try clear hx2_3
        try clear hx2_4
        try clear hx2_5
        try clear hx2_6
        try clear hx2_7
        try clear hx2_8
        try clear hx2_9
        try clear p1
        try clear p2
        try clear p6
        try clear q1
        try clear q2
        obtain ⟨kq,x6_11,rfl,HA,HJ11,HO_3,HB⟩:=hcut
        cases kq with
        |zero=>exact absurd HA.out (by simp [law12_Make.j3])
        |succ kj11=>
         have H:=HA.out
         clear HA
         simp only [law12_Make.j3] at H
         obtain ⟨ji19,hji19⟩: ∃j_:Int,(wrap64 (x4_1+1))=j_:=⟨_,rfl⟩
         replace H:(if 0≤(ji19) then (if (ji19)<(l0.length:Int) then ((r10_Create.f kj11 x3_1 (strOfNums (([(wrap64 (97+(Int.tmod (wrap64 ((x3_1.length:Int)*5)) 24))) % 256]:List Int))) x6_11 (wrap64 (20+(wrap64 (rd l0 (ji19))))) (wrap64 (20+(wrap64 (rd l0 (ji19))))) (wrap64 (20+(wrap64 (rd l0 (ji19)))))).bind fun bt7=>(if bt7.2=0 then (if 0≤(wrap64 (x4_1+2)) then (if (wrap64 (x4_1+2))<(l0.length:Int) then (if (bt7.1.length:Int)=0 then (none) else (if 0≤(Int.tmod (wrap64 (Int.tdiv (wrap64 (rd l0 (wrap64 (x4_1+2)))) 16)) (bt7.1.length:Int)) then (if (Int.tmod (wrap64 (Int.tdiv (wrap64 (rd l0 (wrap64 (x4_1+2)))) 16)) (bt7.1.length:Int))<(bt7.1.length:Int) then ((r10_Admit.f kj11 bt7.1 ((rd_T31 bt7.1 (Int.tmod (wrap64 (Int.tdiv (wrap64 (rd l0 (wrap64 (x4_1+2)))) 16)) (bt7.1.length:Int))).f0) (Int.tmod (wrap64 (rd l0 (wrap64 (x4_1+2)))) 16) (wrap64 (Int.tdiv (Int.tmod (wrap64 (rd l0 (wrap64 (x4_1+2)))) 16) 2)) (Int.tmod (Int.tmod (wrap64 (rd l0 (wrap64 (x4_1+2)))) 16) 3)).bind fun bt15=>(if bt15.2=0 then (law12_Make.l0 kj11 l0 bt15.1 (wrap64 (x4_1+3))) else (law12_Make.l0 kj11 l0 bt7.1 (wrap64 (x4_1+3))))) else (none)) else (none))) else (none)) else (none)) else (law12_Make.l0 kj11 l0 x3_1 (wrap64 (x4_1+3))))) else (none)) else (none))=some r:=by first|(rw [hji19] at H;exact H)|(simp only [hji19] at H ⊢;exact H)
         have hji19w:(IntKind.i64.wrap (x4_1+1))=ji19:=(i64_w _).trans hji19
         by_cases c20:0≤(ji19)
         rotate_left
         ·rw [if_neg c20] at H
          exact absurd H (by simp)
         rw [if_pos c20] at H
         have c20b0:decide (0≤(ji19))=true:=decide_eq_true c20
         clear c20
         by_cases c21:(ji19)<(l0.length:Int)
         rotate_left
         ·rw [if_neg c21] at H
          exact absurd H (by simp)
         rw [if_pos c21] at H
         have c21b0:decide ((ji19)<(l0.length:Int))=true:=decide_eq_true c21
         clear c21
         obtain ⟨y4,hy4⟩: ∃y_:List Int,y_=(([(wrap64 (97+(Int.tmod (wrap64 ((x3_1.length:Int)*5)) 24))) % 256]:List Int)):=⟨_,rfl⟩
         replace H:((r10_Create.f kj11 x3_1 (strOfNums y4) x6_11 (wrap64 (20+(wrap64 (rd l0 (ji19))))) (wrap64 (20+(wrap64 (rd l0 (ji19))))) (wrap64 (20+(wrap64 (rd l0 (ji19)))))).bind fun bt7=>(if bt7.2=0 then (if 0≤(wrap64 (x4_1+2)) then (if (wrap64 (x4_1+2))<(l0.length:Int) then (if (bt7.1.length:Int)=0 then (none) else (if 0≤(Int.tmod (wrap64 (Int.tdiv (wrap64 (rd l0 (wrap64 (x4_1+2)))) 16)) (bt7.1.length:Int)) then (if (Int.tmod (wrap64 (Int.tdiv (wrap64 (rd l0 (wrap64 (x4_1+2)))) 16)) (bt7.1.length:Int))<(bt7.1.length:Int) then ((r10_Admit.f kj11 bt7.1 ((rd_T31 bt7.1 (Int.tmod (wrap64 (Int.tdiv (wrap64 (rd l0 (wrap64 (x4_1+2)))) 16)) (bt7.1.length:Int))).f0) (Int.tmod (wrap64 (rd l0 (wrap64 (x4_1+2)))) 16) (wrap64 (Int.tdiv (Int.tmod (wrap64 (rd l0 (wrap64 (x4_1+2)))) 16) 2)) (Int.tmod (Int.tmod (wrap64 (rd l0 (wrap64 (x4_1+2)))) 16) 3)).bind fun bt15=>(if bt15.2=0 then (law12_Make.l0 kj11 l0 bt15.1 (wrap64 (x4_1+3))) else (law12_Make.l0 kj11 l0 bt7.1 (wrap64 (x4_1+3))))) else (none)) else (none))) else (none)) else (none)) else (law12_Make.l0 kj11 l0 x3_1 (wrap64 (x4_1+3)))))=some r:=by first|(rw [hy4];with_reducible exact H)|(have H2_:=(Option.bind_some _ _).symm.trans H;rw [hy4];with_reducible exact H2_)|(have H2_:=(Option.bind_some _ _).symm.trans H;with_reducible exact H2_)|with_reducible exact H|(rw [hy4];exact H)|exact H
         have Ny4:=Aside0.mk hy4
         clear hy4
         replace H:=Option.bind_eq_some_iff.mp H
         obtain ⟨⟨t7,t10⟩,A220,H⟩:=H
         try dsimp only at H
         have A22:=Aside0.mk A220
         clear A220
         by_cases c23:t10=0
         rotate_left
         ·rw [if_neg c23] at H
          have c23b1:(t10 !=0)=true:=bne_iff_ne.mpr c23
          have H':=Aside0.mk H
          clear H
          have p3:0≤((ji19):Int):=of_decide_eq_true zq_
          have q3:(ji19)<(l0.length:Int):=of_decide_eq_true zq_
          obtain ⟨ad3,e3,hx3_0⟩:=Kd.at_int HR0.out (ji19) p3 q3
          obtain rfl:ad1=ad3:=(by injection e3)
          replace hx3_0:=zx_ HB hx3_0
          replace p3:=eq_true p3
          replace q3:=eq_true q3
          obtain ⟨Ao59,co59,eo59⟩:=Kd.R_slice HO_3.out
          subst eo59
          go_wp2_with (first|((with_reducible refine gate_dst (N:=60) rfl ?_);(try (refine gate_guard (by rfl) ?_;dsimp only));refine Kd.R_lit (Kd.int .u8) _ 5 ?hg (N:=60) ?hd (xs:=([(wrap64 (97+(Int.tmod (wrap64 ((x3_1.length:Int)*5)) 24))) % 256]:List Int)) (inner:=[.int .u8 ((wrap64 (97+(Int.tmod (wrap64 ((x3_1.length:Int)*5)) 24))) % 256)]) (ok:=fun _=>True) (okp:=fun _=>True) ?hr ?hp (fun _ hk=>hk) trivial (Below.refl _ _) (Nat.le_refl _) (by simp) ?_;(case hd=>rfl);(case hg=>rfl);(case hr=>first|(go_simp;done)|(go_simp;rfl));(case hp=>exact (Reps.one (show Kd.M (Kd.int .u8) _ _ _ ((wrap64 (97+(Int.tmod (wrap64 ((x3_1.length:Int)*5)) 24))) % 256) [.int .u8 ((wrap64 (97+(Int.tmod (wrap64 ((x3_1.length:Int)*5)) 24))) % 256)] from rfl) (Reps.none _ _)));intro v5 w60 ho61 hb hg_ hnew_;clear hg_ hnew_;(first|rw [←Ny4.out] at ho61|(simp only [Int.reduceToNat] at ho61;rw [←Ny4.out] at ho61));replace HO_3:=am_ (Kd.R_below (zr_ HO_3) hb);have HO6:=am_ (Kd.R_lower ho61 (below_size (zl0_ HB)));replace HB:=am_ (below_step (zl0_ HB) hb);clear hb ho61;have hcv62:=own_string (P:=Try.prog) Try.underlying22 Try.underlying5 Try.underlying9 (Kd.own_of_R HO6.out))|((with_reducible refine gate_callee (f:=83) rfl ?_);refine goesL_ (some 67) rfl rfl Try.func83 (by kernel_rfl) rfl #[.slice Ao59 x3_1.length co59, .string (strOfNums y4), .string x6_11, .agg #[.int .i64 (wrap64 (20+(wrap64 (rd l0 (ji19))))), .int .i64 (wrap64 (20+(wrap64 (rd l0 (ji19))))), .int .i64 (wrap64 (20+(wrap64 (rd l0 (ji19)))))]] rfl (by (try simp only [List.map_toArray,List.map_cons,List.map_nil]);first|done|(simp only [hji19];rfl)|rfl|(simp only [List.length_drop,List.length_take];rfl)) ?_;(with_reducible refine (r10_Create.calls kj11 _ _ x3_1 (strOfNums y4) x6_11 (wrap64 (20+(wrap64 (rd l0 (ji19))))) (wrap64 (20+(wrap64 (rd l0 (ji19))))) (wrap64 (20+(wrap64 (rd l0 (ji19))))) t7 t10 _ ?side1 ?side2 A22.out).mono ?_);(case side1=>exact zc_ (Kd.R_reads' HO_3.out).2.2);(case side2=>exact (Kd.R_reads' HO_3.out).2.1);rintro e w63 ⟨v8,rfl,ho0,hb⟩;refine ⟨_,rfl, ?_⟩;replace HO6:=am_ (Kd.R_below (zr_ HO6) hb);have HO9:=am_ (Kd.R_lower (Kd.R_new' ho0 (Kd.R_lt (zr_ HO_3))) (below_size (zl0_ HB)));replace HO_3:=am_ (Kd.R_elder' (zr_ HO_3) (Kd.R_base ho0) hb);replace HB:=am_ (below_step (zl0_ HB) hb);(try clear hb);(try clear hb2);(try clear hk);(try clear hi);(try clear ho0))|((with_reducible refine gate_dst (N:=8) rfl ?_);(try (refine gate_guard (by rfl) ?_;dsimp only));refine bx_ (N:=8) (cs:=#[.slice none 0 0, .int .i64 0]) (t:=67) ?_;intro gb11 hg w64 hbox hb;replace HO_3:=am_ (Kd.R_below (zr_ HO_3) hb);replace HO6:=am_ (Kd.R_below (zr_ HO6) hb);replace HO9:=am_ (Kd.R_below (zr_ HO9) hb);have BK11:=am_ (hbox);have GW11:=am_ ((zg0_ HB hg:w.heap.size≤gb11));have GE11:=am_ ((zg0_ HB hg:w.heap.size≤gb11));replace HB:=am_ (below_step (zl0_ HB) hb);clear hb hbox hg;obtain ⟨Ao65,co65,eo65⟩:=Kd.R_slice HO9.out;subst eo65;obtain ⟨hcz66_0,hcz66_1⟩:=x2_ BK11;have hfz66_0:=blk_frozen BK11.out 0;have hfz66_1:=blk_frozen BK11.out 1))
          go_roundg kj11
          case measure=>have:=HK1.out;have:=HJ1.out;have:=HJ7.out;have:=HJ11.out;omega
          case rel=>exact ⟨(x3_1),(wrap64 (x4_1+3)),(by first|rfl|(simp;done)|(simp [*];done)),H',⟨by have:=HK1.out;have:=HJ1.out;have:=HJ7.out;have:=HJ11.out;omega⟩,⟨zy_ HO_3 BK11⟩,⟨zl1_ HB GE11⟩⟩
         rw [if_pos c23] at H
         have c23b1:(t10 !=0)=false:=bne_eq_false_iff_eq.mpr c23
         clear c23
         obtain ⟨ji24,hji24⟩: ∃j_:Int,(wrap64 (x4_1+2))=j_:=⟨_,rfl⟩
         replace H:(if 0≤(ji24) then (if (ji24)<(l0.length:Int) then (if (t7.length:Int)=0 then (none) else (if 0≤(Int.tmod (wrap64 (Int.tdiv (wrap64 (rd l0 (ji24))) 16)) (t7.length:Int)) then (if (Int.tmod (wrap64 (Int.tdiv (wrap64 (rd l0 (ji24))) 16)) (t7.length:Int))<(t7.length:Int) then ((r10_Admit.f kj11 t7 ((rd_T31 t7 (Int.tmod (wrap64 (Int.tdiv (wrap64 (rd l0 (ji24))) 16)) (t7.length:Int))).f0) (Int.tmod (wrap64 (rd l0 (ji24))) 16) (wrap64 (Int.tdiv (Int.tmod (wrap64 (rd l0 (ji24))) 16) 2)) (Int.tmod (Int.tmod (wrap64 (rd l0 (ji24))) 16) 3)).bind fun bt15=>(if bt15.2=0 then (law12_Make.l0 kj11 l0 bt15.1 (wrap64 (x4_1+3))) else (law12_Make.l0 kj11 l0 t7 (wrap64 (x4_1+3))))) else (none)) else (none))) else (none)) else (none))=some r:=by first|(rw [hji24] at H;exact H)|(simp only [hji24] at H ⊢;exact H)
         (try rw [hji24] at A22)
         have hji24w:(IntKind.i64.wrap (x4_1+2))=ji24:=(i64_w _).trans hji24
         by_cases c25:0≤(ji24)
         rotate_left
         ·rw [if_neg c25] at H
          exact absurd H (by simp)
         rw [if_pos c25] at H
         have c25b0:decide (0≤(ji24))=true:=decide_eq_true c25
         clear c25
         by_cases c26:(ji24)<(l0.length:Int)
         rotate_left
         ·rw [if_neg c26] at H
          exact absurd H (by simp)
         rw [if_pos c26] at H
         have c26b0:decide ((ji24)<(l0.length:Int))=true:=decide_eq_true c26
         clear c26
         by_cases c27:(t7.length:Int)=0
         ·rw [if_pos c27] at H
          exact absurd H (by simp)
         rw [if_neg c27] at H
         have c27b2: ¬(t7=[]):=fun h_=>c27 (by rw [h_];rfl)
         obtain ⟨ji28,hji28⟩: ∃j_:Int,(Int.tmod (wrap64 (Int.tdiv (wrap64 (rd l0 (ji24))) 16)) (t7.length:Int))=j_:=⟨_,rfl⟩
         replace H:(if 0≤(ji28) then (if (ji28)<(t7.length:Int) then ((r10_Admit.f kj11 t7 ((rd_T31 t7 (ji28)).f0) (Int.tmod (wrap64 (rd l0 (ji24))) 16) (wrap64 (Int.tdiv (Int.tmod (wrap64 (rd l0 (ji24))) 16) 2)) (Int.tmod (Int.tmod (wrap64 (rd l0 (ji24))) 16) 3)).bind fun bt15=>(if bt15.2=0 then (law12_Make.l0 kj11 l0 bt15.1 (wrap64 (x4_1+3))) else (law12_Make.l0 kj11 l0 t7 (wrap64 (x4_1+3))))) else (none)) else (none))=some r:=by first|(rw [hji28] at H;exact H)|(simp only [hji28] at H ⊢;exact H)
         (try rw [hji28] at A22)
         by_cases c29:0≤(ji28)
         rotate_left
         ·rw [if_neg c29] at H
          exact absurd H (by simp)
         rw [if_pos c29] at H
         have c29b0:decide (0≤(ji28))=true:=decide_eq_true c29
         clear c29
         by_cases c30:(ji28)<(t7.length:Int)
         rotate_left
         ·rw [if_neg c30] at H
          exact absurd H (by simp)
         rw [if_pos c30] at H
         have c30b0:decide ((ji28)<(t7.length:Int))=true:=decide_eq_true c30
         clear c30
         replace H:=Option.bind_eq_some_iff.mp H
         obtain ⟨⟨t15,t18⟩,A310,H⟩:=H
         try dsimp only at H
         have A31:=Aside0.mk A310
         clear A310
         by_cases c32:t18=0
         ·rw [if_pos c32] at H
          have c32b0:(t18==0)=true:=beq_iff_eq.mpr c32
          clear c32
          have H':=Aside0.mk H
          clear H
          have p3:0≤((ji19):Int):=of_decide_eq_true zq_
          have q3:(ji19)<(l0.length:Int):=of_decide_eq_true zq_
          obtain ⟨ad3,e3,hx3_0⟩:=Kd.at_int HR0.out (ji19) p3 q3
          obtain rfl:ad1=ad3:=(by injection e3)
          replace hx3_0:=zx_ HB hx3_0
          replace p3:=eq_true p3
          replace q3:=eq_true q3
          obtain ⟨Ao33,co33,eo33⟩:=Kd.R_slice HO_3.out
          subst eo33
          go_wp2_with (first|((with_reducible refine gate_dst (N:=60) rfl ?_);(try (refine gate_guard (by rfl) ?_;dsimp only));refine Kd.R_lit (Kd.int .u8) _ 5 ?hg (N:=60) ?hd (xs:=([(wrap64 (97+(Int.tmod (wrap64 ((x3_1.length:Int)*5)) 24))) % 256]:List Int)) (inner:=[.int .u8 ((wrap64 (97+(Int.tmod (wrap64 ((x3_1.length:Int)*5)) 24))) % 256)]) (ok:=fun _=>True) (okp:=fun _=>True) ?hr ?hp (fun _ hk=>hk) trivial (Below.refl _ _) (Nat.le_refl _) (by simp) ?_;(case hd=>rfl);(case hg=>rfl);(case hr=>first|(go_simp;done)|(go_simp;rfl));(case hp=>exact (Reps.one (show Kd.M (Kd.int .u8) _ _ _ ((wrap64 (97+(Int.tmod (wrap64 ((x3_1.length:Int)*5)) 24))) % 256) [.int .u8 ((wrap64 (97+(Int.tmod (wrap64 ((x3_1.length:Int)*5)) 24))) % 256)] from rfl) (Reps.none _ _)));intro v5 w34 ho35 hb hg_ hnew_;clear hg_ hnew_;(first|rw [←Ny4.out] at ho35|(simp only [Int.reduceToNat] at ho35;rw [←Ny4.out] at ho35));replace HO_3:=am_ (Kd.R_below (zr_ HO_3) hb);have HO6:=am_ (Kd.R_lower ho35 (below_size (zl0_ HB)));replace HB:=am_ (below_step (zl0_ HB) hb);clear hb ho35;have hcv36:=own_string (P:=Try.prog) Try.underlying22 Try.underlying5 Try.underlying9 (Kd.own_of_R HO6.out))|((with_reducible refine gate_callee (f:=83) rfl ?_);refine goesL_ (some 67) rfl rfl Try.func83 (by kernel_rfl) rfl #[.slice Ao33 x3_1.length co33, .string (strOfNums y4), .string x6_11, .agg #[.int .i64 (wrap64 (20+(wrap64 (rd l0 (ji19))))), .int .i64 (wrap64 (20+(wrap64 (rd l0 (ji19))))), .int .i64 (wrap64 (20+(wrap64 (rd l0 (ji19)))))]] rfl (by (try simp only [List.map_toArray,List.map_cons,List.map_nil]);first|done|(simp only [hji19];rfl)|rfl|(simp only [List.length_drop,List.length_take];rfl)) ?_;(with_reducible refine (r10_Create.calls kj11 _ _ x3_1 (strOfNums y4) x6_11 (wrap64 (20+(wrap64 (rd l0 (ji19))))) (wrap64 (20+(wrap64 (rd l0 (ji19))))) (wrap64 (20+(wrap64 (rd l0 (ji19))))) t7 t10 _ ?side1 ?side2 A22.out).mono ?_);(case side1=>exact zc_ (Kd.R_reads' HO_3.out).2.2);(case side2=>exact (Kd.R_reads' HO_3.out).2.1);rintro e w37 ⟨v8,rfl,ho0,hb⟩;refine ⟨_,rfl, ?_⟩;replace HO6:=am_ (Kd.R_below (zr_ HO6) hb);have HO9:=am_ (Kd.R_lower (Kd.R_new' ho0 (Kd.R_lt (zr_ HO_3))) (below_size (zl0_ HB)));replace HO_3:=am_ (Kd.R_elder' (zr_ HO_3) (Kd.R_base ho0) hb);replace HB:=am_ (below_step (zl0_ HB) hb);(try clear hb);(try clear hb2);(try clear hk);(try clear hi);(try clear ho0))|((with_reducible refine gate_dst (N:=8) rfl ?_);(try (refine gate_guard (by rfl) ?_;dsimp only));refine bx_ (N:=8) (cs:=#[.slice none 0 0, .int .i64 0]) (t:=67) ?_;intro gb11 hg w38 hbox hb;replace HO_3:=am_ (Kd.R_below (zr_ HO_3) hb);replace HO6:=am_ (Kd.R_below (zr_ HO6) hb);replace HO9:=am_ (Kd.R_below (zr_ HO9) hb);have BK11:=am_ (hbox);have GW11:=am_ ((zg0_ HB hg:w.heap.size≤gb11));have GE11:=am_ ((zg0_ HB hg:w.heap.size≤gb11));replace HB:=am_ (below_step (zl0_ HB) hb);clear hb hbox hg;obtain ⟨Ao39,co39,eo39⟩:=Kd.R_slice HO9.out;subst eo39;obtain ⟨hcz40_0,hcz40_1,hfz40_0,hfz40_1⟩:=y2_ BK11;have p12:0≤((ji24):Int):=of_decide_eq_true zq_;have q12:(ji24)<(l0.length:Int):=of_decide_eq_true zq_;obtain ⟨ad12,e12,hx12_0⟩:=Kd.at_int HR0.out (ji24) p12 q12;obtain rfl:ad1=ad12:=(by injection e12);have hn12_0:ad1.block≠gb11:=Nat.ne_of_lt (Nat.lt_of_lt_of_le (by have:=World.block_lt_of_cell? _ _ hx12_0;first|rwa [add_block] at this|exact this) GW11.out);have hn12_1:ad1.block≠gb11:=Nat.ne_of_lt (Nat.lt_of_lt_of_le (by have:=World.block_lt_of_cell? _ _ hx12_0;first|rwa [add_block] at this|exact this) GW11.out);replace hx12_0:=zx_ HB hx12_0;replace hx12_0:=(cell_far (p:=⟨gb11,0,none⟩) (by first|(rw [add_block];exact hn12_0)|(show (Addr.add _ _).block≠_;rw [add_block];exact hn12_0)|exact hn12_0) (.slice Ao39 t7.length co39)).trans hx12_0;replace hx12_0:=(cell_far (p:=⟨gb11,1,none⟩) (by first|(rw [add_block];exact hn12_1)|(show (Addr.add _ _).block≠_;rw [add_block];exact hn12_1)|exact hn12_1) (.int .i64 t10)).trans hx12_0;clear hn12_0;clear hn12_1;replace p12:=eq_true p12;replace q12:=eq_true q12;have p13:0≤((ji24):Int):=of_decide_eq_true zq_;have q13:(ji24)<(l0.length:Int):=of_decide_eq_true zq_;obtain ⟨ad13,e13,hx13_0⟩:=Kd.at_int HR0.out (ji24) p13 q13;obtain rfl:ad1=ad13:=(by injection e13);have hn13_0:ad1.block≠gb11:=Nat.ne_of_lt (Nat.lt_of_lt_of_le (by have:=World.block_lt_of_cell? _ _ hx13_0;first|rwa [add_block] at this|exact this) GW11.out);have hn13_1:ad1.block≠gb11:=Nat.ne_of_lt (Nat.lt_of_lt_of_le (by have:=World.block_lt_of_cell? _ _ hx13_0;first|rwa [add_block] at this|exact this) GW11.out);replace hx13_0:=zx_ HB hx13_0;replace hx13_0:=(cell_far (p:=⟨gb11,0,none⟩) (by first|(rw [add_block];exact hn13_0)|(show (Addr.add _ _).block≠_;rw [add_block];exact hn13_0)|exact hn13_0) (.slice Ao39 t7.length co39)).trans hx13_0;replace hx13_0:=(cell_far (p:=⟨gb11,1,none⟩) (by first|(rw [add_block];exact hn13_1)|(show (Addr.add _ _).block≠_;rw [add_block];exact hn13_1)|exact hn13_1) (.int .i64 t10)).trans hx13_0;clear hn13_0;clear hn13_1;replace p13:=eq_true p13;replace q13:=eq_true q13;have p14:0≤((ji28):Int):=of_decide_eq_true zq_;have q14:(ji28)<(t7.length:Int):=of_decide_eq_true zq_;obtain ⟨ad14,e14,hx14_0,hx14_1,hx14_2,hx14_3,hx14_4,hx14_5,hx14_6,hx14_7,hx14_8,hx14_9,hx14_10,hx14_11⟩:=at_T31 (Kd.R_reads' HO9.out).2.2 (ji28) p14 q14;cases e14;have hn14_0:ad14.block≠gb11:=Kd.own_blk (Kd.R_ne HO9.out BK11.out (by decide));have hn14_1:ad14.block≠gb11:=Kd.own_blk (Kd.R_ne HO9.out BK11.out (by decide));replace hx14_0:=(cell_far (p:=⟨gb11,0,none⟩) (by first|(rw [add_block];exact hn14_0)|(show (Addr.add _ _).block≠_;rw [add_block];exact hn14_0)|exact hn14_0) (.slice (some ad14) t7.length co39)).trans hx14_0;replace hx14_1:=(cell_far (p:=⟨gb11,0,none⟩) (by first|(rw [add_block];exact hn14_0)|(show (Addr.add _ _).block≠_;rw [add_block];exact hn14_0)|exact hn14_0) (.slice (some ad14) t7.length co39)).trans hx14_1;replace hx14_2:=(cell_far (p:=⟨gb11,0,none⟩) (by first|(rw [add_block];exact hn14_0)|(show (Addr.add _ _).block≠_;rw [add_block];exact hn14_0)|exact hn14_0) (.slice (some ad14) t7.length co39)).trans hx14_2;replace hx14_3:=(cell_far (p:=⟨gb11,0,none⟩) (by first|(rw [add_block];exact hn14_0)|(show (Addr.add _ _).block≠_;rw [add_block];exact hn14_0)|exact hn14_0) (.slice (some ad14) t7.length co39)).trans hx14_3;replace hx14_4:=(cell_far (p:=⟨gb11,0,none⟩) (by first|(rw [add_block];exact hn14_0)|(show (Addr.add _ _).block≠_;rw [add_block];exact hn14_0)|exact hn14_0) (.slice (some ad14) t7.length co39)).trans hx14_4;replace hx14_5:=(cell_far (p:=⟨gb11,0,none⟩) (by first|(rw [add_block];exact hn14_0)|(show (Addr.add _ _).block≠_;rw [add_block];exact hn14_0)|exact hn14_0) (.slice (some ad14) t7.length co39)).trans hx14_5;replace hx14_6:=(cell_far (p:=⟨gb11,0,none⟩) (by first|(rw [add_block];exact hn14_0)|(show (Addr.add _ _).block≠_;rw [add_block];exact hn14_0)|exact hn14_0) (.slice (some ad14) t7.length co39)).trans hx14_6;replace hx14_7:=(cell_far (p:=⟨gb11,0,none⟩) (by first|(rw [add_block];exact hn14_0)|(show (Addr.add _ _).block≠_;rw [add_block];exact hn14_0)|exact hn14_0) (.slice (some ad14) t7.length co39)).trans hx14_7;replace hx14_8:=(cell_far (p:=⟨gb11,0,none⟩) (by first|(rw [add_block];exact hn14_0)|(show (Addr.add _ _).block≠_;rw [add_block];exact hn14_0)|exact hn14_0) (.slice (some ad14) t7.length co39)).trans hx14_8;replace hx14_9:=(cell_far (p:=⟨gb11,0,none⟩) (by first|(rw [add_block];exact hn14_0)|(show (Addr.add _ _).block≠_;rw [add_block];exact hn14_0)|exact hn14_0) (.slice (some ad14) t7.length co39)).trans hx14_9;replace hx14_10:=(cell_far (p:=⟨gb11,0,none⟩) (by first|(rw [add_block];exact hn14_0)|(show (Addr.add _ _).block≠_;rw [add_block];exact hn14_0)|exact hn14_0) (.slice (some ad14) t7.length co39)).trans hx14_10;replace hx14_11:=(cell_far (p:=⟨gb11,0,none⟩) (by first|(rw [add_block];exact hn14_0)|(show (Addr.add _ _).block≠_;rw [add_block];exact hn14_0)|exact hn14_0) (.slice (some ad14) t7.length co39)).trans hx14_11;replace hx14_0:=(cell_far (p:=⟨gb11,1,none⟩) (by first|(rw [add_block];exact hn14_1)|(show (Addr.add _ _).block≠_;rw [add_block];exact hn14_1)|exact hn14_1) (.int .i64 t10)).trans hx14_0;replace hx14_1:=(cell_far (p:=⟨gb11,1,none⟩) (by first|(rw [add_block];exact hn14_1)|(show (Addr.add _ _).block≠_;rw [add_block];exact hn14_1)|exact hn14_1) (.int .i64 t10)).trans hx14_1;replace hx14_2:=(cell_far (p:=⟨gb11,1,none⟩) (by first|(rw [add_block];exact hn14_1)|(show (Addr.add _ _).block≠_;rw [add_block];exact hn14_1)|exact hn14_1) (.int .i64 t10)).trans hx14_2;replace hx14_3:=(cell_far (p:=⟨gb11,1,none⟩) (by first|(rw [add_block];exact hn14_1)|(show (Addr.add _ _).block≠_;rw [add_block];exact hn14_1)|exact hn14_1) (.int .i64 t10)).trans hx14_3;replace hx14_4:=(cell_far (p:=⟨gb11,1,none⟩) (by first|(rw [add_block];exact hn14_1)|(show (Addr.add _ _).block≠_;rw [add_block];exact hn14_1)|exact hn14_1) (.int .i64 t10)).trans hx14_4;replace hx14_5:=(cell_far (p:=⟨gb11,1,none⟩) (by first|(rw [add_block];exact hn14_1)|(show (Addr.add _ _).block≠_;rw [add_block];exact hn14_1)|exact hn14_1) (.int .i64 t10)).trans hx14_5;replace hx14_6:=(cell_far (p:=⟨gb11,1,none⟩) (by first|(rw [add_block];exact hn14_1)|(show (Addr.add _ _).block≠_;rw [add_block];exact hn14_1)|exact hn14_1) (.int .i64 t10)).trans hx14_6;replace hx14_7:=(cell_far (p:=⟨gb11,1,none⟩) (by first|(rw [add_block];exact hn14_1)|(show (Addr.add _ _).block≠_;rw [add_block];exact hn14_1)|exact hn14_1) (.int .i64 t10)).trans hx14_7;replace hx14_8:=(cell_far (p:=⟨gb11,1,none⟩) (by first|(rw [add_block];exact hn14_1)|(show (Addr.add _ _).block≠_;rw [add_block];exact hn14_1)|exact hn14_1) (.int .i64 t10)).trans hx14_8;replace hx14_9:=(cell_far (p:=⟨gb11,1,none⟩) (by first|(rw [add_block];exact hn14_1)|(show (Addr.add _ _).block≠_;rw [add_block];exact hn14_1)|exact hn14_1) (.int .i64 t10)).trans hx14_9;replace hx14_10:=(cell_far (p:=⟨gb11,1,none⟩) (by first|(rw [add_block];exact hn14_1)|(show (Addr.add _ _).block≠_;rw [add_block];exact hn14_1)|exact hn14_1) (.int .i64 t10)).trans hx14_10;replace hx14_11:=(cell_far (p:=⟨gb11,1,none⟩) (by first|(rw [add_block];exact hn14_1)|(show (Addr.add _ _).block≠_;rw [add_block];exact hn14_1)|exact hn14_1) (.int .i64 t10)).trans hx14_11;clear hn14_0;clear hn14_1;replace p14:=eq_true p14;replace q14:=eq_true q14)|((with_reducible refine gate_callee (f:=66) rfl ?_);refine goesL_ (some 102) rfl rfl Try.func66 (by kernel_rfl) rfl #[.slice (some ad14) t7.length co39, .string ((rd_T31 t7 (ji28)).f0), .agg #[.int .i64 (Int.tmod (wrap64 (rd l0 (ji24))) 16), .int .i64 (wrap64 (Int.tdiv (Int.tmod (wrap64 (rd l0 (ji24))) 16) 2)), .int .i64 (Int.tmod (Int.tmod (wrap64 (rd l0 (ji24))) 16) 3)]] rfl (by (try simp only [List.map_toArray,List.map_cons,List.map_nil]);first|done|(simp only [hji24,hji28];rfl)|rfl|(simp only [List.length_drop,List.length_take];rfl)) ?_;(with_reducible refine (r10_Admit.calls kj11 _ _ t7 ((rd_T31 t7 (ji28)).f0) (Int.tmod (wrap64 (rd l0 (ji24))) 16) (wrap64 (Int.tdiv (Int.tmod (wrap64 (rd l0 (ji24))) 16) 2)) (Int.tmod (Int.tmod (wrap64 (rd l0 (ji24))) 16) 3) t15 t18 _ ?side1 ?side2 A31.out).mono ?_);(case side1=>refine (Kd.R_reads' (e:=31) (base:=w.heap.size) (ok:=fun k_=>(True∧some k_≠(.slice Ao33 x3_1.length co33:Value).ownBlock)) (n:=t7.length) (c:=co39) ?_).2.2;exact (by refine zt_ ?_;exact (Kd.R_mono (Kd.R_far (p:=⟨gb11,1,none⟩) (Kd.R_far (p:=⟨gb11,0,none⟩) (Kd.R_types HO9.out BK11.out (by decide)) (fun _ hk=>hk.2) (.slice (some ad14) t7.length co39)) (fun _ hk=>hk.2) (.int .i64 t10)) (fun _ h_=>h_.1))));(case side2=>exact (Kd.R_reads' HO9.out).2.1);rintro e w41 ⟨v16,rfl,ho0,hb⟩;refine ⟨_,rfl, ?_⟩;replace HO6:=am_ (Kd.R_below (by refine zt_ ?_;exact (Kd.R_mono (Kd.R_far (p:=⟨gb11,1,none⟩) (Kd.R_far (p:=⟨gb11,0,none⟩) (Kd.R_types HO6.out BK11.out (by decide)) (fun _ hk=>hk.2) (.slice (some ad14) t7.length co39)) (fun _ hk=>hk.2) (.int .i64 t10)) (fun _ h_=>h_.1))) hb);have HO17:=am_ (Kd.R_lower (Kd.R_new' (Kd.R_new' ho0 (Kd.R_lt (by refine zt_ ?_;exact (Kd.R_mono (Kd.R_far (p:=⟨gb11,1,none⟩) (Kd.R_far (p:=⟨gb11,0,none⟩) (Kd.R_types HO_3.out BK11.out (by decide)) (fun _ hk=>hk.2) (.slice (some ad14) t7.length co39)) (fun _ hk=>hk.2) (.int .i64 t10)) (fun _ h_=>h_.1))))) (Kd.R_lt (by refine zt_ ?_;exact (Kd.R_mono (Kd.R_far (p:=⟨gb11,1,none⟩) (Kd.R_far (p:=⟨gb11,0,none⟩) (Kd.R_types HO9.out BK11.out (by decide)) (fun _ hk=>hk.2) (.slice (some ad14) t7.length co39)) (fun _ hk=>hk.2) (.int .i64 t10)) (fun _ h_=>h_.1))))) (below_size (zl1_ HB GE11)));replace HO_3:=am_ (Kd.R_elder' (by refine zt_ ?_;exact (Kd.R_mono (Kd.R_far (p:=⟨gb11,1,none⟩) (Kd.R_far (p:=⟨gb11,0,none⟩) (Kd.R_types HO_3.out BK11.out (by decide)) (fun _ hk=>hk.2) (.slice (some ad14) t7.length co39)) (fun _ hk=>hk.2) (.int .i64 t10)) (fun _ h_=>h_.1))) (Kd.R_base ho0) hb);replace HO9:=am_ (Kd.R_elder' (by refine zt_ ?_;exact (Kd.R_mono (Kd.R_far (p:=⟨gb11,1,none⟩) (Kd.R_far (p:=⟨gb11,0,none⟩) (Kd.R_types HO9.out BK11.out (by decide)) (fun _ hk=>hk.2) (.slice (some ad14) t7.length co39)) (fun _ hk=>hk.2) (.int .i64 t10)) (fun _ h_=>h_.1))) (Kd.R_base ho0) hb);replace BK11:=am_ (blk_below (g:=gb11) (o:= .cells #[.slice (some ad14) t7.length co39, .int .i64 t10] 67 (0,0)) (zw_ BK11) hb);replace HB:=am_ (below_step (zl1_ HB GE11) hb);(try clear hb);(try clear hb2);(try clear hk);(try clear hi);(try clear ho0))|((with_reducible refine gate_dst (N:=11) rfl ?_);(try (refine gate_guard (by rfl) ?_;dsimp only));refine bx_ (N:=11) (cs:=#[.slice none 0 0, .int .i64 0]) (t:=67) ?_;intro gb19 hg w42 hbox hb;have n0_:=am_ (Kd.R_below (zr_ HO_3) hb);have n1_:=am_ (Kd.R_below (zr_ HO6) hb);have n2_:=am_ (Kd.R_below (zr_ HO9) hb);have n3_:=am_ (Kd.R_below (zr_ HO17) hb);have n4_:=am_ (blk_below (zb_ BK11) hb);have n5_:=am_ (below_step (zl1_ HB GE11) hb);have n6_:=am_ (hbox);have n8_:=am_ ((zg1_ HB GE11 hg:w.heap.size≤gb19));have n9_:=am_ ((zn_ BK11 hg:gb11≠gb19));have n10_:=am_ ((zm_ BK11 hg:gb19≠gb11));clear HO_3;clear HO6;clear HO9;clear HO17;clear BK11;clear HB;have HO_3:=n0_;have HO6:=n1_;have HO9:=n2_;have HO17:=n3_;have BK11:=n4_;have HB:=n5_;have BK19:=n6_;have GE19:=n8_;clear n0_ n1_ n2_ n3_ n4_ n5_ n6_ n8_ n9_ n10_;clear hb hbox hg;obtain ⟨Ao43,co43,eo43⟩:=Kd.R_slice HO17.out;subst eo43;obtain ⟨hcz45_0,hcz45_1⟩:=x2_ BK19;have hfz45_0:=blk_frozen BK19.out 0;have hfz45_1:=blk_frozen BK19.out 1))
          go_roundg kj11
          case measure=>have:=HK1.out;have:=HJ1.out;have:=HJ7.out;have:=HJ11.out;omega
          case rel=>exact ⟨(t15),(wrap64 (x4_1+3)),(by first|rfl|(simp;done)|(simp [*];done)),H',⟨by have:=HK1.out;have:=HJ1.out;have:=HJ7.out;have:=HJ11.out;omega⟩,⟨zy_ HO17 BK19⟩,⟨zl2_ HB GE11 GE19⟩⟩
         rw [if_neg c32] at H
         have c32b0:(t18==0)=false:=beq_eq_false_iff_ne.mpr c32
         have H':=Aside0.mk H
         clear H
         have p3:0≤((ji19):Int):=of_decide_eq_true zq_
         have q3:(ji19)<(l0.length:Int):=of_decide_eq_true zq_
         obtain ⟨ad3,e3,hx3_0⟩:=Kd.at_int HR0.out (ji19) p3 q3
         obtain rfl:ad1=ad3:=(by injection e3)
         replace hx3_0:=zx_ HB hx3_0
         replace p3:=eq_true p3
         replace q3:=eq_true q3
         obtain ⟨Ao46,co46,eo46⟩:=Kd.R_slice HO_3.out
         subst eo46
         go_wp2_with (first|((with_reducible refine gate_dst (N:=60) rfl ?_);(try (refine gate_guard (by rfl) ?_;dsimp only));refine Kd.R_lit (Kd.int .u8) _ 5 ?hg (N:=60) ?hd (xs:=([(wrap64 (97+(Int.tmod (wrap64 ((x3_1.length:Int)*5)) 24))) % 256]:List Int)) (inner:=[.int .u8 ((wrap64 (97+(Int.tmod (wrap64 ((x3_1.length:Int)*5)) 24))) % 256)]) (ok:=fun _=>True) (okp:=fun _=>True) ?hr ?hp (fun _ hk=>hk) trivial (Below.refl _ _) (Nat.le_refl _) (by simp) ?_;(case hd=>rfl);(case hg=>rfl);(case hr=>first|(go_simp;done)|(go_simp;rfl));(case hp=>exact (Reps.one (show Kd.M (Kd.int .u8) _ _ _ ((wrap64 (97+(Int.tmod (wrap64 ((x3_1.length:Int)*5)) 24))) % 256) [.int .u8 ((wrap64 (97+(Int.tmod (wrap64 ((x3_1.length:Int)*5)) 24))) % 256)] from rfl) (Reps.none _ _)));intro v5 w47 ho48 hb hg_ hnew_;clear hg_ hnew_;(first|rw [←Ny4.out] at ho48|(simp only [Int.reduceToNat] at ho48;rw [←Ny4.out] at ho48));replace HO_3:=am_ (Kd.R_below (zr_ HO_3) hb);have HO6:=am_ (Kd.R_lower ho48 (below_size (zl0_ HB)));replace HB:=am_ (below_step (zl0_ HB) hb);clear hb ho48;have hcv49:=own_string (P:=Try.prog) Try.underlying22 Try.underlying5 Try.underlying9 (Kd.own_of_R HO6.out))|((with_reducible refine gate_callee (f:=83) rfl ?_);refine goesL_ (some 67) rfl rfl Try.func83 (by kernel_rfl) rfl #[.slice Ao46 x3_1.length co46, .string (strOfNums y4), .string x6_11, .agg #[.int .i64 (wrap64 (20+(wrap64 (rd l0 (ji19))))), .int .i64 (wrap64 (20+(wrap64 (rd l0 (ji19))))), .int .i64 (wrap64 (20+(wrap64 (rd l0 (ji19)))))]] rfl (by (try simp only [List.map_toArray,List.map_cons,List.map_nil]);first|done|(simp only [hji19];rfl)|rfl|(simp only [List.length_drop,List.length_take];rfl)) ?_;(with_reducible refine (r10_Create.calls kj11 _ _ x3_1 (strOfNums y4) x6_11 (wrap64 (20+(wrap64 (rd l0 (ji19))))) (wrap64 (20+(wrap64 (rd l0 (ji19))))) (wrap64 (20+(wrap64 (rd l0 (ji19))))) t7 t10 _ ?side1 ?side2 A22.out).mono ?_);(case side1=>exact zc_ (Kd.R_reads' HO_3.out).2.2);(case side2=>exact (Kd.R_reads' HO_3.out).2.1);rintro e w50 ⟨v8,rfl,ho0,hb⟩;refine ⟨_,rfl, ?_⟩;replace HO6:=am_ (Kd.R_below (zr_ HO6) hb);have HO9:=am_ (Kd.R_lower (Kd.R_new' ho0 (Kd.R_lt (zr_ HO_3))) (below_size (zl0_ HB)));replace HO_3:=am_ (Kd.R_elder' (zr_ HO_3) (Kd.R_base ho0) hb);replace HB:=am_ (below_step (zl0_ HB) hb);(try clear hb);(try clear hb2);(try clear hk);(try clear hi);(try clear ho0))|((with_reducible refine gate_dst (N:=8) rfl ?_);(try (refine gate_guard (by rfl) ?_;dsimp only));refine bx_ (N:=8) (cs:=#[.slice none 0 0, .int .i64 0]) (t:=67) ?_;intro gb11 hg w51 hbox hb;replace HO_3:=am_ (Kd.R_below (zr_ HO_3) hb);replace HO6:=am_ (Kd.R_below (zr_ HO6) hb);replace HO9:=am_ (Kd.R_below (zr_ HO9) hb);have BK11:=am_ (hbox);have GW11:=am_ ((zg0_ HB hg:w.heap.size≤gb11));have GE11:=am_ ((zg0_ HB hg:w.heap.size≤gb11));replace HB:=am_ (below_step (zl0_ HB) hb);clear hb hbox hg;obtain ⟨Ao52,co52,eo52⟩:=Kd.R_slice HO9.out;subst eo52;obtain ⟨hcz53_0,hcz53_1,hfz53_0,hfz53_1⟩:=y2_ BK11;have p12:0≤((ji24):Int):=of_decide_eq_true zq_;have q12:(ji24)<(l0.length:Int):=of_decide_eq_true zq_;obtain ⟨ad12,e12,hx12_0⟩:=Kd.at_int HR0.out (ji24) p12 q12;obtain rfl:ad1=ad12:=(by injection e12);have hn12_0:ad1.block≠gb11:=Nat.ne_of_lt (Nat.lt_of_lt_of_le (by have:=World.block_lt_of_cell? _ _ hx12_0;first|rwa [add_block] at this|exact this) GW11.out);have hn12_1:ad1.block≠gb11:=Nat.ne_of_lt (Nat.lt_of_lt_of_le (by have:=World.block_lt_of_cell? _ _ hx12_0;first|rwa [add_block] at this|exact this) GW11.out);replace hx12_0:=zx_ HB hx12_0;replace hx12_0:=(cell_far (p:=⟨gb11,0,none⟩) (by first|(rw [add_block];exact hn12_0)|(show (Addr.add _ _).block≠_;rw [add_block];exact hn12_0)|exact hn12_0) (.slice Ao52 t7.length co52)).trans hx12_0;replace hx12_0:=(cell_far (p:=⟨gb11,1,none⟩) (by first|(rw [add_block];exact hn12_1)|(show (Addr.add _ _).block≠_;rw [add_block];exact hn12_1)|exact hn12_1) (.int .i64 t10)).trans hx12_0;clear hn12_0;clear hn12_1;replace p12:=eq_true p12;replace q12:=eq_true q12;have p13:0≤((ji24):Int):=of_decide_eq_true zq_;have q13:(ji24)<(l0.length:Int):=of_decide_eq_true zq_;obtain ⟨ad13,e13,hx13_0⟩:=Kd.at_int HR0.out (ji24) p13 q13;obtain rfl:ad1=ad13:=(by injection e13);have hn13_0:ad1.block≠gb11:=Nat.ne_of_lt (Nat.lt_of_lt_of_le (by have:=World.block_lt_of_cell? _ _ hx13_0;first|rwa [add_block] at this|exact this) GW11.out);have hn13_1:ad1.block≠gb11:=Nat.ne_of_lt (Nat.lt_of_lt_of_le (by have:=World.block_lt_of_cell? _ _ hx13_0;first|rwa [add_block] at this|exact this) GW11.out);replace hx13_0:=zx_ HB hx13_0;replace hx13_0:=(cell_far (p:=⟨gb11,0,none⟩) (by first|(rw [add_block];exact hn13_0)|(show (Addr.add _ _).block≠_;rw [add_block];exact hn13_0)|exact hn13_0) (.slice Ao52 t7.length co52)).trans hx13_0;replace hx13_0:=(cell_far (p:=⟨gb11,1,none⟩) (by first|(rw [add_block];exact hn13_1)|(show (Addr.add _ _).block≠_;rw [add_block];exact hn13_1)|exact hn13_1) (.int .i64 t10)).trans hx13_0;clear hn13_0;clear hn13_1;replace p13:=eq_true p13;replace q13:=eq_true q13;have p14:0≤((ji28):Int):=of_decide_eq_true zq_;have q14:(ji28)<(t7.length:Int):=of_decide_eq_true zq_;obtain ⟨ad14,e14,hx14_0,hx14_1,hx14_2,hx14_3,hx14_4,hx14_5,hx14_6,hx14_7,hx14_8,hx14_9,hx14_10,hx14_11⟩:=at_T31 (Kd.R_reads' HO9.out).2.2 (ji28) p14 q14;cases e14;have hn14_0:ad14.block≠gb11:=Kd.own_blk (Kd.R_ne HO9.out BK11.out (by decide));have hn14_1:ad14.block≠gb11:=Kd.own_blk (Kd.R_ne HO9.out BK11.out (by decide));replace hx14_0:=(cell_far (p:=⟨gb11,0,none⟩) (by first|(rw [add_block];exact hn14_0)|(show (Addr.add _ _).block≠_;rw [add_block];exact hn14_0)|exact hn14_0) (.slice (some ad14) t7.length co52)).trans hx14_0;replace hx14_1:=(cell_far (p:=⟨gb11,0,none⟩) (by first|(rw [add_block];exact hn14_0)|(show (Addr.add _ _).block≠_;rw [add_block];exact hn14_0)|exact hn14_0) (.slice (some ad14) t7.length co52)).trans hx14_1;replace hx14_2:=(cell_far (p:=⟨gb11,0,none⟩) (by first|(rw [add_block];exact hn14_0)|(show (Addr.add _ _).block≠_;rw [add_block];exact hn14_0)|exact hn14_0) (.slice (some ad14) t7.length co52)).trans hx14_2;replace hx14_3:=(cell_far (p:=⟨gb11,0,none⟩) (by first|(rw [add_block];exact hn14_0)|(show (Addr.add _ _).block≠_;rw [add_block];exact hn14_0)|exact hn14_0) (.slice (some ad14) t7.length co52)).trans hx14_3;replace hx14_4:=(cell_far (p:=⟨gb11,0,none⟩) (by first|(rw [add_block];exact hn14_0)|(show (Addr.add _ _).block≠_;rw [add_block];exact hn14_0)|exact hn14_0) (.slice (some ad14) t7.length co52)).trans hx14_4;replace hx14_5:=(cell_far (p:=⟨gb11,0,none⟩) (by first|(rw [add_block];exact hn14_0)|(show (Addr.add _ _).block≠_;rw [add_block];exact hn14_0)|exact hn14_0) (.slice (some ad14) t7.length co52)).trans hx14_5;replace hx14_6:=(cell_far (p:=⟨gb11,0,none⟩) (by first|(rw [add_block];exact hn14_0)|(show (Addr.add _ _).block≠_;rw [add_block];exact hn14_0)|exact hn14_0) (.slice (some ad14) t7.length co52)).trans hx14_6;replace hx14_7:=(cell_far (p:=⟨gb11,0,none⟩) (by first|(rw [add_block];exact hn14_0)|(show (Addr.add _ _).block≠_;rw [add_block];exact hn14_0)|exact hn14_0) (.slice (some ad14) t7.length co52)).trans hx14_7;replace hx14_8:=(cell_far (p:=⟨gb11,0,none⟩) (by first|(rw [add_block];exact hn14_0)|(show (Addr.add _ _).block≠_;rw [add_block];exact hn14_0)|exact hn14_0) (.slice (some ad14) t7.length co52)).trans hx14_8;replace hx14_9:=(cell_far (p:=⟨gb11,0,none⟩) (by first|(rw [add_block];exact hn14_0)|(show (Addr.add _ _).block≠_;rw [add_block];exact hn14_0)|exact hn14_0) (.slice (some ad14) t7.length co52)).trans hx14_9;replace hx14_10:=(cell_far (p:=⟨gb11,0,none⟩) (by first|(rw [add_block];exact hn14_0)|(show (Addr.add _ _).block≠_;rw [add_block];exact hn14_0)|exact hn14_0) (.slice (some ad14) t7.length co52)).trans hx14_10;replace hx14_11:=(cell_far (p:=⟨gb11,0,none⟩) (by first|(rw [add_block];exact hn14_0)|(show (Addr.add _ _).block≠_;rw [add_block];exact hn14_0)|exact hn14_0) (.slice (some ad14) t7.length co52)).trans hx14_11;replace hx14_0:=(cell_far (p:=⟨gb11,1,none⟩) (by first|(rw [add_block];exact hn14_1)|(show (Addr.add _ _).block≠_;rw [add_block];exact hn14_1)|exact hn14_1) (.int .i64 t10)).trans hx14_0;replace hx14_1:=(cell_far (p:=⟨gb11,1,none⟩) (by first|(rw [add_block];exact hn14_1)|(show (Addr.add _ _).block≠_;rw [add_block];exact hn14_1)|exact hn14_1) (.int .i64 t10)).trans hx14_1;replace hx14_2:=(cell_far (p:=⟨gb11,1,none⟩) (by first|(rw [add_block];exact hn14_1)|(show (Addr.add _ _).block≠_;rw [add_block];exact hn14_1)|exact hn14_1) (.int .i64 t10)).trans hx14_2;replace hx14_3:=(cell_far (p:=⟨gb11,1,none⟩) (by first|(rw [add_block];exact hn14_1)|(show (Addr.add _ _).block≠_;rw [add_block];exact hn14_1)|exact hn14_1) (.int .i64 t10)).trans hx14_3;replace hx14_4:=(cell_far (p:=⟨gb11,1,none⟩) (by first|(rw [add_block];exact hn14_1)|(show (Addr.add _ _).block≠_;rw [add_block];exact hn14_1)|exact hn14_1) (.int .i64 t10)).trans hx14_4;replace hx14_5:=(cell_far (p:=⟨gb11,1,none⟩) (by first|(rw [add_block];exact hn14_1)|(show (Addr.add _ _).block≠_;rw [add_block];exact hn14_1)|exact hn14_1) (.int .i64 t10)).trans hx14_5;replace hx14_6:=(cell_far (p:=⟨gb11,1,none⟩) (by first|(rw [add_block];exact hn14_1)|(show (Addr.add _ _).block≠_;rw [add_block];exact hn14_1)|exact hn14_1) (.int .i64 t10)).trans hx14_6;replace hx14_7:=(cell_far (p:=⟨gb11,1,none⟩) (by first|(rw [add_block];exact hn14_1)|(show (Addr.add _ _).block≠_;rw [add_block];exact hn14_1)|exact hn14_1) (.int .i64 t10)).trans hx14_7;replace hx14_8:=(cell_far (p:=⟨gb11,1,none⟩) (by first|(rw [add_block];exact hn14_1)|(show (Addr.add _ _).block≠_;rw [add_block];exact hn14_1)|exact hn14_1) (.int .i64 t10)).trans hx14_8;replace hx14_9:=(cell_far (p:=⟨gb11,1,none⟩) (by first|(rw [add_block];exact hn14_1)|(show (Addr.add _ _).block≠_;rw [add_block];exact hn14_1)|exact hn14_1) (.int .i64 t10)).trans hx14_9;replace hx14_10:=(cell_far (p:=⟨gb11,1,none⟩) (by first|(rw [add_block];exact hn14_1)|(show (Addr.add _ _).block≠_;rw [add_block];exact hn14_1)|exact hn14_1) (.int .i64 t10)).trans hx14_10;replace hx14_11:=(cell_far (p:=⟨gb11,1,none⟩) (by first|(rw [add_block];exact hn14_1)|(show (Addr.add _ _).block≠_;rw [add_block];exact hn14_1)|exact hn14_1) (.int .i64 t10)).trans hx14_11;clear hn14_0;clear hn14_1;replace p14:=eq_true p14;replace q14:=eq_true q14)|((with_reducible refine gate_callee (f:=66) rfl ?_);refine goesL_ (some 102) rfl rfl Try.func66 (by kernel_rfl) rfl #[.slice (some ad14) t7.length co52, .string ((rd_T31 t7 (ji28)).f0), .agg #[.int .i64 (Int.tmod (wrap64 (rd l0 (ji24))) 16), .int .i64 (wrap64 (Int.tdiv (Int.tmod (wrap64 (rd l0 (ji24))) 16) 2)), .int .i64 (Int.tmod (Int.tmod (wrap64 (rd l0 (ji24))) 16) 3)]] rfl (by (try simp only [List.map_toArray,List.map_cons,List.map_nil]);first|done|(simp only [hji24,hji28];rfl)|rfl|(simp only [List.length_drop,List.length_take];rfl)) ?_;(with_reducible refine (r10_Admit.calls kj11 _ _ t7 ((rd_T31 t7 (ji28)).f0) (Int.tmod (wrap64 (rd l0 (ji24))) 16) (wrap64 (Int.tdiv (Int.tmod (wrap64 (rd l0 (ji24))) 16) 2)) (Int.tmod (Int.tmod (wrap64 (rd l0 (ji24))) 16) 3) t15 t18 _ ?side1 ?side2 A31.out).mono ?_);(case side1=>refine (Kd.R_reads' (e:=31) (base:=w.heap.size) (ok:=fun k_=>(True∧some k_≠(.slice Ao46 x3_1.length co46:Value).ownBlock)) (n:=t7.length) (c:=co52) ?_).2.2;exact (by refine zt_ ?_;exact (Kd.R_mono (Kd.R_far (p:=⟨gb11,1,none⟩) (Kd.R_far (p:=⟨gb11,0,none⟩) (Kd.R_types HO9.out BK11.out (by decide)) (fun _ hk=>hk.2) (.slice (some ad14) t7.length co52)) (fun _ hk=>hk.2) (.int .i64 t10)) (fun _ h_=>h_.1))));(case side2=>exact (Kd.R_reads' HO9.out).2.1);rintro e w54 ⟨v16,rfl,ho0,hb⟩;refine ⟨_,rfl, ?_⟩;replace HO6:=am_ (Kd.R_below (by refine zt_ ?_;exact (Kd.R_mono (Kd.R_far (p:=⟨gb11,1,none⟩) (Kd.R_far (p:=⟨gb11,0,none⟩) (Kd.R_types HO6.out BK11.out (by decide)) (fun _ hk=>hk.2) (.slice (some ad14) t7.length co52)) (fun _ hk=>hk.2) (.int .i64 t10)) (fun _ h_=>h_.1))) hb);have HO17:=am_ (Kd.R_lower (Kd.R_new' (Kd.R_new' ho0 (Kd.R_lt (by refine zt_ ?_;exact (Kd.R_mono (Kd.R_far (p:=⟨gb11,1,none⟩) (Kd.R_far (p:=⟨gb11,0,none⟩) (Kd.R_types HO_3.out BK11.out (by decide)) (fun _ hk=>hk.2) (.slice (some ad14) t7.length co52)) (fun _ hk=>hk.2) (.int .i64 t10)) (fun _ h_=>h_.1))))) (Kd.R_lt (by refine zt_ ?_;exact (Kd.R_mono (Kd.R_far (p:=⟨gb11,1,none⟩) (Kd.R_far (p:=⟨gb11,0,none⟩) (Kd.R_types HO9.out BK11.out (by decide)) (fun _ hk=>hk.2) (.slice (some ad14) t7.length co52)) (fun _ hk=>hk.2) (.int .i64 t10)) (fun _ h_=>h_.1))))) (below_size (zl1_ HB GE11)));replace HO_3:=am_ (Kd.R_elder' (by refine zt_ ?_;exact (Kd.R_mono (Kd.R_far (p:=⟨gb11,1,none⟩) (Kd.R_far (p:=⟨gb11,0,none⟩) (Kd.R_types HO_3.out BK11.out (by decide)) (fun _ hk=>hk.2) (.slice (some ad14) t7.length co52)) (fun _ hk=>hk.2) (.int .i64 t10)) (fun _ h_=>h_.1))) (Kd.R_base ho0) hb);replace HO9:=am_ (Kd.R_elder' (by refine zt_ ?_;exact (Kd.R_mono (Kd.R_far (p:=⟨gb11,1,none⟩) (Kd.R_far (p:=⟨gb11,0,none⟩) (Kd.R_types HO9.out BK11.out (by decide)) (fun _ hk=>hk.2) (.slice (some ad14) t7.length co52)) (fun _ hk=>hk.2) (.int .i64 t10)) (fun _ h_=>h_.1))) (Kd.R_base ho0) hb);replace BK11:=am_ (blk_below (g:=gb11) (o:= .cells #[.slice (some ad14) t7.length co52, .int .i64 t10] 67 (0,0)) (zw_ BK11) hb);replace HB:=am_ (below_step (zl1_ HB GE11) hb);(try clear hb);(try clear hb2);(try clear hk);(try clear hi);(try clear ho0))|((with_reducible refine gate_dst (N:=11) rfl ?_);(try (refine gate_guard (by rfl) ?_;dsimp only));refine bx_ (N:=11) (cs:=#[.slice none 0 0, .int .i64 0]) (t:=67) ?_;intro gb19 hg w55 hbox hb;have n0_:=am_ (Kd.R_below (zr_ HO_3) hb);have n1_:=am_ (Kd.R_below (zr_ HO6) hb);have n2_:=am_ (Kd.R_below (zr_ HO9) hb);have n3_:=am_ (Kd.R_below (zr_ HO17) hb);have n4_:=am_ (blk_below (zb_ BK11) hb);have n5_:=am_ (below_step (zl1_ HB GE11) hb);have n6_:=am_ (hbox);have n8_:=am_ ((zg1_ HB GE11 hg:w.heap.size≤gb19));have n9_:=am_ ((zn_ BK11 hg:gb11≠gb19));have n10_:=am_ ((zm_ BK11 hg:gb19≠gb11));clear HO_3;clear HO6;clear HO9;clear HO17;clear BK11;clear HB;have HO_3:=n0_;have HO6:=n1_;have HO9:=n2_;have HO17:=n3_;have BK11:=n4_;have HB:=n5_;have BK19:=n6_;have GE19:=n8_;clear n0_ n1_ n2_ n3_ n4_ n5_ n6_ n8_ n9_ n10_;clear hb hbox hg;obtain ⟨Ao56,co56,eo56⟩:=Kd.R_slice HO17.out;subst eo56;obtain ⟨hcz58_0,hcz58_1⟩:=x2_ BK19;have hfz58_0:=blk_frozen BK19.out 0;have hfz58_1:=blk_frozen BK19.out 1))
         go_roundg kj11
         case measure=>have:=HK1.out;have:=HJ1.out;have:=HJ7.out;have:=HJ11.out;omega
         case rel=>exact ⟨(t7),(wrap64 (x4_1+3)),(by first|rfl|(simp;done)|(simp [*];done)),H',⟨by have:=HK1.out;have:=HJ1.out;have:=HJ7.out;have:=HJ11.out;omega⟩,⟨zy_ HO9 BK19⟩,⟨zl2_ HB GE11 GE19⟩⟩
def law15_Step.j0:Nat→Int→Int→Bool→Int→ByteArray→ByteArray→Int→Int→Int→Option (Int×ByteArray×ByteArray×Int×Int×Int)
 |0,_,_,_,_,_,_,_,_,_=>none
 |k+1,x0,x2,x26,x6000,x6001,x6002,x6003,x6004,x6005=>if x26=true then ((some (([(97+(Int.tmod x2 25)) % 256]:List Int):List Int)).bind fun y6=>(if (Int.tmod x2 5)=0 then (if x6000≤2 then (some (x6000,x6001,(⟨#[]⟩:ByteArray),wrap64 ((wrap64 (Int.tdiv (wrap64 (x0)) 4))*3),wrap64 ((wrap64 (Int.tdiv (wrap64 (x0)) 4))*3),wrap64 ((wrap64 (Int.tdiv (wrap64 (x0)) 4))*3))) else (some (x6000,x6001,(⟨#[]⟩:ByteArray),x6003,x6004,x6005))) else (if x6000≤2 then (some (x6000,x6001,strOfNums y6,wrap64 ((wrap64 (Int.tdiv (wrap64 (x0)) 4))*3),wrap64 ((wrap64 (Int.tdiv (wrap64 (x0)) 4))*3),wrap64 ((wrap64 (Int.tdiv (wrap64 (x0)) 4))*3))) else (some (x6000,x6001,strOfNums y6,x6003,x6004,x6005))))) else (if x6000≤2 then (some (x6000,x6001,x6002,wrap64 ((wrap64 (Int.tdiv (wrap64 (x0)) 4))*3),wrap64 ((wrap64 (Int.tdiv (wrap64 (x0)) 4))*3),wrap64 ((wrap64 (Int.tdiv (wrap64 (x0)) 4))*3))) else (some (x6000,x6001,x6002,x6003,x6004,x6005)))
def law15_Step.f (k:Nat) (a0:Int) (a1:Int) (a2:Int):Option (Int×ByteArray×ByteArray×Int×Int×Int):=(some (([(97+(Int.tmod a1 25)) % 256]:List Int):List Int)).bind fun y2=>(if (wrap64 (1+(Int.tmod (wrap64 (a0)) 4)))=1 then (law15_Step.j0 k a0 a2 true (wrap64 (1+(Int.tmod (wrap64 (a0)) 4))) (strOfNums y2) (⟨#[]⟩:ByteArray) 0 0 0) else (law15_Step.j0 k a0 a2 ((wrap64 (1+(Int.tmod (wrap64 (a0)) 4)))==3) (wrap64 (1+(Int.tmod (wrap64 (a0)) 4))) (strOfNums y2) (⟨#[]⟩:ByteArray) 0 0 0))
theorem law15_Step.mono_l: ∀k,(∀y0 y1 y2 y3 y4 y5 y6 y7 y8,LeO (law15_Step.j0 k y0 y1 y2 y3 y4 y5 y6 y7 y8) (law15_Step.j0 (k+1) y0 y1 y2 y3 y4 y5 y6 y7 y8))
 |0=>fun _ _ _ _ _ _ _ _ _ r h=>by simp [law15_Step.j0] at h
 |k+1=>by
  have ih0:=law15_Step.mono_l k
  intro y0 y1 y2 y3 y4 y5 y6 y7 y8
  unfold law15_Step.j0
  repeat' first
  |(with_reducible exact ih0 _ _ _ _ _ _ _ _ _)
  |(with_reducible exact LeO.refl _)
  |(with_reducible exact LeO.none _)
  |(with_reducible refine LeO.ite ?_ ?_)
  |(with_reducible refine LeO.bind ?_ (fun _=> ?_))
  |exact ih0 _ _ _ _ _ _ _ _ _
  |exact LeO.none _
  |refine LeO.ite ?_ ?_
  |refine LeO.bind ?_ (fun _=> ?_)
theorem law15_Step.mono: ∀a0 a1 a2 k,LeO (law15_Step.f k a0 a1 a2) (law15_Step.f (k+1) a0 a1 a2):=by
 intro a0 a1 a2 k
 have ih0:=law15_Step.mono_l k
 unfold law15_Step.f
 repeat' first
  |(with_reducible exact ih0 _ _ _ _ _ _ _ _ _)
  |(with_reducible exact LeO.refl _)
  |(with_reducible exact LeO.none _)
  |(with_reducible refine LeO.ite ?_ ?_)
  |(with_reducible refine LeO.bind ?_ (fun _=> ?_))
  |exact ih0 _ _ _ _ _ _ _ _ _
  |exact LeO.none _
  |refine LeO.ite ?_ ?_
  |refine LeO.bind ?_ (fun _=> ?_)
set_option maxHeartbeats 8000000 in
set_option maxRecDepth 100000 in
theorem law15_Step.calls (k:Nat) (a0:Int) (a1:Int) (a2:Int) (r1:Int) (r2:ByteArray) (r3:ByteArray) (r4:Int) (r5:Int) (r6:Int) (w:World) (h:law15_Step.f k a0 a1 a2=some (r1,r2,r3,r4,r5,r6)):
  Calls Try.prog 57 #[.int .u8 a0, .int .u8 a1, .int .u8 a2] w fun e w'=>e= .returned (.agg #[.int .i64 r1, .string r2, .string r3, .int .i64 r4, .int .i64 r5, .int .i64 r6])∧Below w.heap.size w w':=by
 have HB:=am_ (Below.refl w.heap.size w)
 have H:((some (([(97+(Int.tmod a1 25)) % 256]:List Int):List Int)).bind fun y2=>(if (wrap64 (1+(Int.tmod (wrap64 (a0)) 4)))=1 then (law15_Step.j0 k a0 a2 true (wrap64 (1+(Int.tmod (wrap64 (a0)) 4))) (strOfNums y2) (⟨#[]⟩:ByteArray) 0 0 0) else (law15_Step.j0 k a0 a2 ((wrap64 (1+(Int.tmod (wrap64 (a0)) 4)))==3) (wrap64 (1+(Int.tmod (wrap64 (a0)) 4))) (strOfNums y2) (⟨#[]⟩:ByteArray) 0 0 0)))=some (r1,r2,r3,r4,r5,r6):=h
 clear h
 obtain ⟨y2,hy2⟩: ∃y_:List Int,y_=(([(97+(Int.tmod a1 25)) % 256]:List Int)):=⟨_,rfl⟩
 replace H:(if (wrap64 (1+(Int.tmod (wrap64 (a0)) 4)))=1 then (law15_Step.j0 k a0 a2 true (wrap64 (1+(Int.tmod (wrap64 (a0)) 4))) (strOfNums y2) (⟨#[]⟩:ByteArray) 0 0 0) else (law15_Step.j0 k a0 a2 ((wrap64 (1+(Int.tmod (wrap64 (a0)) 4)))==3) (wrap64 (1+(Int.tmod (wrap64 (a0)) 4))) (strOfNums y2) (⟨#[]⟩:ByteArray) 0 0 0))=some (r1,r2,r3,r4,r5,r6):=by first|(rw [hy2];with_reducible exact H)|(have H2_:=(Option.bind_some _ _).symm.trans H;rw [hy2];with_reducible exact H2_)|(have H2_:=(Option.bind_some _ _).symm.trans H;with_reducible exact H2_)|with_reducible exact H|(rw [hy2];exact H)|exact H
 have Ny2:=Aside0.mk hy2
 clear hy2
 have HC4:=Aside0.mk H
 clear H
 go_enter Try.func57,Try.ntmps57
 go_upto_region 2 with (first|((with_reducible refine gate_dst (N:=6) rfl ?_);refine bx_ (N:=6) (cs:=#[.int .i64 0, .string (⟨#[]⟩:ByteArray), .string (⟨#[]⟩:ByteArray), .int .i64 0, .int .i64 0, .int .i64 0]) (t:=58) ?_;intro gb1 hg w5 hbox hb;have n0_:=am_ (below_step (zl0_ HB) hb);have n1_:=am_ (hbox);have n2_:=am_ ((zg0_ HB hg:w.heap.size≤gb1));have n3_:=am_ ((zg0_ HB hg:w.heap.size≤gb1));clear HB;have HB:=n0_;have BK1:=n1_;have GE1:=n3_;clear n0_ n1_ n2_ n3_;clear hb hbox hg)|((with_reducible refine gate_dst (N:=16) rfl ?_);refine Kd.R_lit (Kd.int .u8) _ 5 ?hg (N:=16) ?hd (xs:=([(97+(Int.tmod a1 25)) % 256]:List Int)) (inner:=[.int .u8 ((97+(Int.tmod a1 25)) % 256)]) (ok:=fun _=>True) (okp:=fun _=>True) ?hr ?hp (fun _ hk=>hk) trivial (Below.refl _ _) (Nat.le_refl _) (by simp) ?_;(case hd=>rfl);(case hg=>rfl);(case hr=>first|(go_simp;done)|(go_simp;rfl));(case hp=>exact (Reps.one (show Kd.M (Kd.int .u8) _ _ _ ((97+(Int.tmod a1 25)) % 256) [.int .u8 ((97+(Int.tmod a1 25)) % 256)] from rfl) (Reps.none _ _)));intro v3 w6 ho7 hb hg_ hnew_;clear hg_ hnew_;(first|rw [←Ny2.out] at ho7|(simp only [Int.reduceToNat] at ho7;rw [←Ny2.out] at ho7));have HO4:=am_ (Kd.R_lower ho7 (below_size (zl1_ HB GE1)));replace BK1:=am_ (blk_below (g:=gb1) (o:= .cells #[.int .i64 0, .string (⟨#[]⟩:ByteArray), .string (⟨#[]⟩:ByteArray), .int .i64 0, .int .i64 0, .int .i64 0] 58 (0,0)) (zb_ BK1) hb);replace HB:=am_ (below_step (zl1_ HB GE1) hb);clear hb ho7;have hcv8:=own_string (P:=Try.prog) Try.underlying22 Try.underlying5 Try.underlying9 (Kd.own_of_R HO4.out))|((with_reducible refine gate_dst (N:=7) rfl ?_);refine bx_ (N:=7) (cs:=#[.int .i64 0, .string (⟨#[]⟩:ByteArray), .string (⟨#[]⟩:ByteArray), .int .i64 0, .int .i64 0, .int .i64 0]) (t:=58) ?_;intro gb5 hg w9 hbox hb;have n0_:=am_ (Kd.R_below (zr_ HO4) hb);have n1_:=am_ (blk_below (g:=gb1) (o:= .cells #[.int .i64 0, .string (⟨#[]⟩:ByteArray), .string (⟨#[]⟩:ByteArray), .int .i64 0, .int .i64 0, .int .i64 0] 58 (0,0)) (zb_ BK1) hb);have n2_:=am_ (below_step (zl1_ HB GE1) hb);have n3_:=am_ (hbox);have n5_:=am_ ((zg1_ HB GE1 hg:w.heap.size≤gb5));have n6_:=am_ ((by rw [hg];exact Nat.ne_of_lt (blk_lt (g:=gb1) (o:= .cells #[.int .i64 0, .string (⟨#[]⟩:ByteArray), .string (⟨#[]⟩:ByteArray), .int .i64 0, .int .i64 0, .int .i64 0] 58 (0,0)) (zb_ BK1)):gb1≠gb5));have n7_:=am_ ((by rw [hg];exact Nat.ne_of_gt (blk_lt (g:=gb1) (o:= .cells #[.int .i64 0, .string (⟨#[]⟩:ByteArray), .string (⟨#[]⟩:ByteArray), .int .i64 0, .int .i64 0, .int .i64 0] 58 (0,0)) (zb_ BK1)):gb5≠gb1));clear HO4;clear BK1;clear HB;have HO4:=n0_;have BK1:=n1_;have HB:=n2_;have BK5:=n3_;have GE5:=n5_;have NB1_5:=n6_;clear n0_ n1_ n2_ n3_ n5_ n6_ n7_;clear hb hbox hg;obtain ⟨hcz11_0,hcz11_1,hcz11_2,hcz11_3,hcz11_4,hcz11_5⟩:=x6_ BK5;have hfz11_0:=blk_frozen BK5.out 0;have hfz11_1:=blk_frozen BK5.out 1;have hfz11_2:=blk_frozen BK5.out 2;have hfz11_3:=blk_frozen BK5.out 3;have hfz11_4:=blk_frozen BK5.out 4;have hfz11_5:=blk_frozen BK5.out 5))
 (try simp only [Act.put,List.setIfInBounds_toArray,List.set_cons_zero,List.set_cons_succ])
 go_cut [26] (fun v26 wc=> ∃(kq:Nat) (x26_3:Bool),v26= .bool x26_3∧Aside0 (law15_Step.j0 kq a0 a2 x26_3 (wrap64 (1+(Int.tmod (wrap64 (a0)) 4))) (strOfNums y2) (⟨#[]⟩:ByteArray) 0 0 0=some (r1,r2,r3,r4,r5,r6))∧Aside0 (kq≤k)∧Aside0 (wc.heap[gb1]?=some (.cells #[.int .i64 0, .string (⟨#[]⟩:ByteArray), .string (⟨#[]⟩:ByteArray), .int .i64 0, .int .i64 0, .int .i64 0] 58 (0,0)))∧Aside0 (wc.heap[gb5]?=some (.cells #[.int .i64 (wrap64 (1+(Int.tmod (wrap64 (a0)) 4))), .string (strOfNums y2), .string (⟨#[]⟩:ByteArray), .int .i64 0, .int .i64 0, .int .i64 0] 58 (0,0)))∧Aside0 (Below w.heap.size w wc))
 case first=>
  have H:=HC4.out
  clear HC4
  by_cases c12:(wrap64 (1+(Int.tmod (wrap64 (a0)) 4)))=1
  ·rw [if_pos c12] at H
   have c12b0:((wrap64 (1+(Int.tmod (wrap64 (a0)) 4)))==1)=true:=beq_iff_eq.mpr c12
   clear c12
   (first|rw [c12b0]|(simp only [i64_w,i32_w];rw [c12b0])|skip)
   have H':=Aside0.mk H
   clear H
   go_wp2
   go_meet
   case rel=>exact ⟨_,(true),(by first|rfl|(simp;done)|(simp [*];done)),H',⟨by first|omega|exact Nat.le_refl _⟩,⟨zw_ BK1⟩,⟨zw_ BK5⟩,⟨zl2_ HB GE1 GE5⟩⟩
  rw [if_neg c12] at H
  have c12b0:((wrap64 (1+(Int.tmod (wrap64 (a0)) 4)))==1)=false:=beq_eq_false_iff_ne.mpr c12
  (first|rw [c12b0]|(simp only [i64_w,i32_w];rw [c12b0])|skip)
  have H':=Aside0.mk H
  clear H
  go_wp2
  go_meet
  case rel=>exact ⟨_,(((wrap64 (1+(Int.tmod (wrap64 (a0)) 4)))==3)),(by first|rfl|(simp;done)|(simp [*];done)),H',⟨by first|omega|exact Nat.le_refl _⟩,⟨zw_ BK1⟩,⟨zw_ BK5⟩,⟨zl2_ HB GE1 GE5⟩⟩
 case rest=>
  clear HC4
  try clear c1
  try clear p2
  try clear c5
  try clear p6
  try clear hcv8
  try clear c10
  try clear c12
  try clear c12b0
  try clear c13
  try clear c15
  try clear hcz11_0
  try clear hcz11_1
  try clear hcz11_2
  try clear hcz11_3
  try clear hcz11_4
  try clear hcz11_5
  try clear hfz11_0
  try clear hfz11_1
  try clear hfz11_2
  try clear hfz11_3
  try clear hfz11_4
  try clear hfz11_5
  obtain ⟨kq,x26_3,rfl,HA,HJ3,BK1,BK5,HB⟩:=hcut
  cases kq with
  |zero=>exact absurd HA.out (by simp [law15_Step.j0])
  |succ kj3=>
   have H:=HA.out
   clear HA
   simp only [law15_Step.j0] at H
   by_cases c17:x26_3=true
   rotate_left
   ·replace c17:=Bool.eq_false_iff.mpr c17
    subst c17
    have H1:(if (wrap64 (1+(Int.tmod (wrap64 (a0)) 4)))≤2 then (some ((wrap64 (1+(Int.tmod (wrap64 (a0)) 4))),(strOfNums y2),(⟨#[]⟩:ByteArray),wrap64 ((wrap64 (Int.tdiv (wrap64 (a0)) 4))*3),wrap64 ((wrap64 (Int.tdiv (wrap64 (a0)) 4))*3),wrap64 ((wrap64 (Int.tdiv (wrap64 (a0)) 4))*3))) else (some ((wrap64 (1+(Int.tmod (wrap64 (a0)) 4))),(strOfNums y2),(⟨#[]⟩:ByteArray),0,0,0)))=some (r1,r2,r3,r4,r5,r6):=by rw [if_neg (show¬(false=true) by decide)] at H;exact H
    clear H
    have H:=H1
    clear H1
    by_cases c45:(wrap64 (1+(Int.tmod (wrap64 (a0)) 4)))≤2
    rotate_left
    ·rw [if_neg c45] at H
     have c45b0:decide ((wrap64 (1+(Int.tmod (wrap64 (a0)) 4)))≤2)=false:=decide_eq_false c45
     clear c45
     simp only [Option.some.injEq,Prod.mk.injEq] at H
     obtain ⟨rfl,rfl,rfl,rfl,rfl,rfl⟩:=H
     obtain ⟨hcz50_0,hcz50_1,hcz50_2,hcz50_3,hcz50_4,hcz50_5⟩:=x6_ BK5
     obtain ⟨hcz51_0,hcz51_1,hcz51_2,hcz51_3,hcz51_4,hcz51_5,hfz51_0,hfz51_1,hfz51_2,hfz51_3,hfz51_4,hfz51_5⟩:=y6_ BK1
     go_wp2
     refine bodyPost_ret (results_cell_row rfl _ _ gb1 58 #[.int .i64 (wrap64 (1+(Int.tmod (wrap64 (a0)) 4))), .string (strOfNums y2), .string (⟨#[]⟩:ByteArray), .int .i64 0, .int .i64 0, .int .i64 0] (0,0) _ rfl (zw_ BK1) Try.underlying58 rfl (by kernel_rfl)) rfl ?_
     exact ⟨by first|rfl|(simp [errW_none,errW_some]<;>rfl)|(simp [*,errW_none,errW_some]<;>rfl),zl2_ HB GE1 GE5⟩

    rw [if_pos c45] at H
    have c45b0:decide ((wrap64 (1+(Int.tmod (wrap64 (a0)) 4)))≤2)=true:=decide_eq_true c45
    clear c45
    simp only [Option.some.injEq,Prod.mk.injEq] at H
    obtain ⟨rfl,rfl,rfl,rfl,rfl,rfl⟩:=H
    have hnc46:=NB1_5.out
    obtain ⟨hcz47_0,hcz47_1,hcz47_2,hcz47_3,hcz47_4,hcz47_5⟩:=x6_ BK5
    have hfz47_3:=blk_frozen BK5.out 3
    have hfz47_4:=blk_frozen BK5.out 4
    have hfz47_5:=blk_frozen BK5.out 5
    obtain ⟨hcz48_0,hcz48_1,hcz48_2,hcz48_3,hcz48_4,hcz48_5,hfz48_0,hfz48_1,hfz48_2,hfz48_3,hfz48_4,hfz48_5⟩:=y6_ BK1
    go_wp2
    refine bodyPost_ret (results_cell_row rfl _ _ gb1 58 #[.int .i64 (wrap64 (1+(Int.tmod (wrap64 (a0)) 4))), .string (strOfNums y2), .string (⟨#[]⟩:ByteArray), .int .i64 (wrap64 ((wrap64 (Int.tdiv (wrap64 (a0)) 4))*3)), .int .i64 (wrap64 ((wrap64 (Int.tdiv (wrap64 (a0)) 4))*3)), .int .i64 (wrap64 ((wrap64 (Int.tdiv (wrap64 (a0)) 4))*3))] (0,0) _ rfl (zw_ BK1) Try.underlying58 rfl (by kernel_rfl)) rfl ?_
    exact ⟨by first|rfl|(simp [errW_none,errW_some]<;>rfl)|(simp [*,errW_none,errW_some]<;>rfl),zl2_ HB GE1 GE5⟩
   subst c17
   have H1:((some (([(97+(Int.tmod a2 25)) % 256]:List Int):List Int)).bind fun y6=>(if (Int.tmod a2 5)=0 then (if (wrap64 (1+(Int.tmod (wrap64 (a0)) 4)))≤2 then (some ((wrap64 (1+(Int.tmod (wrap64 (a0)) 4))),(strOfNums y2),(⟨#[]⟩:ByteArray),wrap64 ((wrap64 (Int.tdiv (wrap64 (a0)) 4))*3),wrap64 ((wrap64 (Int.tdiv (wrap64 (a0)) 4))*3),wrap64 ((wrap64 (Int.tdiv (wrap64 (a0)) 4))*3))) else (some ((wrap64 (1+(Int.tmod (wrap64 (a0)) 4))),(strOfNums y2),(⟨#[]⟩:ByteArray),0,0,0))) else (if (wrap64 (1+(Int.tmod (wrap64 (a0)) 4)))≤2 then (some ((wrap64 (1+(Int.tmod (wrap64 (a0)) 4))),(strOfNums y2),strOfNums y6,wrap64 ((wrap64 (Int.tdiv (wrap64 (a0)) 4))*3),wrap64 ((wrap64 (Int.tdiv (wrap64 (a0)) 4))*3),wrap64 ((wrap64 (Int.tdiv (wrap64 (a0)) 4))*3))) else (some ((wrap64 (1+(Int.tmod (wrap64 (a0)) 4))),(strOfNums y2),strOfNums y6,0,0,0)))))=some (r1,r2,r3,r4,r5,r6):=by rw [if_pos rfl] at H;exact H
   clear H
   have H:=H1
   clear H1
   obtain ⟨y6,hy6⟩: ∃y_:List Int,y_=(([(97+(Int.tmod a2 25)) % 256]:List Int)):=⟨_,rfl⟩
   replace H:(if (Int.tmod a2 5)=0 then (if (wrap64 (1+(Int.tmod (wrap64 (a0)) 4)))≤2 then (some ((wrap64 (1+(Int.tmod (wrap64 (a0)) 4))),(strOfNums y2),(⟨#[]⟩:ByteArray),wrap64 ((wrap64 (Int.tdiv (wrap64 (a0)) 4))*3),wrap64 ((wrap64 (Int.tdiv (wrap64 (a0)) 4))*3),wrap64 ((wrap64 (Int.tdiv (wrap64 (a0)) 4))*3))) else (some ((wrap64 (1+(Int.tmod (wrap64 (a0)) 4))),(strOfNums y2),(⟨#[]⟩:ByteArray),0,0,0))) else (if (wrap64 (1+(Int.tmod (wrap64 (a0)) 4)))≤2 then (some ((wrap64 (1+(Int.tmod (wrap64 (a0)) 4))),(strOfNums y2),strOfNums y6,wrap64 ((wrap64 (Int.tdiv (wrap64 (a0)) 4))*3),wrap64 ((wrap64 (Int.tdiv (wrap64 (a0)) 4))*3),wrap64 ((wrap64 (Int.tdiv (wrap64 (a0)) 4))*3))) else (some ((wrap64 (1+(Int.tmod (wrap64 (a0)) 4))),(strOfNums y2),strOfNums y6,0,0,0))))=some (r1,r2,r3,r4,r5,r6):=by first|(rw [hy6];with_reducible exact H)|(have H2_:=(Option.bind_some _ _).symm.trans H;rw [hy6];with_reducible exact H2_)|(have H2_:=(Option.bind_some _ _).symm.trans H;with_reducible exact H2_)|with_reducible exact H|(rw [hy6];exact H)|exact H
   have Ny6:=Aside0.mk hy6
   clear hy6
   by_cases c18:(Int.tmod a2 5)=0
   ·rw [if_pos c18] at H
    have c18b0:((Int.tmod a2 5)==0)=true:=beq_iff_eq.mpr c18
    clear c18
    by_cases c19:(wrap64 (1+(Int.tmod (wrap64 (a0)) 4)))≤2
    ·rw [if_pos c19] at H
     have c19b0:decide ((wrap64 (1+(Int.tmod (wrap64 (a0)) 4)))≤2)=true:=decide_eq_true c19
     clear c19
     simp only [Option.some.injEq,Prod.mk.injEq] at H
     obtain ⟨rfl,rfl,rfl,rfl,rfl,rfl⟩:=H
     go_wp2_with (first|((with_reducible refine gate_dst (N:=30) rfl ?_);refine Kd.R_lit (Kd.int .u8) _ 5 ?hg (N:=30) ?hd (xs:=([(97+(Int.tmod a2 25)) % 256]:List Int)) (inner:=[.int .u8 ((97+(Int.tmod a2 25)) % 256)]) (ok:=fun _=>True) (okp:=fun _=>True) ?hr ?hp (fun _ hk=>hk) trivial (Below.refl _ _) (Nat.le_refl _) (by simp) ?_;(case hd=>rfl);(case hg=>rfl);(case hr=>first|(go_simp;done)|(go_simp;rfl));(case hp=>exact (Reps.one (show Kd.M (Kd.int .u8) _ _ _ ((97+(Int.tmod a2 25)) % 256) [.int .u8 ((97+(Int.tmod a2 25)) % 256)] from rfl) (Reps.none _ _)));intro v7 w20 ho21 hb hg_ hnew_;clear hg_ hnew_;(first|rw [←Ny6.out] at ho21|(simp only [Int.reduceToNat] at ho21;rw [←Ny6.out] at ho21));have HO8:=am_ (Kd.R_lower ho21 (below_size (zl2_ HB GE1 GE5)));replace BK1:=am_ (blk_below (g:=gb1) (o:= .cells #[.int .i64 0, .string (⟨#[]⟩:ByteArray), .string (⟨#[]⟩:ByteArray), .int .i64 0, .int .i64 0, .int .i64 0] 58 (0,0)) (zb_ BK1) hb);replace BK5:=am_ (blk_below (g:=gb5) (o:= .cells #[.int .i64 (wrap64 (1+(Int.tmod (wrap64 (a0)) 4))), .string (strOfNums y2), .string (⟨#[]⟩:ByteArray), .int .i64 0, .int .i64 0, .int .i64 0] 58 (0,0)) (zb_ BK5) hb);replace HB:=am_ (below_step (zl2_ HB GE1 GE5) hb);clear hb ho21;have hcv22:=own_string (P:=Try.prog) Try.underlying22 Try.underlying5 Try.underlying9 (Kd.own_of_R HO8.out);have hnc23:=NB1_5.out;obtain ⟨hcz24_0,hcz24_1,hcz24_2,hcz24_3,hcz24_4,hcz24_5⟩:=x6_ BK5;have hfz24_2:=blk_frozen BK5.out 2;have hfz24_3:=blk_frozen BK5.out 3;have hfz24_4:=blk_frozen BK5.out 4;have hfz24_5:=blk_frozen BK5.out 5;obtain ⟨hcz25_0,hcz25_1,hcz25_2,hcz25_3,hcz25_4,hcz25_5⟩:=x6_ BK1;have hfz25_0:=blk_frozen BK1.out 0;have hfz25_1:=blk_frozen BK1.out 1;have hfz25_2:=blk_frozen BK1.out 2;have hfz25_3:=blk_frozen BK1.out 3;have hfz25_4:=blk_frozen BK1.out 4;have hfz25_5:=blk_frozen BK1.out 5))
     refine bodyPost_ret (results_cell_row rfl _ _ gb1 58 #[.int .i64 (wrap64 (1+(Int.tmod (wrap64 (a0)) 4))), .string (strOfNums y2), .string (⟨#[]⟩:ByteArray), .int .i64 (wrap64 ((wrap64 (Int.tdiv (wrap64 (a0)) 4))*3)), .int .i64 (wrap64 ((wrap64 (Int.tdiv (wrap64 (a0)) 4))*3)), .int .i64 (wrap64 ((wrap64 (Int.tdiv (wrap64 (a0)) 4))*3))] (0,0) _ rfl (zw_ BK1) Try.underlying58 rfl (by kernel_rfl)) rfl ?_
     exact ⟨by first|rfl|(simp [errW_none,errW_some]<;>rfl)|(simp [*,errW_none,errW_some]<;>rfl),zl2_ HB GE1 GE5⟩
    rw [if_neg c19] at H
    have c19b0:decide ((wrap64 (1+(Int.tmod (wrap64 (a0)) 4)))≤2)=false:=decide_eq_false c19
    clear c19
    simp only [Option.some.injEq,Prod.mk.injEq] at H
    obtain ⟨rfl,rfl,rfl,rfl,rfl,rfl⟩:=H
    go_wp2_with (first|((with_reducible refine gate_dst (N:=30) rfl ?_);refine Kd.R_lit (Kd.int .u8) _ 5 ?hg (N:=30) ?hd (xs:=([(97+(Int.tmod a2 25)) % 256]:List Int)) (inner:=[.int .u8 ((97+(Int.tmod a2 25)) % 256)]) (ok:=fun _=>True) (okp:=fun _=>True) ?hr ?hp (fun _ hk=>hk) trivial (Below.refl _ _) (Nat.le_refl _) (by simp) ?_;(case hd=>rfl);(case hg=>rfl);(case hr=>first|(go_simp;done)|(go_simp;rfl));(case hp=>exact (Reps.one (show Kd.M (Kd.int .u8) _ _ _ ((97+(Int.tmod a2 25)) % 256) [.int .u8 ((97+(Int.tmod a2 25)) % 256)] from rfl) (Reps.none _ _)));intro v7 w26 ho27 hb hg_ hnew_;clear hg_ hnew_;(first|rw [←Ny6.out] at ho27|(simp only [Int.reduceToNat] at ho27;rw [←Ny6.out] at ho27));have HO8:=am_ (Kd.R_lower ho27 (below_size (zl2_ HB GE1 GE5)));replace BK1:=am_ (blk_below (g:=gb1) (o:= .cells #[.int .i64 0, .string (⟨#[]⟩:ByteArray), .string (⟨#[]⟩:ByteArray), .int .i64 0, .int .i64 0, .int .i64 0] 58 (0,0)) (zb_ BK1) hb);replace BK5:=am_ (blk_below (g:=gb5) (o:= .cells #[.int .i64 (wrap64 (1+(Int.tmod (wrap64 (a0)) 4))), .string (strOfNums y2), .string (⟨#[]⟩:ByteArray), .int .i64 0, .int .i64 0, .int .i64 0] 58 (0,0)) (zb_ BK5) hb);replace HB:=am_ (below_step (zl2_ HB GE1 GE5) hb);clear hb ho27;have hcv28:=own_string (P:=Try.prog) Try.underlying22 Try.underlying5 Try.underlying9 (Kd.own_of_R HO8.out);have hnc29:=NB1_5.out;obtain ⟨hcz30_0,hcz30_1,hcz30_2,hcz30_3,hcz30_4,hcz30_5⟩:=x6_ BK5;have hfz30_2:=blk_frozen BK5.out 2;obtain ⟨hcz31_0,hcz31_1,hcz31_2,hcz31_3,hcz31_4,hcz31_5⟩:=x6_ BK1;have hfz31_0:=blk_frozen BK1.out 0;have hfz31_1:=blk_frozen BK1.out 1;have hfz31_2:=blk_frozen BK1.out 2;have hfz31_3:=blk_frozen BK1.out 3;have hfz31_4:=blk_frozen BK1.out 4;have hfz31_5:=blk_frozen BK1.out 5))
    refine bodyPost_ret (results_cell_row rfl _ _ gb1 58 #[.int .i64 (wrap64 (1+(Int.tmod (wrap64 (a0)) 4))), .string (strOfNums y2), .string (⟨#[]⟩:ByteArray), .int .i64 0, .int .i64 0, .int .i64 0] (0,0) _ rfl (zw_ BK1) Try.underlying58 rfl (by kernel_rfl)) rfl ?_
    exact ⟨by first|rfl|(simp [errW_none,errW_some]<;>rfl)|(simp [*,errW_none,errW_some]<;>rfl),zl2_ HB GE1 GE5⟩
   rw [if_neg c18] at H
   have c18b0:((Int.tmod a2 5)==0)=false:=beq_eq_false_iff_ne.mpr c18
   by_cases c32:(wrap64 (1+(Int.tmod (wrap64 (a0)) 4)))≤2
   ·rw [if_pos c32] at H
    have c32b0:decide ((wrap64 (1+(Int.tmod (wrap64 (a0)) 4)))≤2)=true:=decide_eq_true c32
    clear c32
    simp only [Option.some.injEq,Prod.mk.injEq] at H
    obtain ⟨rfl,rfl,rfl,rfl,rfl,rfl⟩:=H
    go_wp2_with (first|((with_reducible refine gate_dst (N:=30) rfl ?_);refine Kd.R_lit (Kd.int .u8) _ 5 ?hg (N:=30) ?hd (xs:=([(97+(Int.tmod a2 25)) % 256]:List Int)) (inner:=[.int .u8 ((97+(Int.tmod a2 25)) % 256)]) (ok:=fun _=>True) (okp:=fun _=>True) ?hr ?hp (fun _ hk=>hk) trivial (Below.refl _ _) (Nat.le_refl _) (by simp) ?_;(case hd=>rfl);(case hg=>rfl);(case hr=>first|(go_simp;done)|(go_simp;rfl));(case hp=>exact (Reps.one (show Kd.M (Kd.int .u8) _ _ _ ((97+(Int.tmod a2 25)) % 256) [.int .u8 ((97+(Int.tmod a2 25)) % 256)] from rfl) (Reps.none _ _)));intro v7 w33 ho34 hb hg_ hnew_;clear hg_ hnew_;(first|rw [←Ny6.out] at ho34|(simp only [Int.reduceToNat] at ho34;rw [←Ny6.out] at ho34));have HO8:=am_ (Kd.R_lower ho34 (below_size (zl2_ HB GE1 GE5)));replace BK1:=am_ (blk_below (g:=gb1) (o:= .cells #[.int .i64 0, .string (⟨#[]⟩:ByteArray), .string (⟨#[]⟩:ByteArray), .int .i64 0, .int .i64 0, .int .i64 0] 58 (0,0)) (zb_ BK1) hb);replace BK5:=am_ (blk_below (g:=gb5) (o:= .cells #[.int .i64 (wrap64 (1+(Int.tmod (wrap64 (a0)) 4))), .string (strOfNums y2), .string (⟨#[]⟩:ByteArray), .int .i64 0, .int .i64 0, .int .i64 0] 58 (0,0)) (zb_ BK5) hb);replace HB:=am_ (below_step (zl2_ HB GE1 GE5) hb);clear hb ho34;have hcv35:=own_string (P:=Try.prog) Try.underlying22 Try.underlying5 Try.underlying9 (Kd.own_of_R HO8.out);have hnc36:=NB1_5.out;obtain ⟨hcz37_0,hcz37_1,hcz37_2,hcz37_3,hcz37_4,hcz37_5⟩:=x6_ BK5;have hfz37_2:=blk_frozen BK5.out 2;have hfz37_3:=blk_frozen BK5.out 3;have hfz37_4:=blk_frozen BK5.out 4;have hfz37_5:=blk_frozen BK5.out 5;obtain ⟨hcz38_0,hcz38_1,hcz38_2,hcz38_3,hcz38_4,hcz38_5⟩:=x6_ BK1;have hfz38_0:=blk_frozen BK1.out 0;have hfz38_1:=blk_frozen BK1.out 1;have hfz38_2:=blk_frozen BK1.out 2;have hfz38_3:=blk_frozen BK1.out 3;have hfz38_4:=blk_frozen BK1.out 4;have hfz38_5:=blk_frozen BK1.out 5))
    refine bodyPost_ret (results_cell_row rfl _ _ gb1 58 #[.int .i64 (wrap64 (1+(Int.tmod (wrap64 (a0)) 4))), .string (strOfNums y2), .string (strOfNums y6), .int .i64 (wrap64 ((wrap64 (Int.tdiv (wrap64 (a0)) 4))*3)), .int .i64 (wrap64 ((wrap64 (Int.tdiv (wrap64 (a0)) 4))*3)), .int .i64 (wrap64 ((wrap64 (Int.tdiv (wrap64 (a0)) 4))*3))] (0,0) _ rfl (zw_ BK1) Try.underlying58 rfl (by kernel_rfl)) rfl ?_
    exact ⟨by first|rfl|(simp [errW_none,errW_some]<;>rfl)|(simp [*,errW_none,errW_some]<;>rfl),zl2_ HB GE1 GE5⟩
   rw [if_neg c32] at H
   have c32b0:decide ((wrap64 (1+(Int.tmod (wrap64 (a0)) 4)))≤2)=false:=decide_eq_false c32
   clear c32
   simp only [Option.some.injEq,Prod.mk.injEq] at H
   obtain ⟨rfl,rfl,rfl,rfl,rfl,rfl⟩:=H
   go_wp2_with (first|((with_reducible refine gate_dst (N:=30) rfl ?_);refine Kd.R_lit (Kd.int .u8) _ 5 ?hg (N:=30) ?hd (xs:=([(97+(Int.tmod a2 25)) % 256]:List Int)) (inner:=[.int .u8 ((97+(Int.tmod a2 25)) % 256)]) (ok:=fun _=>True) (okp:=fun _=>True) ?hr ?hp (fun _ hk=>hk) trivial (Below.refl _ _) (Nat.le_refl _) (by simp) ?_;(case hd=>rfl);(case hg=>rfl);(case hr=>first|(go_simp;done)|(go_simp;rfl));(case hp=>exact (Reps.one (show Kd.M (Kd.int .u8) _ _ _ ((97+(Int.tmod a2 25)) % 256) [.int .u8 ((97+(Int.tmod a2 25)) % 256)] from rfl) (Reps.none _ _)));intro v7 w39 ho40 hb hg_ hnew_;clear hg_ hnew_;(first|rw [←Ny6.out] at ho40|(simp only [Int.reduceToNat] at ho40;rw [←Ny6.out] at ho40));have HO8:=am_ (Kd.R_lower ho40 (below_size (zl2_ HB GE1 GE5)));replace BK1:=am_ (blk_below (g:=gb1) (o:= .cells #[.int .i64 0, .string (⟨#[]⟩:ByteArray), .string (⟨#[]⟩:ByteArray), .int .i64 0, .int .i64 0, .int .i64 0] 58 (0,0)) (zb_ BK1) hb);replace BK5:=am_ (blk_below (g:=gb5) (o:= .cells #[.int .i64 (wrap64 (1+(Int.tmod (wrap64 (a0)) 4))), .string (strOfNums y2), .string (⟨#[]⟩:ByteArray), .int .i64 0, .int .i64 0, .int .i64 0] 58 (0,0)) (zb_ BK5) hb);replace HB:=am_ (below_step (zl2_ HB GE1 GE5) hb);clear hb ho40;have hcv41:=own_string (P:=Try.prog) Try.underlying22 Try.underlying5 Try.underlying9 (Kd.own_of_R HO8.out);have hnc42:=NB1_5.out;obtain ⟨hcz43_0,hcz43_1,hcz43_2,hcz43_3,hcz43_4,hcz43_5⟩:=x6_ BK5;have hfz43_2:=blk_frozen BK5.out 2;obtain ⟨hcz44_0,hcz44_1,hcz44_2,hcz44_3,hcz44_4,hcz44_5⟩:=x6_ BK1;have hfz44_0:=blk_frozen BK1.out 0;have hfz44_1:=blk_frozen BK1.out 1;have hfz44_2:=blk_frozen BK1.out 2;have hfz44_3:=blk_frozen BK1.out 3;have hfz44_4:=blk_frozen BK1.out 4;have hfz44_5:=blk_frozen BK1.out 5))
   refine bodyPost_ret (results_cell_row rfl _ _ gb1 58 #[.int .i64 (wrap64 (1+(Int.tmod (wrap64 (a0)) 4))), .string (strOfNums y2), .string (strOfNums y6), .int .i64 0, .int .i64 0, .int .i64 0] (0,0) _ rfl (zw_ BK1) Try.underlying58 rfl (by kernel_rfl)) rfl ?_
   exact ⟨by first|rfl|(simp [errW_none,errW_some]<;>rfl)|(simp [*,errW_none,errW_some]<;>rfl),zl2_ HB GE1 GE5⟩
mutual
def law19_TrialMade.j0:Nat→List Int→List Int→Int→Int→Bool→Option (Bool)
 |0,_,_,_,_,_=>none
 |k+1,x0,x1,x2,x3,x26=>if x26=true then ((law19_awake.f k).bind fun t1=>(some t1)) else ((law12_Make.f k x0).bind fun t2=>(law19_TrialMade.l0 k x1 x2 x3 t2 ([]:List (S58)) 0))
def law19_TrialMade.l0:Nat→List Int→Int→Int→List (S31)→List (S58)→Int→Option (Bool)
 |0,_,_,_,_,_,_=>none
 |k+1,x1,x2,x3,x9,x10,x11=>if (wrap64 (x11+2))<(x1.length:Int) then (if 0≤x11 then (if x11<(x1.length:Int) then (if 0≤(wrap64 (x11+1)) then (if (wrap64 (x11+1))<(x1.length:Int) then (if 0≤(wrap64 (x11+2)) then ((law15_Step.f k (rd x1 x11) (rd x1 (wrap64 (x11+1))) (rd x1 (wrap64 (x11+2)))).bind fun bt8=>(if x10.length<2199023255552 then (law19_TrialMade.l0 k x1 x2 x3 x9 (x10++ [(⟨bt8.1,bt8.2.1,bt8.2.2.1,(⟨bt8.2.2.2.1,bt8.2.2.2.2.1,bt8.2.2.2.2.2⟩:S27)⟩:S58)]) (wrap64 (x11+3))) else (none))) else (none)) else (none)) else (none)) else (none)) else (none)) else ((trial_Steps.f k x9 x10).bind fun bt17=>((r10_Trial.f k x9 x10).bind fun bt23=>((some (([(97+(Int.tmod x2 25)) % 256]:List Int):List Int)).bind fun y29=>((trial_Would.f k x9 (strOfNums y29) (wrap64 (x3)) 0 0 x10).bind fun bt32=>((r10_Would.f k x9 (strOfNums y29) (wrap64 (x3)) 0 0 x10).bind fun bt34=>((r10_SameItems.f k bt17.1 bt23.1).bind fun t36=>(if t36=true then (if bt17.2.1=bt23.2.1 then ((law1_Num.f bt17.2.2).bind fun t37=>(if t37=bt23.2.2 then ((r10_Right.f k bt17.1).bind fun t38=>(if t38=true then (if (bt32.1==bt34.1)=true then (if (bt32.2==bt34.2)=true then ((law19_awake.f k).bind fun t39=>(some t39)) else (none)) else (none)) else (none))) else (none))) else (none)) else (none))))))))
end
def law19_TrialMade.f (k:Nat) (l0:List Int) (l1:List Int) (a2:Int) (a3:Int):Option (Bool):=if (l0.length:Int)>60 then (law19_TrialMade.j0 k l0 l1 a2 a3 true) else (law19_TrialMade.j0 k l0 l1 a2 a3 (decide ((l1.length:Int)>60)))
theorem law19_TrialMade.mono_l: ∀k,(∀y0 y1 y2 y3 y4,LeO (law19_TrialMade.j0 k y0 y1 y2 y3 y4) (law19_TrialMade.j0 (k+1) y0 y1 y2 y3 y4))∧(∀y0 y1 y2 y3 y4 y5,LeO (law19_TrialMade.l0 k y0 y1 y2 y3 y4 y5) (law19_TrialMade.l0 (k+1) y0 y1 y2 y3 y4 y5))
 |0=>⟨fun _ _ _ _ _ r h=>by simp [law19_TrialMade.j0] at h,fun _ _ _ _ _ _ r h=>by simp [law19_TrialMade.l0] at h⟩
 |k+1=>by
  obtain ⟨ih0,ih1⟩:=law19_TrialMade.mono_l k
  refine ⟨?_, ?_⟩
  ·intro y0 y1 y2 y3 y4
   unfold law19_TrialMade.j0
   repeat' first
   |(with_reducible exact ih0 _ _ _ _ _)
   |(with_reducible exact ih1 _ _ _ _ _ _)
   |(with_reducible exact law12_Make.mono _ _)
   |(with_reducible exact law15_Step.mono _ _ _ _)
   |(with_reducible exact law19_awake.mono _)
   |(with_reducible exact r10_Right.mono _ _)
   |(with_reducible exact r10_SameItems.mono _ _ _)
   |(with_reducible exact r10_Trial.mono _ _ _)
   |(with_reducible exact r10_Would.mono _ _ _ _ _ _ _)
   |(with_reducible exact trial_Steps.mono _ _ _)
   |(with_reducible exact trial_Would.mono _ _ _ _ _ _ _)
   |(with_reducible exact LeO.refl _)
   |(with_reducible exact LeO.none _)
   |(with_reducible refine LeO.ite ?_ ?_)
   |(with_reducible refine LeO.bind ?_ (fun _=> ?_))
   |exact ih0 _ _ _ _ _
   |exact ih1 _ _ _ _ _ _
   |exact law12_Make.mono _ _
   |exact law15_Step.mono _ _ _ _
   |exact law19_awake.mono _
   |exact r10_Right.mono _ _
   |exact r10_SameItems.mono _ _ _
   |exact r10_Trial.mono _ _ _
   |exact r10_Would.mono _ _ _ _ _ _ _
   |exact trial_Steps.mono _ _ _
   |exact trial_Would.mono _ _ _ _ _ _ _
   |exact LeO.none _
   |refine LeO.ite ?_ ?_
   |refine LeO.bind ?_ (fun _=> ?_)
  intro y0 y1 y2 y3 y4 y5
  unfold law19_TrialMade.l0
  repeat' first
  |(with_reducible exact ih0 _ _ _ _ _)
  |(with_reducible exact ih1 _ _ _ _ _ _)
  |(with_reducible exact law12_Make.mono _ _)
  |(with_reducible exact law15_Step.mono _ _ _ _)
  |(with_reducible exact law19_awake.mono _)
  |(with_reducible exact r10_Right.mono _ _)
  |(with_reducible exact r10_SameItems.mono _ _ _)
  |(with_reducible exact r10_Trial.mono _ _ _)
  |(with_reducible exact r10_Would.mono _ _ _ _ _ _ _)
  |(with_reducible exact trial_Steps.mono _ _ _)
  |(with_reducible exact trial_Would.mono _ _ _ _ _ _ _)
  |(with_reducible exact LeO.refl _)
  |(with_reducible exact LeO.none _)
  |(with_reducible refine LeO.ite ?_ ?_)
  |(with_reducible refine LeO.bind ?_ (fun _=> ?_))
  |exact ih0 _ _ _ _ _
  |exact ih1 _ _ _ _ _ _
  |exact law12_Make.mono _ _
  |exact law15_Step.mono _ _ _ _
  |exact law19_awake.mono _
  |exact r10_Right.mono _ _
  |exact r10_SameItems.mono _ _ _
  |exact r10_Trial.mono _ _ _
  |exact r10_Would.mono _ _ _ _ _ _ _
  |exact trial_Steps.mono _ _ _
  |exact trial_Would.mono _ _ _ _ _ _ _
  |exact LeO.none _
  |refine LeO.ite ?_ ?_
  |refine LeO.bind ?_ (fun _=> ?_)
theorem law19_TrialMade.mono: ∀a0 a1 a2 a3 k,LeO (law19_TrialMade.f k a0 a1 a2 a3) (law19_TrialMade.f (k+1) a0 a1 a2 a3):=by
 intro a0 a1 a2 a3 k
 obtain ⟨ih0,ih1⟩:=law19_TrialMade.mono_l k
 unfold law19_TrialMade.f
 repeat' first
  |(with_reducible exact ih0 _ _ _ _ _)
  |(with_reducible exact ih1 _ _ _ _ _ _)
  |(with_reducible exact law12_Make.mono _ _)
  |(with_reducible exact law15_Step.mono _ _ _ _)
  |(with_reducible exact law19_awake.mono _)
  |(with_reducible exact r10_Right.mono _ _)
  |(with_reducible exact r10_SameItems.mono _ _ _)
  |(with_reducible exact r10_Trial.mono _ _ _)
  |(with_reducible exact r10_Would.mono _ _ _ _ _ _ _)
  |(with_reducible exact trial_Steps.mono _ _ _)
  |(with_reducible exact trial_Would.mono _ _ _ _ _ _ _)
  |(with_reducible exact LeO.refl _)
  |(with_reducible exact LeO.none _)
  |(with_reducible refine LeO.ite ?_ ?_)
  |(with_reducible refine LeO.bind ?_ (fun _=> ?_))
  |exact ih0 _ _ _ _ _
  |exact ih1 _ _ _ _ _ _
  |exact law12_Make.mono _ _
  |exact law15_Step.mono _ _ _ _
  |exact law19_awake.mono _
  |exact r10_Right.mono _ _
  |exact r10_SameItems.mono _ _ _
  |exact r10_Trial.mono _ _ _
  |exact r10_Would.mono _ _ _ _ _ _ _
  |exact trial_Steps.mono _ _ _
  |exact trial_Would.mono _ _ _ _ _ _ _
  |exact LeO.none _
  |refine LeO.ite ?_ ?_
  |refine LeO.bind ?_ (fun _=> ?_)
def law19_TrialMade.T8:Bool×List (List Nat×List Nat):=(true,[([],[]),([],[]),([],[]),([1,2],[1,2]),([3],[3]),([],[]),([],[]),([6],[6]),([5,7],[5,7]),([8],[8]),([],[]),([],[]),([11],[11]),([10,12],[10,12]),([13],[13]),([4,9,14],[4,9,14]),([15],[15]),([0,16,15],[0,16]),([17,17,0,1,2,3,4,5,6,7,8,9,10,11,12,13,14,15,16,17],[0,17])])
def law19_TrialMade.B8:List Nat:=[0,0,0,6,14,0,0,64,224,480,0,0,2048,7168,15360,32766,65534,131071,262143]
theorem law19_TrialMade.tab8:rtab .any (opsOf Try.f30 8)=law19_TrialMade.T8:=by kernel_rfl
theorem law19_TrialMade.bits8:waitsOk law19_TrialMade.T8.2 law19_TrialMade.B8=true:=by kernel_rfl
def law19_TrialMade.T14:Bool×List (List Nat×List Nat):=(true,[([],[]),([0],[0]),([],[]),([2],[2]),([1,3],[1,3]),([4,4],[4]),([5],[5]),([6,5],[5,6]),([5],[5]),([8,5],[5,8]),([7,9,5],[5,7,9]),([5,10],[5,10]),([11,5],[11]),([12],[12]),([13,12],[12,13]),([14,12,12],[12,14]),([12],[12]),([16,12],[12,16]),([15,17,12],[12,15,17]),([12,18],[12,18]),([19,15],[19]),([20],[20]),([21,20],[20,21]),([22,20,20],[20,22]),([20,23],[20,23]),([24,23],[24]),([25],[25]),([25],[25]),([26,27,25],[25,26,27]),([25,28],[25,28]),([29,25],[29]),([30],[30]),([30],[30]),([31,32,30],[30,31,32]),([30,33],[30,33]),([34,30],[34]),([35,35],[35]),([35,36],[35,36]),([37,36,0,1,2,3,4,5,6,7,8,9,10,11,12,13,14,15,16,17,18,19,20,21,22,23,24,25,26,27,28,29,30,31,32,33,34,35,36,37],[37])])
def law19_TrialMade.B14:List Nat:=[0,1,0,4,15,31,63,127,63,319,1023,2047,4095,8191,16383,32767,8191,73727,262143,524287,1048575,2097151,4194303,8388607,16777215,33554431,67108863,67108863,268435455,536870911,1073741823,2147483647,2147483647,8589934591,17179869183,34359738367,68719476735,137438953471,274877906943]
theorem law19_TrialMade.tab14:rtab .any (opsOf Try.f30 14)=law19_TrialMade.T14:=by kernel_rfl
theorem law19_TrialMade.bits14:waitsOk law19_TrialMade.T14.2 law19_TrialMade.B14=true:=by kernel_rfl
set_option maxHeartbeats 80000000 in
set_option maxRecDepth 100000 in
theorem law19_TrialMade.calls (k:Nat) (A0:Option Addr) (c0:Nat) (l0:List Int) (A1:Option Addr) (c1:Nat) (l1:List Int) (a2:Int) (a3:Int) (r:Bool) (w:World) (hr0:Kd.C (Kd.int .u8) w A0 l0.length l0) (hc0:l0.length≤c0) (hr1:Kd.C (Kd.int .u8) w A1 l1.length l1) (hc1:l1.length≤c1) (h:law19_TrialMade.f k l0 l1 a2 a3=some r):
  Calls Try.prog 30 #[.slice A0 l0.length c0, .slice A1 l1.length c1, .int .u8 a2, .int .u8 a3] w fun e w'=>e= .returned (.bool r)∧Below w.heap.size w w':=by
 have HR0:=Aside0.mk hr0
 have HC0:=Aside0.mk hc0
 clear hr0 hc0
 have HR1:=Aside0.mk hr1
 clear hr1 hc1
 have HB:=am_ (Below.refl w.heap.size w)
 have H:(if (l0.length:Int)>60 then (law19_TrialMade.j0 k l0 l1 a2 a3 true) else (law19_TrialMade.j0 k l0 l1 a2 a3 (decide ((l1.length:Int)>60))))=some r:=h
 clear h
 have HC5:=Aside0.mk H
 clear H
 go_enter Try.func30,Try.ntmps30
 go_upto_region 1 with (fail)
 go_cut [26] (fun v26 wc=> ∃(kq:Nat) (x26_4:Bool),v26= .bool x26_4∧Aside0 (law19_TrialMade.j0 kq l0 l1 a2 a3 x26_4=some r)∧Aside0 (kq≤k)∧Aside0 (Below w.heap.size w wc))
 case first=>
  have H:=HC5.out
  clear HC5
  by_cases c6:(l0.length:Int)>60
  ·rw [if_pos c6] at H
   have c6b0:decide (60<(l0.length:Int))=true:=decide_eq_true c6
   clear c6
   (first|rw [c6b0]|(simp only [i64_w,i32_w];rw [c6b0])|skip)
   have H':=Aside0.mk H
   clear H
   go_wp2
   go_meet
   case rel=>exact ⟨_,(true),(by first|rfl|(simp;done)|(simp [*];done)),H',⟨by first|omega|exact Nat.le_refl _⟩,⟨zl0_ HB⟩⟩
  rw [if_neg c6] at H
  have c6b0:decide (60<(l0.length:Int))=false:=decide_eq_false c6
  clear c6
  (first|rw [c6b0]|(simp only [i64_w,i32_w];rw [c6b0])|skip)
  have H':=Aside0.mk H
  clear H
  go_wp2
  go_meet
  case rel=>exact ⟨_,(decide ((l1.length:Int)>60)),(by first|rfl|(simp;done)|(simp [*];done)),H',⟨by first|omega|exact Nat.le_refl _⟩,⟨zl0_ HB⟩⟩
 case rest=>
  clear HC5
  try clear c1
  try clear p2
  try clear c3
  try clear c6
  try clear c6b0
  obtain ⟨kq,x26_4,rfl,HA,HJ4,HB⟩:=hcut
  cases kq with
  |zero=>exact absurd HA.out (by simp [law19_TrialMade.j0])
  |succ kj4=>
   have H:=HA.out
   clear HA
   simp only [law19_TrialMade.j0] at H
   by_cases c7:x26_4=true
   ·subst c7
    have H1:((law19_awake.f kj4).bind fun t1=>(some t1))=some r:=by rw [if_pos rfl] at H;exact H
    clear H
    have H:=H1
    clear H1
    replace H:=Option.bind_eq_some_iff.mp H
    obtain ⟨t1,A80,H⟩:=H
    try dsimp only at H
    have A8:=Aside0.mk A80
    clear A80
    obtain rfl:=Option.some.inj H
    go_wp2_with (first|((with_reducible refine gate_callee (f:=94) rfl ?_);refine gl_ (some 27) Try.func94 #[] ?_;(with_reducible refine (law19_awake.calls kj4 t1 _ A8.out).mono ?_);rintro e w9 ⟨rfl,hb⟩;refine ⟨_,rfl, ?_⟩;replace HB:=am_ (below_step (zl0_ HB) hb);(try clear hb);(try clear hb2);(try clear hk);(try clear hi)))
    go_ret
    exact ⟨by first|rfl|(simp [errW_none,errW_some]<;>rfl)|(simp [*,errW_none,errW_some]<;>rfl),zl0_ HB⟩
   replace c7:=Bool.eq_false_iff.mpr c7
   subst c7
   have H1:((law12_Make.f kj4 l0).bind fun t2=>(law19_TrialMade.l0 kj4 l1 a2 a3 t2 ([]:List (S58)) 0))=some r:=by rw [if_neg (show¬(false=true) by decide)] at H;exact H
   clear H
   have H:=H1
   clear H1
   replace H:=Option.bind_eq_some_iff.mp H
   obtain ⟨t2,A100,H⟩:=H
   try dsimp only at H
   have A10:=Aside0.mk A100
   clear A100
   have H':=Aside0.mk H
   clear H
   go_wp2_with (first|((with_reducible refine gate_callee (f:=32) rfl ?_);refine gl_ (some 29) Try.func32 #[.slice A0 l0.length c0] ?_;(with_reducible refine (law12_Make.calls kj4 _ _ l0 t2 _ ?side1 ?side2 A10.out).mono ?_);(case side1=>exact zc_ (Kd.C_below HR0.out HB.out));(case side2=>exact HC0.out);rintro e w11 ⟨v3,rfl,ho0,hb⟩;refine ⟨_,rfl, ?_⟩;have HO4:=am_ (Kd.R_lower ho0 (below_size (zl0_ HB)));replace HB:=am_ (below_step (zl0_ HB) hb);(try clear hb);(try clear hb2);(try clear hk);(try clear hi);(try clear ho0)))
   go_loopg [10,11] kj4 (fun kq v10 v11 w'=> ∃(x10_2:List (S58)) (x11_2:Int),v11= .int .i64 x11_2∧Aside0 (law19_TrialMade.l0 kq l1 a2 a3 t2 x10_2 x11_2=some r)∧Aside0 (kq≤kj4)∧Aside0 (Kd.R k31 31 w' w.heap.size (fun _=>True) v3 t2)∧Aside0 (Kd.R k58 58 w' w.heap.size (fun _=>True) v10 x10_2)∧Aside0 (Below w.heap.size w w'))
   case atStart=>exact ⟨(([]:List (S58))),(0),(by first|rfl|(simp;done)|(simp [*];done)),H',⟨Nat.le_refl _⟩,⟨by (with_reducible repeat (first|apply Kd.R_alloc|apply Kd.R_drewN|apply Kd.R_drew));exact HO4.out⟩,⟨by first|exact Kd.R_nil _ _ _ _ _|exact Kd.N_nil _ _ _ _ _|exact Kd.V_nil _ _ _ _ _|exact Kd.Q_nil _ _ _ _ _|exact Kd.S_nil _ _ _ _ _⟩,⟨zl0_ HB⟩⟩
   case round=>
    clear H'
    try clear c1
    try clear p2
    try clear c3
    try clear c6
    try clear c6b0
    try clear c7
    try clear c9
    try clear p2
    obtain ⟨x10_2,x11_2,rfl,HA,HK2,HO_9,HO_10,HB⟩:=hrel
    cases gk with
    |zero=>exact absurd HA.out (by simp [law19_TrialMade.l0])
    |succ k2=>
     have H:=HA.out
     clear HA
     simp only [law19_TrialMade.l0] at H
     by_cases c12:(wrap64 (x11_2+2))<(l1.length:Int)
     ·rw [if_pos c12] at H
      have c12b0:decide ((wrap64 (x11_2+2))<(l1.length:Int))=true:=decide_eq_true c12
      clear c12
      by_cases c13:0≤x11_2
      rotate_left
      ·rw [if_neg c13] at H
       exact absurd H (by simp)
      rw [if_pos c13] at H
      have c13b0:decide (0≤x11_2)=true:=decide_eq_true c13
      clear c13
      by_cases c14:x11_2<(l1.length:Int)
      rotate_left
      ·rw [if_neg c14] at H
       exact absurd H (by simp)
      rw [if_pos c14] at H
      have c14b0:decide (x11_2<(l1.length:Int))=true:=decide_eq_true c14
      clear c14
      obtain ⟨ji15,hji15⟩: ∃j_:Int,(wrap64 (x11_2+1))=j_:=⟨_,rfl⟩
      replace H:(if 0≤(ji15) then (if (ji15)<(l1.length:Int) then (if 0≤(wrap64 (x11_2+2)) then ((law15_Step.f k2 (rd l1 x11_2) (rd l1 (ji15)) (rd l1 (wrap64 (x11_2+2)))).bind fun bt8=>(if x10_2.length<2199023255552 then (law19_TrialMade.l0 k2 l1 a2 a3 t2 (x10_2++ [(⟨bt8.1,bt8.2.1,bt8.2.2.1,(⟨bt8.2.2.2.1,bt8.2.2.2.2.1,bt8.2.2.2.2.2⟩:S27)⟩:S58)]) (wrap64 (x11_2+3))) else (none))) else (none)) else (none)) else (none))=some r:=by first|(rw [hji15] at H;exact H)|(simp only [hji15] at H ⊢;exact H)
      have hji15w:(IntKind.i64.wrap (x11_2+1))=ji15:=(i64_w _).trans hji15
      by_cases c16:0≤(ji15)
      rotate_left
      ·rw [if_neg c16] at H
       cases H
      rw [if_pos c16] at H
      have c16b0:decide (0≤(ji15))=true:=decide_eq_true c16
      clear c16
      by_cases c17:(ji15)<(l1.length:Int)
      rotate_left
      ·rw [if_neg c17] at H
       cases H
      rw [if_pos c17] at H
      have c17b0:decide ((ji15)<(l1.length:Int))=true:=decide_eq_true c17
      clear c17
      obtain ⟨ji18,hji18⟩: ∃j_:Int,(wrap64 (x11_2+2))=j_:=⟨_,rfl⟩
      replace H:(if 0≤(ji18) then ((law15_Step.f k2 (rd l1 x11_2) (rd l1 (ji15)) (rd l1 (ji18))).bind fun bt8=>(if x10_2.length<2199023255552 then (law19_TrialMade.l0 k2 l1 a2 a3 t2 (x10_2++ [(⟨bt8.1,bt8.2.1,bt8.2.2.1,(⟨bt8.2.2.2.1,bt8.2.2.2.2.1,bt8.2.2.2.2.2⟩:S27)⟩:S58)]) (wrap64 (x11_2+3))) else (none))) else (none))=some r:=by first|(rw [hji18] at H;exact H)|(simp only [hji18] at H ⊢;exact H)
      (try rw [hji18] at c12b0)
      have hji18w:(IntKind.i64.wrap (x11_2+2))=ji18:=(i64_w _).trans hji18
      by_cases c19:0≤(ji18)
      rotate_left
      ·rw [if_neg c19] at H
       cases H
      rw [if_pos c19] at H
      have c19b0:decide (0≤(ji18))=true:=decide_eq_true c19
      clear c19
      replace H:=Option.bind_eq_some_iff.mp H
      obtain ⟨⟨t8,t9,t10,t11,t12,t13⟩,A200,H⟩:=H
      try dsimp only at H
      have A20:=Aside0.mk A200
      clear A200
      by_cases c21:x10_2.length<2199023255552
      rotate_left
      ·rw [if_neg c21] at H
       cases H
      rw [if_pos c21] at H
      have LMc21:=Aside0.mk c21
      clear c21
      obtain ⟨y14,hy14⟩: ∃y_:List (S58),y_=(x10_2++ [(⟨t8,t9,t10,(⟨t11,t12,t13⟩:S27)⟩:S58)]):=⟨_,rfl⟩
      replace H:(law19_TrialMade.l0 k2 l1 a2 a3 t2 y14 (wrap64 (x11_2+3)))=some r:=by first|(rw [hy14];with_reducible exact H)|(have H2_:=(Option.bind_some _ _).symm.trans H;rw [hy14];with_reducible exact H2_)|(have H2_:=(Option.bind_some _ _).symm.trans H;with_reducible exact H2_)|with_reducible exact H|(rw [hy14];exact H)|exact H
      have Ny14:=Aside0.mk hy14
      clear hy14
      have H':=Aside0.mk H
      clear H
      try go_wp2
      replace HO_9:=am_ (Kd.R_drew HO_9.out)
      replace HO_10:=am_ (Kd.R_drew HO_10.out)
      replace HB:=am_ (below_drew1 HB.out)
      have p5:0≤(x11_2:Int):=of_decide_eq_true zq_
      have q5:x11_2<(l1.length:Int):=of_decide_eq_true zq_
      obtain ⟨ad5,e5,hx5_0⟩:=Kd.at_int HR1.out x11_2 p5 q5
      have hw5_0:=hx5_0
      cases e5
      replace hx5_0:=zx_ HB hx5_0
      replace p5:=eq_true p5
      replace q5:=eq_true q5
      have p6:0≤((ji15):Int):=of_decide_eq_true zq_
      have q6:(ji15)<(l1.length:Int):=of_decide_eq_true zq_
      obtain ⟨ad6,e6,hx6_0⟩:=Kd.at_int HR1.out (ji15) p6 q6
      have hw6_0:=hx6_0
      obtain rfl:ad5=ad6:=(by injection e6)
      replace hx6_0:=zx_ HB hx6_0
      replace p6:=eq_true p6
      replace q6:=eq_true q6
      have p7:0≤((ji18):Int):=of_decide_eq_true zq_
      have q7:(ji18)<(l1.length:Int):=of_decide_eq_true zq_
      obtain ⟨ad7,e7,hx7_0⟩:=Kd.at_int HR1.out (ji18) p7 q7
      have hw7_0:=hx7_0
      obtain rfl:ad5=ad7:=(by injection e7)
      replace hx7_0:=zx_ HB hx7_0
      replace p7:=eq_true p7
      replace q7:=eq_true q7
      refine start_ (n:=19) (S:=fun w'=>w'.cell? (ad5.add (x11_2).toNat)=some (.int .u8 (rd l1 x11_2))∧w'.cell? (ad5.add ((ji15)).toNat)=some (.int .u8 (rd l1 (ji15)))∧w'.cell? (ad5.add ((ji18)).toNat)=some (.int .u8 (rd l1 (ji18)))) (ds:=[]) (bt_ 19 0) (by kernel_rfl) rfl rfl ⟨(zx_ HB hw5_0),(zx_ HB hw6_0),(zx_ HB hw7_0)⟩ (fun hHeld=> ?_);refine with_tabW law19_TrialMade.tab8 law19_TrialMade.bits8 (fun HT_ HW_=> ?_)
      generalize wr.drew=w22 at HO_9 HO_10 HB hx5_0 hx6_0 hx7_0 hHeld ⊢
      refine pu_ (i:=0) (N:=some 37) (bt_ 19 1) HT_ ?_
      refine pu_ (i:=1) (N:=some 38) (bt_ 19 3) HT_ ?_
      refine pu_ (i:=2) (N:=some 39) (bt_ 19 7) HT_ ?_
      refine pu_ (i:=3) (N:=some 40) (bt_ 19 15) HT_ ?_
      refine pu_ (i:=5) (N:=some 42) (bt_ 19 47) HT_ ?_
      refine pu_ (i:=6) (N:=some 43) (bt_ 19 111) HT_ ?_
      refine pu_ (i:=7) (N:=some 44) (bt_ 19 239) HT_ ?_
      refine pu_ (i:=8) (N:=some 45) (bt_ 19 495) HT_ ?_
      refine pu_ (i:=10) (N:=some 47) (bt_ 19 1519) HT_ ?_
      refine pu_ (i:=11) (N:=some 48) (bt_ 19 3567) HT_ ?_
      refine pu_ (i:=12) (N:=some 49) (bt_ 19 7663) HT_ ?_
      refine pu_ (i:=13) (N:=some 50) (bt_ 19 15855) HT_ ?_
      refine tk_ (i:=4) (N:=some 41) (bt_ 19 15871) HT_ HW_ hHeld ?_
      refine tk_ (i:=9) (N:=some 46) (bt_ 19 16383) HT_ HW_ hHeld ?_
      refine tk_ (i:=14) (N:=some 51) (bt_ 19 32767) HT_ HW_ hHeld ?_
      refine on_ (i:=15) (N:=some 52) (bt_ 19 65535) HT_ (fun K hK=> ?_)
      refine goes_ Try.func57 (by kernel_rfl) rfl #[.int .u8 (rd l1 x11_2), .int .u8 (rd l1 (ji15)), .int .u8 (rd l1 (ji18))] (by rfl) rfl rfl (by (try simp only [List.map_toArray,List.map_cons,List.map_nil]);first|done|(simp only [hji15,hji18];rfl)|rfl|(simp only [List.length_drop,List.length_take];rfl)) ?_
      with_reducible refine (law15_Step.calls k2 (rd l1 x11_2) (rd l1 (ji15)) (rd l1 (ji18)) t8 t9 t10 t11 t12 t13 _ A20.out).mono ?_
      rintro e w23 ⟨rfl,hb⟩
      refine ⟨_,rfl, ?_⟩
      replace HO_9:=am_ (Kd.R_below (zr_ HO_9) hb)
      replace HO_10:=am_ (Kd.R_below (zr_ HO_10) hb)
      replace HB:=am_ (below_step (zl0_ HB) hb)
      (try clear hb)
      (try clear hb2)
      (try clear hk)
      (try clear hi)
      refine hK.out _ _ ⟨(zx_ HB hw5_0),(zx_ HB hw6_0),(zx_ HB hw7_0)⟩ (fun hHeld=> ?_)
      clear hK K
      refine no_ (N:=some 52) ?_
      refine on_ (i:=16) (N:=some 53) (bt_ 19 131071) HT_ (fun K hK=> ?_)
      refine value_ (w1:= ?_) (v:= ?_) (by rfl) rfl ?_ ?_
      rotate_left 2
      ·go_simp
       constructor
       ·rfl
       rfl
      refine hK.out _ _ ⟨(World.cell?_alloc_lt _ _ _ (World.block_lt_of_cell? _ _ ((zx_ HB hw5_0)))).trans ((zx_ HB hw5_0)),(World.cell?_alloc_lt _ _ _ (World.block_lt_of_cell? _ _ ((zx_ HB hw6_0)))).trans ((zx_ HB hw6_0)),(World.cell?_alloc_lt _ _ _ (World.block_lt_of_cell? _ _ ((zx_ HB hw7_0)))).trans ((zx_ HB hw7_0))⟩ (fun hHeld=> ?_)
      clear hK K
      refine no_ (N:=some 53) ?_
      refine on_ (i:=17) (N:=some 54) (bt_ 19 262143) HT_ (fun K hK=> ?_)
      refine Kd.R_append_step k58 (w0:=w) w.heap.size (by rfl) (.tmp 37) (.tmp 53) 40 58 (.agg #[(.int .i64 0),(.string ⟨#[]⟩),(.string ⟨#[]⟩),(.int .i64 0),(.int .i64 0),(.int .i64 0)]) 64 rfl Try.underlying40 info58 rfl (by decide) (by omega) u10 x10_2 (⟨t8,t9,t10,(⟨t11,t12,t13⟩:S27)⟩:S58) [.int .i64 t8, .string t9, .string t10, .int .i64 t11, .int .i64 t12, .int .i64 t13] (fun _=>True) (fun _=>False) rfl rfl ?aP (fun _ hk=>hk.elim) ?aF ?aO ?aB ?aS ?aL ?_
      (case aP=>exact k58_mkM _ _ _ (⟨t8,t9,t10,(⟨t11,t12,t13⟩:S27)⟩:S58))
      (case aB=>exact (zl0_ HB))
      (case aF=>exact (fun _ _=>trivial))
      (case aO=>exact (zr_ HO_10))
      (case aS=>exact (below_size (zl0_ HB)))
      (case aL=>have:=LMc21.out;omega)
      intro v15 w24 ho hb hg hat
      rw [←Ny14.out] at ho
      have n0_:=am_ (Kd.R_over' (zr_ HO_9) (Kd.R_typed (zr_ HO_10)) (by decide) hg)
      have n1_:=am_ (hb)
      have n2_:=am_ (ho)
      clear HO_9
      clear HB
      clear HO_10
      have HO_9:=n0_
      have HB:=n1_
      have HO16:=n2_
      clear n0_ n1_ n2_
      clear ho hb hg hat
      refine hK.out _ _ ⟨(zx_ HB hw5_0),(zx_ HB hw6_0),(zx_ HB hw7_0)⟩ (fun hHeld=> ?_)
      clear hK K
      refine no_ (N:=some 54) ?_
      refine pu_ (i:=18) (N:=some 10) (bt_ 19 524287) HT_ ?_
      refine done_ (done_of HT_.out (by kernel_rfl)) ?_
      try go_wp2
      go_roundg k2
      case measure=>have:=HJ4.out;have:=HK2.out;omega
      case rel=>exact ⟨(y14),(wrap64 (x11_2+3)),(by first|rfl|(simp;done)|(simp [*];done)),H',⟨by have:=HJ4.out;have:=HK2.out;omega⟩,⟨by (with_reducible repeat (first|apply Kd.R_alloc|apply Kd.R_drewN|apply Kd.R_drew));exact HO_9.out⟩,⟨by (with_reducible repeat (first|apply Kd.R_alloc|apply Kd.R_drewN|apply Kd.R_drew));exact HO16.out⟩,⟨zl0_ HB⟩⟩
     rw [if_neg c12] at H
     have c12b0:decide ((wrap64 (x11_2+2))<(l1.length:Int))=false:=decide_eq_false c12
     clear c12
     replace H:=Option.bind_eq_some_iff.mp H
     obtain ⟨⟨t17,t20,t21⟩,A250,H⟩:=H
     try dsimp only at H
     have A25:=Aside0.mk A250
     clear A250
     replace H:=Option.bind_eq_some_iff.mp H
     obtain ⟨⟨t23,t26,t27⟩,A260,H⟩:=H
     try dsimp only at H
     have A26:=Aside0.mk A260
     clear A260
     obtain ⟨y29,hy29⟩: ∃y_:List Int,y_=(([(97+(Int.tmod a2 25)) % 256]:List Int)):=⟨_,rfl⟩
     replace H:((trial_Would.f k2 t2 (strOfNums y29) (wrap64 (a3)) 0 0 x10_2).bind fun bt32=>((r10_Would.f k2 t2 (strOfNums y29) (wrap64 (a3)) 0 0 x10_2).bind fun bt34=>((r10_SameItems.f k2 t17 t23).bind fun t36=>(if t36=true then (if t20=t26 then ((law1_Num.f t21).bind fun t37=>(if t37=t27 then ((r10_Right.f k2 t17).bind fun t38=>(if t38=true then (if (bt32.1==bt34.1)=true then (if (bt32.2==bt34.2)=true then ((law19_awake.f k2).bind fun t39=>(some t39)) else (none)) else (none)) else (none))) else (none))) else (none)) else (none)))))=some r:=by first|(rw [hy29];with_reducible exact H)|(have H2_:=(Option.bind_some _ _).symm.trans H;rw [hy29];with_reducible exact H2_)|(have H2_:=(Option.bind_some _ _).symm.trans H;with_reducible exact H2_)|with_reducible exact H|(rw [hy29];exact H)|exact H
     have Ny29:=Aside0.mk hy29
     clear hy29
     replace H:=Option.bind_eq_some_iff.mp H
     obtain ⟨⟨t32,t33⟩,A270,H⟩:=H
     try dsimp only at H
     have A27:=Aside0.mk A270
     clear A270
     replace H:=Option.bind_eq_some_iff.mp H
     obtain ⟨⟨t34,t35⟩,A280,H⟩:=H
     try dsimp only at H
     have A28:=Aside0.mk A280
     clear A280
     replace H:=Option.bind_eq_some_iff.mp H
     obtain ⟨t36,A290,H⟩:=H
     try dsimp only at H
     have A29:=Aside0.mk A290
     clear A290
     by_cases c30:t36=true
     rotate_left
     ·replace c30:=Bool.eq_false_iff.mpr c30
      subst c30
      have H1:(none)=some r:=by rw [if_neg (show¬(false=true) by decide)] at H;exact H
      cases H1

     subst c30
     have H1:(if t20=t26 then ((law1_Num.f t21).bind fun t37=>(if t37=t27 then ((r10_Right.f k2 t17).bind fun t38=>(if t38=true then (if (t32==t34)=true then (if (t33==t35)=true then ((law19_awake.f k2).bind fun t39=>(some t39)) else (none)) else (none)) else (none))) else (none))) else (none))=some r:=by rw [if_pos rfl] at H;exact H
     clear H
     have H:=H1
     clear H1
     by_cases c31:t20=t26
     rotate_left
     ·rw [if_neg c31] at H
      cases H
     rw [if_pos c31] at H
     have c31b0:(t20==t26)=true:=beq_iff_eq.mpr c31
     clear c31
     replace H:=Option.bind_eq_some_iff.mp H
     obtain ⟨t37,A320,H⟩:=H
     try dsimp only at H
     have A32:=Aside0.mk A320
     clear A320
     by_cases c33:t37=t27
     rotate_left
     ·rw [if_neg c33] at H
      cases H
     rw [if_pos c33] at H
     have c33b0:(t37==t27)=true:=beq_iff_eq.mpr c33
     clear c33
     replace H:=Option.bind_eq_some_iff.mp H
     obtain ⟨t38,A340,H⟩:=H
     try dsimp only at H
     have A34:=Aside0.mk A340
     clear A340
     by_cases c35:t38=true
     rotate_left
     ·replace c35:=Bool.eq_false_iff.mpr c35
      subst c35
      have H1:(none)=some r:=by rw [if_neg (show¬(false=true) by decide)] at H;exact H
      cases H1
     subst c35
     have H1:(if (t32==t34)=true then (if (t33==t35)=true then ((law19_awake.f k2).bind fun t39=>(some t39)) else (none)) else (none))=some r:=by rw [if_pos rfl] at H;exact H
     clear H
     have H:=H1
     clear H1
     by_cases c36:(t32==t34)=true
     rotate_left
     ·rw [if_neg c36] at H
      cases H
     rw [if_pos c36] at H
     have c36b0:(t32==t34)=true:=c36
     (try skip)
     (try skip)
     clear c36
     by_cases c37:(t33==t35)=true
     rotate_left
     ·rw [if_neg c37] at H
      cases H
     rw [if_pos c37] at H
     have c37b0:(t33==t35)=true:=c37
     (try skip)
     (try skip)
     clear c37
     replace H:=Option.bind_eq_some_iff.mp H
     obtain ⟨t39,A380,H⟩:=H
     try dsimp only at H
     have A38:=Aside0.mk A380
     clear A380
     obtain rfl:=Option.some.inj H
     obtain ⟨Ao39,co39,eo39⟩:=Kd.R_slice HO_9.out
     subst eo39
     obtain ⟨Ao40,co40,eo40⟩:=Kd.R_slice HO_10.out
     subst eo40
     try go_wp2_with (first|((with_reducible refine gate_callee (f:=99) rfl ?_);refine gl_ (some 57) Try.func99 #[.slice Ao39 t2.length co39, .slice Ao40 x10_2.length co40] ?_;(with_reducible refine (trial_Steps.calls k2 _ _ t2 _ _ x10_2 t17 t20 t21 _ ?side1 ?side2 ?side3 ?side4 A25.out).mono ?_);(case side1=>exact zc_ (Kd.R_reads' HO_9.out).2.2);(case side2=>exact (Kd.R_reads' HO_9.out).2.1);(case side3=>exact zc_ (Kd.R_reads' HO_10.out).2.2);(case side4=>exact (Kd.R_reads' HO_10.out).2.1);rintro e w41 ⟨v18,rfl,ho0,hb⟩;refine ⟨_,rfl, ?_⟩;replace HO_10:=am_ (Kd.R_below (zr_ HO_10) hb);have HO19:=am_ (Kd.R_lower (Kd.R_new' ho0 (Kd.R_lt (zr_ HO_9))) (below_size (zl0_ HB)));replace HO_9:=am_ (Kd.R_elder' (zr_ HO_9) (Kd.R_base ho0) hb);replace HB:=am_ (below_step (zl0_ HB) hb);(try clear hb);(try clear hb2);(try clear hk);(try clear hi);(try clear ho0))|((with_reducible refine gate_dst (N:=12) rfl ?_);(try (refine gate_guard (by rfl) ?_;dsimp only));refine bx_ (N:=12) (cs:=#[.slice none 0 0, .int .i64 0, .int .i64 0]) (t:=113) ?_;intro gb22 hg w42 hbox hb;have n0_:=am_ (Kd.R_below (zr_ HO_9) hb);have n1_:=am_ (Kd.R_below (zr_ HO_10) hb);have n2_:=am_ (Kd.R_below (zr_ HO19) hb);have n3_:=am_ (below_step (zl0_ HB) hb);have n4_:=am_ (hbox);have n5_:=am_ ((zg0_ HB hg:w.heap.size≤gb22));have n6_:=am_ ((zg0_ HB hg:w.heap.size≤gb22));clear HO_9;clear HO_10;clear HO19;clear HB;have HO_9:=n0_;have HO_10:=n1_;have HO19:=n2_;have HB:=n3_;have BK22:=n4_;have GE22:=n6_;clear n0_ n1_ n2_ n3_ n4_ n5_ n6_;clear hb hbox hg;obtain ⟨Ao43,co43,eo43⟩:=Kd.R_slice HO19.out;subst eo43;obtain ⟨hcz44_0,hcz44_1,hcz44_2⟩:=x3_ BK22;have hfz44_0:=blk_frozen BK22.out 0;have hfz44_1:=blk_frozen BK22.out 1;have hfz44_2:=blk_frozen BK22.out 2)|((with_reducible refine gate_callee (f:=100) rfl ?_);refine gl_ (some 60) Try.func100 #[.slice Ao39 t2.length co39, .slice Ao40 x10_2.length co40] ?_;(with_reducible refine (r10_Trial.calls k2 _ _ t2 _ _ x10_2 t23 t26 t27 _ ?side1 ?side2 ?side3 ?side4 A26.out).mono ?_);(case side1=>refine (Kd.R_reads' (e:=31) (base:=w.heap.size) (ok:=fun k_=>(True∧some k_≠(.slice Ao43 t17.length co43:Value).ownBlock)) (n:=t2.length) (c:=co39) ?_).2.2;exact (by refine zt_ ?_;exact (Kd.R_mono (Kd.R_far (p:=⟨gb22,2,none⟩) (Kd.R_far (p:=⟨gb22,1,none⟩) (Kd.R_far (p:=⟨gb22,0,none⟩) (Kd.R_types HO_9.out BK22.out (by decide)) (fun _ hk=>hk.2) (.slice Ao43 t17.length co43)) (fun _ hk=>hk.2) (.int .i64 t20)) (fun _ hk=>hk.2) (.int .i64 t21)) (fun _ h_=>h_.1))));(case side2=>exact (Kd.R_reads' HO_9.out).2.1);(case side3=>refine (Kd.R_reads' (e:=58) (base:=w.heap.size) (ok:=fun k_=>True) (n:=x10_2.length) (c:=co40) ?_).2.2;exact (by refine zt_ ?_;exact (Kd.R_mono (Kd.R_far (p:=⟨gb22,2,none⟩) (Kd.R_far (p:=⟨gb22,1,none⟩) (Kd.R_far (p:=⟨gb22,0,none⟩) (Kd.R_types HO_10.out BK22.out (by decide)) (fun _ hk=>hk.2) (.slice Ao43 t17.length co43)) (fun _ hk=>hk.2) (.int .i64 t20)) (fun _ hk=>hk.2) (.int .i64 t21)) (fun _ h_=>h_.1))));(case side4=>exact (Kd.R_reads' HO_10.out).2.1);rintro e w45 ⟨v24,rfl,ho0,hb⟩;refine ⟨_,rfl, ?_⟩;replace HO_10:=am_ (Kd.R_below (by refine zt_ ?_;exact (Kd.R_mono (Kd.R_far (p:=⟨gb22,2,none⟩) (Kd.R_far (p:=⟨gb22,1,none⟩) (Kd.R_far (p:=⟨gb22,0,none⟩) (Kd.R_types HO_10.out BK22.out (by decide)) (fun _ hk=>hk.2) (.slice Ao43 t17.length co43)) (fun _ hk=>hk.2) (.int .i64 t20)) (fun _ hk=>hk.2) (.int .i64 t21)) (fun _ h_=>h_.1))) hb);have HO25:=am_ (Kd.R_lower (Kd.R_new' (Kd.R_new' ho0 (Kd.R_lt (by refine zt_ ?_;exact (Kd.R_mono (Kd.R_far (p:=⟨gb22,2,none⟩) (Kd.R_far (p:=⟨gb22,1,none⟩) (Kd.R_far (p:=⟨gb22,0,none⟩) (Kd.R_types HO_9.out BK22.out (by decide)) (fun _ hk=>hk.2) (.slice Ao43 t17.length co43)) (fun _ hk=>hk.2) (.int .i64 t20)) (fun _ hk=>hk.2) (.int .i64 t21)) (fun _ h_=>h_.1))))) (Kd.R_lt (by refine zt_ ?_;exact (Kd.R_mono (Kd.R_far (p:=⟨gb22,2,none⟩) (Kd.R_far (p:=⟨gb22,1,none⟩) (Kd.R_far (p:=⟨gb22,0,none⟩) (Kd.R_types HO19.out BK22.out (by decide)) (fun _ hk=>hk.2) (.slice Ao43 t17.length co43)) (fun _ hk=>hk.2) (.int .i64 t20)) (fun _ hk=>hk.2) (.int .i64 t21)) (fun _ h_=>h_.1))))) (below_size (zl1_ HB GE22)));replace HO_9:=am_ (Kd.R_elder' (by refine zt_ ?_;exact (Kd.R_mono (Kd.R_far (p:=⟨gb22,2,none⟩) (Kd.R_far (p:=⟨gb22,1,none⟩) (Kd.R_far (p:=⟨gb22,0,none⟩) (Kd.R_types HO_9.out BK22.out (by decide)) (fun _ hk=>hk.2) (.slice Ao43 t17.length co43)) (fun _ hk=>hk.2) (.int .i64 t20)) (fun _ hk=>hk.2) (.int .i64 t21)) (fun _ h_=>h_.1))) (Kd.R_base ho0) hb);replace HO19:=am_ (Kd.R_elder' (by refine zt_ ?_;exact (Kd.R_mono (Kd.R_far (p:=⟨gb22,2,none⟩) (Kd.R_far (p:=⟨gb22,1,none⟩) (Kd.R_far (p:=⟨gb22,0,none⟩) (Kd.R_types HO19.out BK22.out (by decide)) (fun _ hk=>hk.2) (.slice Ao43 t17.length co43)) (fun _ hk=>hk.2) (.int .i64 t20)) (fun _ hk=>hk.2) (.int .i64 t21)) (fun _ h_=>h_.1))) (Kd.R_base ho0) hb);replace BK22:=am_ (blk_below (g:=gb22) (o:= .cells #[.slice Ao43 t17.length co43, .int .i64 t20, .int .i64 t21] 113 (0,0)) (zw_ BK22) hb);replace HB:=am_ (below_step (zl1_ HB GE22) hb);(try clear hb);(try clear hb2);(try clear hk);(try clear hi);(try clear ho0))|((with_reducible refine gate_dst (N:=13) rfl ?_);(try (refine gate_guard (by rfl) ?_;dsimp only));refine bx_ (N:=13) (cs:=#[.slice none 0 0, .int .i64 0, .int .i64 0]) (t:=116) ?_;intro gb28 hg w46 hbox hb;have n0_:=am_ (Kd.R_below (zr_ HO_9) hb);have n1_:=am_ (Kd.R_below (zr_ HO_10) hb);have n2_:=am_ (Kd.R_below (zr_ HO19) hb);have n3_:=am_ (Kd.R_below (zr_ HO25) hb);have n4_:=am_ (blk_below (zb_ BK22) hb);have n5_:=am_ (below_step (zl1_ HB GE22) hb);have n6_:=am_ (hbox);have n7_:=am_ ((zg1_ HB GE22 hg:w.heap.size≤gb28));have n8_:=am_ ((zg1_ HB GE22 hg:w.heap.size≤gb28));have n9_:=am_ ((zn_ BK22 hg:gb22≠gb28));have n10_:=am_ ((zm_ BK22 hg:gb28≠gb22));clear HO_9;clear HO_10;clear HO19;clear HO25;clear BK22;clear HB;have HO_9:=n0_;have HO_10:=n1_;have HO19:=n2_;have HO25:=n3_;have BK22:=n4_;have HB:=n5_;have BK28:=n6_;have GE28:=n8_;have NB22_28:=n9_;clear n0_ n1_ n2_ n3_ n4_ n5_ n6_ n7_ n8_ n9_ n10_;clear hb hbox hg;obtain ⟨Ao47,co47,eo47⟩:=Kd.R_slice HO25.out;subst eo47;obtain ⟨hcz49_0,hcz49_1,hcz49_2⟩:=x3_ BK28;have hfz49_0:=blk_frozen BK28.out 0;have hfz49_1:=blk_frozen BK28.out 1;have hfz49_2:=blk_frozen BK28.out 2)|((with_reducible refine gate_dst (N:=64) rfl ?_);(try (refine gate_guard (by rfl) ?_;dsimp only));refine Kd.R_lit (Kd.int .u8) _ 5 ?hg (N:=64) ?hd (xs:=([(97+(Int.tmod a2 25)) % 256]:List Int)) (inner:=[.int .u8 ((97+(Int.tmod a2 25)) % 256)]) (ok:=fun _=>True) (okp:=fun _=>True) ?hr ?hp (fun _ hk=>hk) trivial (Below.refl _ _) (Nat.le_refl _) (by simp) ?_;(case hd=>rfl);(case hg=>rfl);(case hr=>first|(go_simp;done)|(go_simp;rfl));(case hp=>exact (Reps.one (show Kd.M (Kd.int .u8) _ _ _ ((97+(Int.tmod a2 25)) % 256) [.int .u8 ((97+(Int.tmod a2 25)) % 256)] from rfl) (Reps.none _ _)));intro v30 w50 ho51 hb hg_ hnew_;clear hg_ hnew_;(first|rw [←Ny29.out] at ho51|(simp only [Int.reduceToNat] at ho51;rw [←Ny29.out] at ho51));replace HO_9:=am_ (Kd.R_below (by refine zt_ ?_;exact (Kd.R_mono (Kd.R_far (p:=⟨gb28,2,none⟩) (Kd.R_far (p:=⟨gb28,1,none⟩) (Kd.R_far (p:=⟨gb28,0,none⟩) (Kd.R_types HO_9.out BK28.out (by decide)) (fun _ hk=>hk.2) (.slice Ao47 t23.length co47)) (fun _ hk=>hk.2) (.int .i64 t26)) (fun _ hk=>hk.2) (.int .i64 t27)) (fun _ h_=>h_.1))) hb);replace HO_10:=am_ (Kd.R_below (by refine zt_ ?_;exact (Kd.R_mono (Kd.R_far (p:=⟨gb28,2,none⟩) (Kd.R_far (p:=⟨gb28,1,none⟩) (Kd.R_far (p:=⟨gb28,0,none⟩) (Kd.R_types HO_10.out BK28.out (by decide)) (fun _ hk=>hk.2) (.slice Ao47 t23.length co47)) (fun _ hk=>hk.2) (.int .i64 t26)) (fun _ hk=>hk.2) (.int .i64 t27)) (fun _ h_=>h_.1))) hb);replace HO19:=am_ (Kd.R_below (by refine zt_ ?_;exact (Kd.R_mono (Kd.R_far (p:=⟨gb28,2,none⟩) (Kd.R_far (p:=⟨gb28,1,none⟩) (Kd.R_far (p:=⟨gb28,0,none⟩) (Kd.R_types HO19.out BK28.out (by decide)) (fun _ hk=>hk.2) (.slice Ao47 t23.length co47)) (fun _ hk=>hk.2) (.int .i64 t26)) (fun _ hk=>hk.2) (.int .i64 t27)) (fun _ h_=>h_.1))) hb);replace HO25:=am_ (Kd.R_below (by refine zt_ ?_;exact (Kd.R_mono (Kd.R_far (p:=⟨gb28,2,none⟩) (Kd.R_far (p:=⟨gb28,1,none⟩) (Kd.R_far (p:=⟨gb28,0,none⟩) (Kd.R_types HO25.out BK28.out (by decide)) (fun _ hk=>hk.2) (.slice Ao47 t23.length co47)) (fun _ hk=>hk.2) (.int .i64 t26)) (fun _ hk=>hk.2) (.int .i64 t27)) (fun _ h_=>h_.1))) hb);have HO31:=am_ (Kd.R_lower ho51 (below_size (zl2_ HB GE22 GE28)));replace BK22:=am_ (blk_below (g:=gb22) (o:= .cells #[.slice Ao43 t17.length co43, .int .i64 t20, .int .i64 t21] 113 (0,0)) (zw_ BK22) hb);replace BK28:=am_ (blk_below (g:=gb28) (o:= .cells #[.slice Ao47 t23.length co47, .int .i64 t26, .int .i64 t27] 116 (0,0)) (zw_ BK28) hb);replace HB:=am_ (below_step (zl2_ HB GE22 GE28) hb);clear hb ho51;have hcv52:=own_string (P:=Try.prog) Try.underlying22 Try.underlying5 Try.underlying9 (Kd.own_of_R HO31.out))|((with_reducible refine gate_callee (f:=101) rfl ?_);refine gl_ (some 73) Try.func101 #[.slice Ao39 t2.length co39, .string (strOfNums y29), .agg #[.int .i64 (wrap64 (a3)), .int .i64 0, .int .i64 0], .slice Ao40 x10_2.length co40] ?_;(with_reducible refine (trial_Would.calls k2 _ _ t2 (strOfNums y29) (wrap64 (a3)) 0 0 _ _ x10_2 t32 t33 _ ?side1 ?side2 ?side3 ?side4 A27.out).mono ?_);(case side1=>exact zc_ (Kd.R_reads' HO_9.out).2.2);(case side2=>exact (Kd.R_reads' HO_9.out).2.1);(case side3=>exact zc_ (Kd.R_reads' HO_10.out).2.2);(case side4=>exact (Kd.R_reads' HO_10.out).2.1);rintro e w53 ⟨rfl,hb⟩;refine ⟨_,rfl, ?_⟩;replace HO_9:=am_ (Kd.R_below (zr_ HO_9) hb);replace HO_10:=am_ (Kd.R_below (zr_ HO_10) hb);replace HO19:=am_ (Kd.R_below (zr_ HO19) hb);replace HO25:=am_ (Kd.R_below (zr_ HO25) hb);replace HO31:=am_ (Kd.R_below (zr_ HO31) hb);replace BK22:=am_ (blk_below (zb_ BK22) hb);replace BK28:=am_ (blk_below (zb_ BK28) hb);replace HB:=am_ (below_step (zl2_ HB GE22 GE28) hb);(try clear hb);(try clear hb2);(try clear hk);(try clear hi))|((with_reducible refine gate_callee (f:=102) rfl ?_);refine gl_ (some 83) Try.func102 #[.slice Ao39 t2.length co39, .string (strOfNums y29), .agg #[.int .i64 (wrap64 (a3)), .int .i64 0, .int .i64 0], .slice Ao40 x10_2.length co40] ?_;(with_reducible refine (r10_Would.calls k2 _ _ t2 (strOfNums y29) (wrap64 (a3)) 0 0 _ _ x10_2 t34 t35 _ ?side1 ?side2 ?side3 ?side4 A28.out).mono ?_);(case side1=>exact zc_ (Kd.R_reads' HO_9.out).2.2);(case side2=>exact (Kd.R_reads' HO_9.out).2.1);(case side3=>exact zc_ (Kd.R_reads' HO_10.out).2.2);(case side4=>exact (Kd.R_reads' HO_10.out).2.1);rintro e w54 ⟨rfl,hb⟩;refine ⟨_,rfl, ?_⟩;replace HO_9:=am_ (Kd.R_below (zr_ HO_9) hb);replace HO_10:=am_ (Kd.R_below (zr_ HO_10) hb);replace HO19:=am_ (Kd.R_below (zr_ HO19) hb);replace HO25:=am_ (Kd.R_below (zr_ HO25) hb);replace HO31:=am_ (Kd.R_below (zr_ HO31) hb);replace BK22:=am_ (blk_below (zb_ BK22) hb);replace BK28:=am_ (blk_below (zb_ BK28) hb);replace HB:=am_ (below_step (zl2_ HB GE22 GE28) hb);(try clear hb);(try clear hb2);(try clear hk);(try clear hi)))
     replace HO_9:=am_ (Kd.R_drew HO_9.out)
     replace HO_10:=am_ (Kd.R_drew HO_10.out)
     replace HO19:=am_ (Kd.R_drew HO19.out)
     replace HO25:=am_ (Kd.R_drew HO25.out)
     replace HO31:=am_ (Kd.R_drew HO31.out)
     replace BK22:=am_ (blk_drew BK22.out)
     replace BK28:=am_ (blk_drew BK28.out)
     replace HB:=am_ (below_drew1 HB.out)
     refine start_ (n:=39) (S:=fun w'=>w'.cell? ⟨gb22,0,none⟩=some (.slice Ao43 t17.length co43)∧w'.cell? ⟨gb22,1,none⟩=some (.int .i64 t20)∧w'.cell? ⟨gb22,2,none⟩=some (.int .i64 t21)∧w'.cell? ⟨gb28,0,none⟩=some (.slice Ao47 t23.length co47)∧w'.cell? ⟨gb28,1,none⟩=some (.int .i64 t26)∧w'.cell? ⟨gb28,2,none⟩=some (.int .i64 t27)) (ds:=[]) (bt_ 39 0) (by kernel_rfl) rfl rfl ⟨(blk_cell BK22.out 0).trans rfl,(blk_cell BK22.out 1).trans rfl,(blk_cell BK22.out 2).trans rfl,(blk_cell BK28.out 0).trans rfl,(blk_cell BK28.out 1).trans rfl,(blk_cell BK28.out 2).trans rfl⟩ (fun hHeld=> ?_);refine with_tabW law19_TrialMade.tab14 law19_TrialMade.bits14 (fun HT_ HW_=> ?_)
     generalize w54.drew=w55 at HO_9 HO_10 HO19 HO25 HO31 BK22 BK28 HB hHeld ⊢
     refine pu_ (i:=0) (N:=some 86) (bt_ 39 1) HT_ ?_
     refine pu_ (i:=2) (N:=some 88) (bt_ 39 5) HT_ ?_
     refine tk_ (i:=1) (N:=some 87) (bt_ 39 7) HT_ HW_ hHeld ?_
     refine tk_ (i:=3) (N:=some 89) (bt_ 39 15) HT_ HW_ hHeld ?_
     refine on_ (i:=4) (N:=some 90) (bt_ 39 31) HT_ (fun K hK=> ?_)
     refine gs_ Try.func62 #[.slice Ao43 t17.length co43, .slice Ao47 t23.length co47] ?_
     with_reducible refine (r10_SameItems.calls k2 _ _ t17 _ _ t23 true _ ?side1 ?side2 ?side3 ?side4 A29.out).mono ?_
     (case side1=>exact zc_ (Kd.R_reads' HO19.out).2.2)
     (case side2=>exact (Kd.R_reads' HO19.out).2.1)
     (case side3=>exact zc_ (Kd.R_reads' HO25.out).2.2)
     (case side4=>exact (Kd.R_reads' HO25.out).2.1)
     rintro e w' ⟨rfl,⟨nd,rfl⟩⟩
     refine ⟨_,rfl, ?_⟩
     refine hK.out _ _ ⟨(blk_cell BK22.out 0).trans rfl,(blk_cell BK22.out 1).trans rfl,(blk_cell BK22.out 2).trans rfl,(blk_cell BK28.out 0).trans rfl,(blk_cell BK28.out 1).trans rfl,(blk_cell BK28.out 2).trans rfl⟩ (fun hHeld=> ?_)
     clear hK K
     refine no_ (N:=some 90) ?_
     refine pu_ (i:=5) (N:=some 91) (bt_ 39 63) HT_ ?_
     refine pu_ (i:=6) (N:=some 92) (bt_ 39 127) HT_ ?_
     refine pu_ (i:=8) (N:=some 94) (bt_ 39 383) HT_ ?_
     refine tk_ (i:=7) (N:=some 93) (bt_ 39 511) HT_ HW_ hHeld ?_
     refine tk_ (i:=9) (N:=some 95) (bt_ 39 1023) HT_ HW_ hHeld ?_
     refine pu_ (i:=10) (N:=some 96) (bt_ 39 2047) HT_ ?_
     refine pu_ (i:=11) (N:=some 97) (bt_ 39 4095) HT_ ?_
     refine pu_ (i:=12) (N:=some 98) (bt_ 39 8191) HT_ ?_
     refine pu_ (i:=13) (N:=some 99) (bt_ 39 16383) HT_ ?_
     refine pu_ (i:=16) (N:=some 102) (bt_ 39 81919) HT_ ?_
     refine tk_ (i:=14) (N:=some 100) (bt_ 39 98303) HT_ HW_ hHeld ?_
     refine tk_ (i:=17) (N:=some 103) (bt_ 39 229375) HT_ HW_ hHeld ?_
     refine on_ (i:=15) (N:=some 101) (bt_ 39 262143) HT_ (fun K hK=> ?_)
     refine gs_ Try.func61 #[.int .i64 t21] ?_
     with_reducible refine (law1_Num.calls t21 t37 _ A32.out).mono ?_
     rintro e w' ⟨rfl,⟨nd,rfl⟩⟩
     refine ⟨_,rfl, ?_⟩
     refine hK.out _ _ ⟨(blk_cell BK22.out 0).trans rfl,(blk_cell BK22.out 1).trans rfl,(blk_cell BK22.out 2).trans rfl,(blk_cell BK28.out 0).trans rfl,(blk_cell BK28.out 1).trans rfl,(blk_cell BK28.out 2).trans rfl⟩ (fun hHeld=> ?_)
     clear hK K
     refine no_ (N:=some 101) ?_
     refine pu_ (i:=18) (N:=some 104) (bt_ 39 524287) HT_ ?_
     refine pu_ (i:=19) (N:=some 105) (bt_ 39 1048575) HT_ ?_
     refine pu_ (i:=20) (N:=some 106) (bt_ 39 2097151) HT_ ?_
     refine pu_ (i:=21) (N:=some 107) (bt_ 39 4194303) HT_ ?_
     refine tk_ (i:=22) (N:=some 108) (bt_ 39 8388607) HT_ HW_ hHeld ?_
     refine on_ (i:=23) (N:=some 109) (bt_ 39 16777215) HT_ (fun K hK=> ?_)
     refine gs_ Try.func41 #[.slice Ao43 t17.length co43] ?_
     with_reducible refine (r10_Right.calls k2 _ _ t17 true _ ?side1 ?side2 A34.out).mono ?_
     (case side1=>exact zc_ (Kd.R_reads' HO19.out).2.2)
     (case side2=>exact (Kd.R_reads' HO19.out).2.1)
     rintro e w56 ⟨rfl,hb⟩
     refine ⟨_,rfl, ?_⟩
     replace HO_9:=am_ (Kd.R_below (zr_ HO_9) hb)
     replace HO_10:=am_ (Kd.R_below (zr_ HO_10) hb)
     replace HO19:=am_ (Kd.R_below (zr_ HO19) hb)
     replace HO25:=am_ (Kd.R_below (zr_ HO25) hb)
     replace HO31:=am_ (Kd.R_below (zr_ HO31) hb)
     replace BK22:=am_ (blk_below (zb_ BK22) hb)
     replace BK28:=am_ (blk_below (zb_ BK28) hb)
     replace HB:=am_ (below_step (zl2_ HB GE22 GE28) hb)
     (try clear hb)
     (try clear hb2)
     (try clear hk)
     (try clear hi)
     refine hK.out _ _ ⟨(blk_cell BK22.out 0).trans rfl,(blk_cell BK22.out 1).trans rfl,(blk_cell BK22.out 2).trans rfl,(blk_cell BK28.out 0).trans rfl,(blk_cell BK28.out 1).trans rfl,(blk_cell BK28.out 2).trans rfl⟩ (fun hHeld=> ?_)
     clear hK K
     refine no_ (N:=some 109) ?_
     refine pu_ (i:=24) (N:=some 110) (bt_ 39 33554431) HT_ ?_
     refine pu_ (i:=25) (N:=some 111) (bt_ 39 67108863) HT_ ?_
     refine pu_ (i:=26) (N:=some 112) (bt_ 39 134217727) HT_ ?_
     refine pu_ (i:=27) (N:=some 113) (bt_ 39 268435455) HT_ ?_
     refine pu_ (i:=28) (N:=some 114) (bt_ 39 536870911) HT_ ?_
     refine pu_ (i:=29) (N:=some 115) (bt_ 39 1073741823) HT_ ?_
     refine pu_ (i:=30) (N:=some 116) (bt_ 39 2147483647) HT_ ?_
     refine pu_ (i:=31) (N:=some 117) (bt_ 39 4294967295) HT_ ?_
     refine pu_ (i:=32) (N:=some 118) (bt_ 39 8589934591) HT_ ?_
     refine pu_ (i:=33) (N:=some 119) (bt_ 39 17179869183) HT_ ?_
     refine pu_ (i:=34) (N:=some 120) (bt_ 39 34359738367) HT_ ?_
     refine pu_ (i:=35) (N:=some 121) (bt_ 39 68719476735) HT_ ?_
     refine on_ (i:=36) (N:=some 122) (bt_ 39 137438953471) HT_ (fun K hK=> ?_)
     refine gs_ Try.func94 #[] ?_
     with_reducible refine (law19_awake.calls k2 t39 _ A38.out).mono ?_
     rintro e w57 ⟨rfl,hb⟩
     refine ⟨_,rfl, ?_⟩
     replace HO_9:=am_ (Kd.R_below (zr_ HO_9) hb)
     replace HO_10:=am_ (Kd.R_below (zr_ HO_10) hb)
     replace HO19:=am_ (Kd.R_below (zr_ HO19) hb)
     replace HO25:=am_ (Kd.R_below (zr_ HO25) hb)
     replace HO31:=am_ (Kd.R_below (zr_ HO31) hb)
     replace BK22:=am_ (blk_below (zb_ BK22) hb)
     replace BK28:=am_ (blk_below (zb_ BK28) hb)
     replace HB:=am_ (below_step (zl2_ HB GE22 GE28) hb)
     (try clear hb)
     (try clear hb2)
     (try clear hk)
     (try clear hi)
     refine hK.out _ _ ⟨(blk_cell BK22.out 0).trans rfl,(blk_cell BK22.out 1).trans rfl,(blk_cell BK22.out 2).trans rfl,(blk_cell BK28.out 0).trans rfl,(blk_cell BK28.out 1).trans rfl,(blk_cell BK28.out 2).trans rfl⟩ (fun hHeld=> ?_)
     clear hK K
     refine no_ (N:=some 122) ?_
     refine pu_ (i:=37) (N:=some 123) (bt_ 39 274877906943) HT_ ?_
     refine pu_ (i:=38) (N:=some 8) (bt_ 39 549755813887) HT_ ?_
     refine done_ (done_of HT_.out (by kernel_rfl)) ?_
     try go_wp2
     go_ret
     exact ⟨by first|rfl|(simp [errW_none,errW_some]<;>rfl)|(simp [*,errW_none,errW_some]<;>rfl),zl2_ HB GE22 GE28⟩
def law19_TrialMade.Pure:Prop:= ∀(l0:List Int) (l1:List Int) (a2:Int) (a3:Int),l0.length≤maxLen→l0.length*1≤140737488351232→(∀x∈l0,(Lit.int .u8 x).wf=true)→l1.length≤maxLen→l1.length*1≤140737488351232→(∀x∈l1,(Lit.int .u8 x).wf=true)→(Lit.int .u8 a2).wf=true→(Lit.int .u8 a3).wf=true→ ∃k,law19_TrialMade.f k l0 l1 a2 a3=some true
theorem law19_TrialMade.walk (P:law19_TrialMade.Pure) (a0:Option Addr) (len0 cap0:Nat) (z0:List Int) (a1:Option Addr) (len1 cap1:Nat) (z1:List Int) (a2:Int) (a3:Int) (w:World) (w0:(a0=none∧len0=0∧cap0=0∧z0=[])∨ ∃x,a0=some x∧len0≤cap0∧cap0≤maxLen∧z0.length=cap0∧(∀i,i<z0.length→w.cell? (x.add i)=some (.int .u8 (z0.getD i 0)))∧ ∀n∈z0,(Lit.int .u8 n).wf=true) (y0:len0*1≤140737488351232) (w1:(a1=none∧len1=0∧cap1=0∧z1=[])∨ ∃x,a1=some x∧len1≤cap1∧cap1≤maxLen∧z1.length=cap1∧(∀i,i<z1.length→w.cell? (x.add i)=some (.int .u8 (z1.getD i 0)))∧ ∀n∈z1,(Lit.int .u8 n).wf=true) (y1:len1*1≤140737488351232) (w2:(Lit.int .u8 a2).wf=true) (w3:(Lit.int .u8 a3).wf=true):
  Calls Try.prog 30 #[.slice a0 len0 cap0, .slice a1 len1 cap1, .int .u8 a2, .int .u8 a3] w fun e w'=>e= .returned (.bool true)∧Below w.heap.size w w':=by
 obtain ⟨l0,rfl,hr0,hm0,hw0,hc0⟩:=ReadsInt.ofRowC w0
 obtain ⟨l1,rfl,hr1,hm1,hw1,hc1⟩:=ReadsInt.ofRowC w1
 obtain ⟨k,h⟩:=P l0 l1 a2 a3 hm0 y0 hw0 hm1 y1 hw1 w2 w3
 refine (law19_TrialMade.calls k _ _ l0 _ _ l1 a2 a3 true w (Kd.C_of_reads (d:=(0:Int)) (h1:=fun _=>rfl) hr0) hc0 (Kd.C_of_reads (d:=(0:Int)) (h1:=fun _=>rfl) hr1) hc1 h).mono ?_
 rintro e w' ⟨rfl,hd⟩
 exact ⟨rfl,hd⟩

end Go.Proofs.Ytcgefpklljclgaa.Print
