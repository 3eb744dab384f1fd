/- DriftTells: a part -/
import Derived.Test.YtcgefpklljclgaaBDriftTells0
import Derived.Test.YtcgefpklljclgaaBDriftTells1
namespace Go.Proofs.Ytcgefpklljclgaa.Print
open Go.RowKit Go.Proofs.YtcgefpklljclgaaW.PrintWords Go.Proofs.YtcgefpklljclgaaW.PrintLast Go.Proofs.YtcgefpklljclgaaW.PrintMore
attribute [local go_sem] max2_int min2_int max_two min_two max_three min_three max_four min_four
set_option linter.unusedVariables false
set_option linter.unusedSimpArgs false

mutual
def law12_Make.l0:Nat→List Int→List (S31)→Int→Option ((List (S31)))
 |0,_,_,_=>none
 |k+1,x0,x3,x4=>if (wrap64 (x4+2))<(x0.length:Int) then (law12_Make.j1 k x0 x3 x4 (decide ((x3.length:Int)<24))) else (law12_Make.j1 k x0 x3 x4 false)
def law12_Make.j1:Nat→List Int→List (S31)→Int→Bool→Option ((List (S31)))
 |0,_,_,_,_=>none
 |k+1,x0,x3,x4,x21=>if x21=true then (if 0≤x4 then (if x4<(x0.length:Int) then (if (x3.length:Int)>0 then (law12_Make.j2 k x0 x3 x4 (wrap64 (rd x0 x4)) (⟨#[]⟩:ByteArray) (decide ((Int.tmod (wrap64 (rd x0 x4)) 3)>0))) else (law12_Make.j2 k x0 x3 x4 (wrap64 (rd x0 x4)) (⟨#[]⟩:ByteArray) false)) else (none)) else (none)) else (some x3)
def law12_Make.j2:Nat→List Int→List (S31)→Int→Int→ByteArray→Bool→Option ((List (S31)))
 |0,_,_,_,_,_,_=>none
 |k+1,x0,x3,x4,x5,x6,x36=>if x36=true then (if (x3.length:Int)=0 then (none) else (if 0≤(Int.tmod (wrap64 (Int.tdiv x5 3)) (x3.length:Int)) then (if (Int.tmod (wrap64 (Int.tdiv x5 3)) (x3.length:Int))<(x3.length:Int) then (law12_Make.j3 k x0 x3 x4 ((rd_T31 x3 (Int.tmod (wrap64 (Int.tdiv x5 3)) (x3.length:Int))).f0)) else (none)) else (none))) else (law12_Make.j3 k x0 x3 x4 x6)
def law12_Make.j3:Nat→List Int→List (S31)→Int→ByteArray→Option ((List (S31)))
 |0,_,_,_,_=>none
 |k+1,x0,x3,x4,x6=>if 0≤(wrap64 (x4+1)) then (if (wrap64 (x4+1))<(x0.length:Int) then ((r10_Create.f k x3 (strOfNums (([(wrap64 (97+(Int.tmod (wrap64 ((x3.length:Int)*5)) 24))) % 256]:List Int))) x6 (wrap64 (20+(wrap64 (rd x0 (wrap64 (x4+1)))))) (wrap64 (20+(wrap64 (rd x0 (wrap64 (x4+1)))))) (wrap64 (20+(wrap64 (rd x0 (wrap64 (x4+1))))))).bind fun bt7=>(if bt7.2=0 then (if 0≤(wrap64 (x4+2)) then (if (wrap64 (x4+2))<(x0.length:Int) then (if (bt7.1.length:Int)=0 then (none) else (if 0≤(Int.tmod (wrap64 (Int.tdiv (wrap64 (rd x0 (wrap64 (x4+2)))) 16)) (bt7.1.length:Int)) then (if (Int.tmod (wrap64 (Int.tdiv (wrap64 (rd x0 (wrap64 (x4+2)))) 16)) (bt7.1.length:Int))<(bt7.1.length:Int) then ((r10_Admit.f k bt7.1 ((rd_T31 bt7.1 (Int.tmod (wrap64 (Int.tdiv (wrap64 (rd x0 (wrap64 (x4+2)))) 16)) (bt7.1.length:Int))).f0) (Int.tmod (wrap64 (rd x0 (wrap64 (x4+2)))) 16) (wrap64 (Int.tdiv (Int.tmod (wrap64 (rd x0 (wrap64 (x4+2)))) 16) 2)) (Int.tmod (Int.tmod (wrap64 (rd x0 (wrap64 (x4+2)))) 16) 3)).bind fun bt15=>(if bt15.2=0 then (law12_Make.l0 k x0 bt15.1 (wrap64 (x4+3))) else (law12_Make.l0 k x0 bt7.1 (wrap64 (x4+3))))) else (none)) else (none))) else (none)) else (none)) else (law12_Make.l0 k x0 x3 (wrap64 (x4+3))))) else (none)) else (none)
end
def law12_Make.f (k:Nat) (l0:List Int):Option ((List (S31))):=law12_Make.l0 k l0 ([]:List (S31)) 0
theorem law12_Make.mono_l: ∀k,(∀y0 y1 y2,LeO (law12_Make.l0 k y0 y1 y2) (law12_Make.l0 (k+1) y0 y1 y2))∧(∀y0 y1 y2 y3,LeO (law12_Make.j1 k y0 y1 y2 y3) (law12_Make.j1 (k+1) y0 y1 y2 y3))∧(∀y0 y1 y2 y3 y4 y5,LeO (law12_Make.j2 k y0 y1 y2 y3 y4 y5) (law12_Make.j2 (k+1) y0 y1 y2 y3 y4 y5))∧(∀y0 y1 y2 y3,LeO (law12_Make.j3 k y0 y1 y2 y3) (law12_Make.j3 (k+1) y0 y1 y2 y3))
 |0=>⟨fun _ _ _ r h=>by simp [law12_Make.l0] at h,fun _ _ _ _ r h=>by simp [law12_Make.j1] at h,fun _ _ _ _ _ _ r h=>by simp [law12_Make.j2] at h,fun _ _ _ _ r h=>by simp [law12_Make.j3] at h⟩
 |k+1=>by
  obtain ⟨ih0,ih1,ih2,ih3⟩:=law12_Make.mono_l k
  refine ⟨?_, ?_, ?_, ?_⟩
  ·intro y0 y1 y2
   unfold law12_Make.l0
   repeat' first
   |(with_reducible exact ih0 _ _ _)
   |(with_reducible exact ih1 _ _ _ _)
   |(with_reducible exact ih2 _ _ _ _ _ _)
   |(with_reducible exact ih3 _ _ _ _)
   |(with_reducible exact r10_Admit.mono _ _ _ _ _ _)
   |(with_reducible exact r10_Create.mono _ _ _ _ _ _ _)
   |(with_reducible exact LeO.refl _)
   |(with_reducible exact LeO.none _)
   |(with_reducible refine LeO.ite ?_ ?_)
   |(with_reducible refine LeO.bind ?_ (fun _=> ?_))
   |exact ih0 _ _ _
   |exact ih1 _ _ _ _
   |exact ih2 _ _ _ _ _ _
   |exact ih3 _ _ _ _
   |exact r10_Admit.mono _ _ _ _ _ _
   |exact r10_Create.mono _ _ _ _ _ _ _
   |exact LeO.none _
   |refine LeO.ite ?_ ?_
   |refine LeO.bind ?_ (fun _=> ?_)
  ·intro y0 y1 y2 y3
   unfold law12_Make.j1
   repeat' first
   |(with_reducible exact ih0 _ _ _)
   |(with_reducible exact ih1 _ _ _ _)
   |(with_reducible exact ih2 _ _ _ _ _ _)
   |(with_reducible exact ih3 _ _ _ _)
   |(with_reducible exact r10_Admit.mono _ _ _ _ _ _)
   |(with_reducible exact r10_Create.mono _ _ _ _ _ _ _)
   |(with_reducible exact LeO.refl _)
   |(with_reducible exact LeO.none _)
   |(with_reducible refine LeO.ite ?_ ?_)
   |(with_reducible refine LeO.bind ?_ (fun _=> ?_))
   |exact ih0 _ _ _
   |exact ih1 _ _ _ _
   |exact ih2 _ _ _ _ _ _
   |exact ih3 _ _ _ _
   |exact r10_Admit.mono _ _ _ _ _ _
   |exact r10_Create.mono _ _ _ _ _ _ _
   |exact LeO.none _
   |refine LeO.ite ?_ ?_
   |refine LeO.bind ?_ (fun _=> ?_)
  ·intro y0 y1 y2 y3 y4 y5
   unfold law12_Make.j2
   repeat' first
   |(with_reducible exact ih0 _ _ _)
   |(with_reducible exact ih1 _ _ _ _)
   |(with_reducible exact ih2 _ _ _ _ _ _)
   |(with_reducible exact ih3 _ _ _ _)
   |(with_reducible exact r10_Admit.mono _ _ _ _ _ _)
   |(with_reducible exact r10_Create.mono _ _ _ _ _ _ _)
   |(with_reducible exact LeO.refl _)
   |(with_reducible exact LeO.none _)
   |(with_reducible refine LeO.ite ?_ ?_)
   |(with_reducible refine LeO.bind ?_ (fun _=> ?_))
   |exact ih0 _ _ _
   |exact ih1 _ _ _ _
   |exact ih2 _ _ _ _ _ _
   |exact ih3 _ _ _ _
   |exact r10_Admit.mono _ _ _ _ _ _
   |exact r10_Create.mono _ _ _ _ _ _ _
   |exact LeO.none _
   |refine LeO.ite ?_ ?_
   |refine LeO.bind ?_ (fun _=> ?_)
  intro y0 y1 y2 y3
  unfold law12_Make.j3
  repeat' first
  |(with_reducible exact ih0 _ _ _)
  |(with_reducible exact ih1 _ _ _ _)
  |(with_reducible exact ih2 _ _ _ _ _ _)
  |(with_reducible exact ih3 _ _ _ _)
  |(with_reducible exact r10_Admit.mono _ _ _ _ _ _)
  |(with_reducible exact r10_Create.mono _ _ _ _ _ _ _)
  |(with_reducible exact LeO.refl _)
  |(with_reducible exact LeO.none _)
  |(with_reducible refine LeO.ite ?_ ?_)
  |(with_reducible refine LeO.bind ?_ (fun _=> ?_))
  |exact ih0 _ _ _
  |exact ih1 _ _ _ _
  |exact ih2 _ _ _ _ _ _
  |exact ih3 _ _ _ _
  |exact r10_Admit.mono _ _ _ _ _ _
  |exact r10_Create.mono _ _ _ _ _ _ _
  |exact LeO.none _
  |refine LeO.ite ?_ ?_
  |refine LeO.bind ?_ (fun _=> ?_)
theorem law12_Make.mono: ∀a0 k,LeO (law12_Make.f k a0) (law12_Make.f (k+1) a0):=by
 intro a0 k
 obtain ⟨ih0,ih1,ih2,ih3⟩:=law12_Make.mono_l k
 unfold law12_Make.f
 repeat' first
  |(with_reducible exact ih0 _ _ _)
  |(with_reducible exact ih1 _ _ _ _)
  |(with_reducible exact ih2 _ _ _ _ _ _)
  |(with_reducible exact ih3 _ _ _ _)
  |(with_reducible exact r10_Admit.mono _ _ _ _ _ _)
  |(with_reducible exact r10_Create.mono _ _ _ _ _ _ _)
  |(with_reducible exact LeO.refl _)
  |(with_reducible exact LeO.none _)
  |(with_reducible refine LeO.ite ?_ ?_)
  |(with_reducible refine LeO.bind ?_ (fun _=> ?_))
  |exact ih0 _ _ _
  |exact ih1 _ _ _ _
  |exact ih2 _ _ _ _ _ _
  |exact ih3 _ _ _ _
  |exact r10_Admit.mono _ _ _ _ _ _
  |exact r10_Create.mono _ _ _ _ _ _ _
  |exact LeO.none _
  |refine LeO.ite ?_ ?_
  |refine LeO.bind ?_ (fun _=> ?_)
set_option maxHeartbeats 8000000 in
set_option maxRecDepth 100000 in
theorem law12_Make.calls (k:Nat) (A0:Option Addr) (c0:Nat) (l0:List Int) (r:List (S31)) (w:World) (hr0:Kd.C (Kd.int .u8) w A0 l0.length l0) (hc0:l0.length≤c0) (h:law12_Make.f k l0=some r):
  Calls Try.prog 32 #[.slice A0 l0.length c0] w fun e w'=> ∃v0_:Value,e= .returned (v0_)∧Kd.R k31 31 w' w.heap.size (fun _=>True) v0_ r∧Below w.heap.size w w':=by
 have HR0:=Aside0.mk hr0
 clear hr0 hc0
 have HB:=am_ (Below.refl w.heap.size w)
 have H:(law12_Make.l0 k l0 ([]:List (S31)) 0)=some r:=h
 clear h
 have H':=Aside0.mk H
 clear H
 go_enter Try.func32,Try.ntmps32
 go_wp2
 go_loopg [3,4] k (fun kq v3 v4 w'=> ∃(x3_1:List (S31)) (x4_1:Int),v4= .int .i64 x4_1∧Aside0 (law12_Make.l0 kq l0 x3_1 x4_1=some r)∧Aside0 (kq≤k)∧Aside0 (Kd.R k31 31 w' w.heap.size (fun _=>True) v3 x3_1)∧Aside0 (Below w.heap.size w w'))
 case atStart=>exact ⟨(([]:List (S31))),(0),(by first|rfl|(simp;done)|(simp [*];done)),H',⟨Nat.le_refl _⟩,⟨by first|exact Kd.R_nil _ _ _ _ _|exact Kd.N_nil _ _ _ _ _|exact Kd.V_nil _ _ _ _ _|exact Kd.Q_nil _ _ _ _ _|exact Kd.S_nil _ _ _ _ _⟩,⟨zl0_ HB⟩⟩
 case round=>
  clear H'
  obtain ⟨x3_1,x4_1,rfl,HA,HK1,HO_3,HB⟩:=hrel
  cases gk with
  |zero=>exact absurd HA.out (by simp [law12_Make.l0])
  |succ k1=>
   have H:=HA.out
   clear HA
   simp only [law12_Make.l0] at H
   have HC2:=Aside0.mk H
   clear H
   go_upto_region 3 with (fail)
   go_cut [21] (fun v21 wc=> ∃(kq:Nat) (x21_1:Bool),v21= .bool x21_1∧Aside0 (law12_Make.j1 kq l0 x3_1 x4_1 x21_1=some r)∧Aside0 (kq≤k1)∧Aside0 (Kd.R k31 31 wc w.heap.size (fun _=>True) u3 x3_1)∧Aside0 (Below w.heap.size w wc))
   case first=>
    have H:=HC2.out
    clear HC2
    by_cases c3:(wrap64 (x4_1+2))<(l0.length:Int)
    rotate_left
    ·rw [if_neg c3] at H
     have c3b0:decide ((wrap64 (x4_1+2))<(l0.length:Int))=false:=decide_eq_false c3
     clear c3
     (first|rw [c3b0]|(simp only [i64_w,i32_w];rw [c3b0])|skip)
     have H':=Aside0.mk H
     clear H
     go_wp2
     go_meet
     case rel=>exact ⟨_,(false),(by first|rfl|(simp;done)|(simp [*];done)),H',⟨by have:=HK1.out;first|omega|exact Nat.le_refl _⟩,⟨by (with_reducible repeat (first|apply Kd.R_alloc|apply Kd.R_drewN|apply Kd.R_drew));exact HO_3.out⟩,⟨zl0_ HB⟩⟩
    rw [if_pos c3] at H
    have c3b0:decide ((wrap64 (x4_1+2))<(l0.length:Int))=true:=decide_eq_true c3
    clear c3
    (first|rw [c3b0]|(simp only [i64_w,i32_w];rw [c3b0])|skip)
    have H':=Aside0.mk H
    clear H
    obtain ⟨Ao4,co4,eo4⟩:=Kd.R_slice HO_3.out
    subst eo4
    go_wp2
    go_meet
    case rel=>exact ⟨_,(decide ((x3_1.length:Int)<24)),(by first|rfl|(simp;done)|(simp [*];done)),H',⟨by have:=HK1.out;first|omega|exact Nat.le_refl _⟩,⟨by (with_reducible repeat (first|apply Kd.R_alloc|apply Kd.R_drewN|apply Kd.R_drew));exact HO_3.out⟩,⟨zl0_ HB⟩⟩
   case rest=>
    clear HC2
    try clear p2
    try clear c3
    try clear c3b0
    obtain ⟨kq,x21_1,rfl,HA,HJ1,HO_3,HB⟩:=hcut
    cases kq with
    |zero=>exact absurd HA.out (by simp [law12_Make.j1])
    |succ kj1=>
     have H:=HA.out
     clear HA
     simp only [law12_Make.j1] at H
     by_cases c5:x21_1=true
     rotate_left
     ·replace c5:=Bool.eq_false_iff.mpr c5
      subst c5
      have H1:(some x3_1)=some r:=by rw [if_neg (show¬(false=true) by decide)] at H;exact H
      clear H
      have H:=H1
      clear H1
      obtain rfl:=Option.some.inj H
      go_wp2
      go_ret
      exact ⟨_,by first|rfl|(simp [errW_none,errW_some]<;>rfl)|(simp [*,errW_none,errW_some]<;>rfl),by (with_reducible repeat (first|apply Kd.R_alloc|apply Kd.R_drewN|apply Kd.R_drew));exact HO_3.out,zl0_ HB⟩

     subst c5
     have H1:(if 0≤x4_1 then (if x4_1<(l0.length:Int) then (if (x3_1.length:Int)>0 then (law12_Make.j2 kj1 l0 x3_1 x4_1 (wrap64 (rd l0 x4_1)) (⟨#[]⟩:ByteArray) (decide ((Int.tmod (wrap64 (rd l0 x4_1)) 3)>0))) else (law12_Make.j2 kj1 l0 x3_1 x4_1 (wrap64 (rd l0 x4_1)) (⟨#[]⟩:ByteArray) false)) else (none)) else (none))=some r:=by rw [if_pos rfl] at H;exact H
     clear H
     have H:=H1
     clear H1
     by_cases c6:0≤x4_1
     rotate_left
     ·rw [if_neg c6] at H
      exact absurd H (by simp)
     rw [if_pos c6] at H
     have c6b0:decide (0≤x4_1)=true:=decide_eq_true c6
     clear c6
     by_cases c7:x4_1<(l0.length:Int)
     rotate_left
     ·rw [if_neg c7] at H
      exact absurd H (by simp)
     rw [if_pos c7] at H
     have c7b0:decide (x4_1<(l0.length:Int))=true:=decide_eq_true c7
     clear c7
     have HC8:=Aside0.mk H
     clear H
     have p1:0≤(x4_1:Int):=of_decide_eq_true zq_
     have q1:x4_1<(l0.length:Int):=of_decide_eq_true zq_
     obtain ⟨ad1,e1,hx1_0⟩:=Kd.at_int HR0.out x4_1 p1 q1
     cases e1
     replace hx1_0:=zx_ HB hx1_0
     replace p1:=eq_true p1
     replace q1:=eq_true q1
     go_upto_region 7 with (fail)
     go_cut [36] (fun v36 wc=> ∃(kq:Nat) (x36_7:Bool),v36= .bool x36_7∧Aside0 (law12_Make.j2 kq l0 x3_1 x4_1 (wrap64 (rd l0 x4_1)) (⟨#[]⟩:ByteArray) x36_7=some r)∧Aside0 (kq≤kj1)∧Aside0 (Kd.R k31 31 wc w.heap.size (fun _=>True) u3 x3_1)∧Aside0 (Below w.heap.size w wc))
     case first=>
      have H:=HC8.out
      clear HC8
      by_cases c9:(x3_1.length:Int)>0
      ·rw [if_pos c9] at H
       have c9b0:decide (0<(x3_1.length:Int))=true:=decide_eq_true c9
       have c9b1:decide (0<x3_1.length)=true:=decide_eq_true (by omega)
       clear c9
       (first|rw [c9b0]|(simp only [i64_w,i32_w];rw [c9b0])|skip)
       have H':=Aside0.mk H
       clear H
       obtain ⟨Ao10,co10,eo10⟩:=Kd.R_slice HO_3.out
       subst eo10
       go_wp2
       go_meet
       case rel=>exact ⟨_,(decide ((Int.tmod (wrap64 (rd l0 x4_1)) 3)>0)),(by first|rfl|(simp;done)|(simp [*];done)),H',⟨by have:=HK1.out;have:=HJ1.out;first|omega|exact Nat.le_refl _⟩,⟨by (with_reducible repeat (first|apply Kd.R_alloc|apply Kd.R_drewN|apply Kd.R_drew));exact HO_3.out⟩,⟨zl0_ HB⟩⟩
      rw [if_neg c9] at H
      have c9b0:decide (0<(x3_1.length:Int))=false:=decide_eq_false c9
      have c9b1:decide (0<x3_1.length)=false:=decide_eq_false (by omega)
      clear c9
      (first|rw [c9b0]|(simp only [i64_w,i32_w];rw [c9b0])|skip)
      have H':=Aside0.mk H
      clear H
      obtain ⟨Ao11,co11,eo11⟩:=Kd.R_slice HO_3.out
      subst eo11
      go_wp2
      go_meet
      case rel=>exact ⟨_,(false),(by first|rfl|(simp;done)|(simp [*];done)),H',⟨by have:=HK1.out;have:=HJ1.out;first|omega|exact Nat.le_refl _⟩,⟨by (with_reducible repeat (first|apply Kd.R_alloc|apply Kd.R_drewN|apply Kd.R_drew));exact HO_3.out⟩,⟨zl0_ HB⟩⟩
     case rest=>
      clear HC8
      try clear p1
      try clear q1
      try clear hx1
      try clear p2
      try clear c3
      try clear c3b0
      try clear c5
      try clear c6
      try clear c6b0
      try clear p6
      try clear c7
      try clear c7b0
      try clear c9
      try clear c9b0
      try clear c9b1
      try clear hx1_0
      try clear p1
      try clear p2
      try clear q1
      obtain ⟨kq,x36_7,rfl,HA,HJ7,HO_3,HB⟩:=hcut
      cases kq with
      |zero=>exact absurd HA.out (by simp [law12_Make.j2])
      |succ kj7=>
       have H:=HA.out
       clear HA
       simp only [law12_Make.j2] at H
       have HC12:=Aside0.mk H
       clear H
       go_upto_if 36 with (fail)
       go_cut [6] (fun v6 wc=> ∃(kq:Nat) (x6_11:ByteArray),v6= .string x6_11∧Aside0 (law12_Make.j3 kq l0 x3_1 x4_1 x6_11=some r)∧Aside0 (kq≤kj7)∧Aside0 (Kd.R k31 31 wc w.heap.size (fun _=>True) u3 x3_1)∧Aside0 (Below w.heap.size w wc))
       case first=>
        have H:=HC12.out
        clear HC12
        by_cases c13:x36_7=true
        rotate_left
        ·replace c13:=Bool.eq_false_iff.mpr c13
         subst c13
         have H1:(law12_Make.j3 kj7 l0 x3_1 x4_1 (⟨#[]⟩:ByteArray))=some r:=by rw [if_neg (show¬(false=true) by decide)] at H;exact H
         clear H
         have H:=H1
         clear H1
         have H':=Aside0.mk H
         clear H
         go_wp2
         go_meet
         case rel=>exact ⟨_,((⟨#[]⟩:ByteArray)),(by first|rfl|(simp;done)|(simp [*];done)),H',⟨by have:=HK1.out;have:=HJ1.out;have:=HJ7.out;first|omega|exact Nat.le_refl _⟩,⟨by (with_reducible repeat (first|apply Kd.R_alloc|apply Kd.R_drewN|apply Kd.R_drew));exact HO_3.out⟩,⟨zl0_ HB⟩⟩
        subst c13
        have H1:(if (x3_1.length:Int)=0 then (none) else (if 0≤(Int.tmod (wrap64 (Int.tdiv (wrap64 (rd l0 x4_1)) 3)) (x3_1.length:Int)) then (if (Int.tmod (wrap64 (Int.tdiv (wrap64 (rd l0 x4_1)) 3)) (x3_1.length:Int))<(x3_1.length:Int) then (law12_Make.j3 kj7 l0 x3_1 x4_1 ((rd_T31 x3_1 (Int.tmod (wrap64 (Int.tdiv (wrap64 (rd l0 x4_1)) 3)) (x3_1.length:Int))).f0)) else (none)) else (none)))=some r:=by rw [if_pos rfl] at H;exact H
        clear H
        have H:=H1
        clear H1
        by_cases c14:(x3_1.length:Int)=0
        ·rw [if_pos c14] at H
         exact absurd H (by simp)
        rw [if_neg c14] at H
        have c14b0:((x3_1.length:Int)==0)=false:=beq_eq_false_iff_ne.mpr c14
        have c14b2: ¬(x3_1=[]):=fun h_=>c14 (by rw [h_];rfl)
        (first|rw [c14b0]|(simp only [i64_w,i32_w];rw [c14b0])|skip)
        obtain ⟨ji15,hji15⟩: ∃j_:Int,(Int.tmod (wrap64 (Int.tdiv (wrap64 (rd l0 x4_1)) 3)) (x3_1.length:Int))=j_:=⟨_,rfl⟩
        replace H:(if 0≤(ji15) then (if (ji15)<(x3_1.length:Int) then (law12_Make.j3 kj7 l0 x3_1 x4_1 ((rd_T31 x3_1 (ji15)).f0)) else (none)) else (none))=some r:=by first|(rw [hji15] at H;exact H)|(simp only [hji15] at H ⊢;exact H)
        by_cases c16:0≤(ji15)
        rotate_left
        ·rw [if_neg c16] at H
         exact absurd H (by simp)
        rw [if_pos c16] at H
        have c16b0:decide (0≤(ji15))=true:=decide_eq_true c16
        clear c16
        by_cases c17:(ji15)<(x3_1.length:Int)
        rotate_left
        ·rw [if_neg c17] at H
         exact absurd H (by simp)
        rw [if_pos c17] at H
        have c17b0:decide ((ji15)<(x3_1.length:Int))=true:=decide_eq_true c17
        clear c17
        have H':=Aside0.mk H
        clear H
        obtain ⟨Ao18,co18,eo18⟩:=Kd.R_slice HO_3.out
        subst eo18
        have p2:0≤((ji15):Int):=of_decide_eq_true zq_
        have q2:(ji15)<(x3_1.length:Int):=of_decide_eq_true zq_
        obtain ⟨ad2,e2,hx2_0,hx2_1,hx2_2,hx2_3,hx2_4,hx2_5,hx2_6,hx2_7,hx2_8,hx2_9,hx2_10,hx2_11⟩:=at_T31 (Kd.R_reads' HO_3.out).2.2 (ji15) p2 q2
        cases e2
        replace p2:=eq_true p2
        replace q2:=eq_true q2
        go_wp2
        go_meet
        case rel=>exact ⟨_,((rd_T31 x3_1 (ji15)).f0),(by first|rfl|(simp;done)|(simp only [←hji15]<;>(first|rfl|simp))|(simp [*];done)),H',⟨by have:=HK1.out;have:=HJ1.out;have:=HJ7.out;first|omega|exact Nat.le_refl _⟩,⟨by (with_reducible repeat (first|apply Kd.R_alloc|apply Kd.R_drewN|apply Kd.R_drew));exact HO_3.out⟩,⟨zl0_ HB⟩⟩
       case rest=>
        clear HC12
        try clear c1
        try clear p1
        try clear q1
        try clear hx1
        try clear p2
        try clear q2
        try clear hx2
        try clear c3
        try clear c3b0
        try clear c5
        try clear c6
        try clear c6b0
        try clear p6
        try clear c7
        try clear c7b0
        try clear c9
        try clear c9b0
        try clear c9b1
        try clear c13
        try clear c14
        try clear c14b0
        try clear c14b2
        try clear c16
        try clear c16b0
        try clear c17
        try clear c17b0
        try clear hx1_0
        try clear hx2_0
        try clear hx2_1
        try clear hx2_10
        try clear hx2_11
        try clear hx2_2
        try clear hx2_3
        try clear hx2_4
        try clear hx2_5
        try clear hx2_6
        try clear hx2_7
        try clear hx2_8
        try clear hx2_9
        try clear p1
        try clear p2
        try clear p6
        try clear q1
        try clear q2
        obtain ⟨kq,x6_11,rfl,HA,HJ11,HO_3,HB⟩:=hcut
        cases kq with
        |zero=>exact absurd HA.out (by simp [law12_Make.j3])
        |succ kj11=>
         have H:=HA.out
         clear HA
         simp only [law12_Make.j3] at H
         obtain ⟨ji19,hji19⟩: ∃j_:Int,(wrap64 (x4_1+1))=j_:=⟨_,rfl⟩
         replace H:(if 0≤(ji19) then (if (ji19)<(l0.length:Int) then ((r10_Create.f kj11 x3_1 (strOfNums (([(wrap64 (97+(Int.tmod (wrap64 ((x3_1.length:Int)*5)) 24))) % 256]:List Int))) x6_11 (wrap64 (20+(wrap64 (rd l0 (ji19))))) (wrap64 (20+(wrap64 (rd l0 (ji19))))) (wrap64 (20+(wrap64 (rd l0 (ji19)))))).bind fun bt7=>(if bt7.2=0 then (if 0≤(wrap64 (x4_1+2)) then (if (wrap64 (x4_1+2))<(l0.length:Int) then (if (bt7.1.length:Int)=0 then (none) else (if 0≤(Int.tmod (wrap64 (Int.tdiv (wrap64 (rd l0 (wrap64 (x4_1+2)))) 16)) (bt7.1.length:Int)) then (if (Int.tmod (wrap64 (Int.tdiv (wrap64 (rd l0 (wrap64 (x4_1+2)))) 16)) (bt7.1.length:Int))<(bt7.1.length:Int) then ((r10_Admit.f kj11 bt7.1 ((rd_T31 bt7.1 (Int.tmod (wrap64 (Int.tdiv (wrap64 (rd l0 (wrap64 (x4_1+2)))) 16)) (bt7.1.length:Int))).f0) (Int.tmod (wrap64 (rd l0 (wrap64 (x4_1+2)))) 16) (wrap64 (Int.tdiv (Int.tmod (wrap64 (rd l0 (wrap64 (x4_1+2)))) 16) 2)) (Int.tmod (Int.tmod (wrap64 (rd l0 (wrap64 (x4_1+2)))) 16) 3)).bind fun bt15=>(if bt15.2=0 then (law12_Make.l0 kj11 l0 bt15.1 (wrap64 (x4_1+3))) else (law12_Make.l0 kj11 l0 bt7.1 (wrap64 (x4_1+3))))) else (none)) else (none))) else (none)) else (none)) else (law12_Make.l0 kj11 l0 x3_1 (wrap64 (x4_1+3))))) else (none)) else (none))=some r:=by first|(rw [hji19] at H;exact H)|(simp only [hji19] at H ⊢;exact H)
         have hji19w:(IntKind.i64.wrap (x4_1+1))=ji19:=(i64_w _).trans hji19
         by_cases c20:0≤(ji19)
         rotate_left
         ·rw [if_neg c20] at H
          exact absurd H (by simp)
         rw [if_pos c20] at H
         have c20b0:decide (0≤(ji19))=true:=decide_eq_true c20
         clear c20
         by_cases c21:(ji19)<(l0.length:Int)
         rotate_left
         ·rw [if_neg c21] at H
          exact absurd H (by simp)
         rw [if_pos c21] at H
         have c21b0:decide ((ji19)<(l0.length:Int))=true:=decide_eq_true c21
         clear c21
         obtain ⟨y4,hy4⟩: ∃y_:List Int,y_=(([(wrap64 (97+(Int.tmod (wrap64 ((x3_1.length:Int)*5)) 24))) % 256]:List Int)):=⟨_,rfl⟩
         replace H:((r10_Create.f kj11 x3_1 (strOfNums y4) x6_11 (wrap64 (20+(wrap64 (rd l0 (ji19))))) (wrap64 (20+(wrap64 (rd l0 (ji19))))) (wrap64 (20+(wrap64 (rd l0 (ji19)))))).bind fun bt7=>(if bt7.2=0 then (if 0≤(wrap64 (x4_1+2)) then (if (wrap64 (x4_1+2))<(l0.length:Int) then (if (bt7.1.length:Int)=0 then (none) else (if 0≤(Int.tmod (wrap64 (Int.tdiv (wrap64 (rd l0 (wrap64 (x4_1+2)))) 16)) (bt7.1.length:Int)) then (if (Int.tmod (wrap64 (Int.tdiv (wrap64 (rd l0 (wrap64 (x4_1+2)))) 16)) (bt7.1.length:Int))<(bt7.1.length:Int) then ((r10_Admit.f kj11 bt7.1 ((rd_T31 bt7.1 (Int.tmod (wrap64 (Int.tdiv (wrap64 (rd l0 (wrap64 (x4_1+2)))) 16)) (bt7.1.length:Int))).f0) (Int.tmod (wrap64 (rd l0 (wrap64 (x4_1+2)))) 16) (wrap64 (Int.tdiv (Int.tmod (wrap64 (rd l0 (wrap64 (x4_1+2)))) 16) 2)) (Int.tmod (Int.tmod (wrap64 (rd l0 (wrap64 (x4_1+2)))) 16) 3)).bind fun bt15=>(if bt15.2=0 then (law12_Make.l0 kj11 l0 bt15.1 (wrap64 (x4_1+3))) else (law12_Make.l0 kj11 l0 bt7.1 (wrap64 (x4_1+3))))) else (none)) else (none))) else (none)) else (none)) else (law12_Make.l0 kj11 l0 x3_1 (wrap64 (x4_1+3)))))=some r:=by first|(rw [hy4];with_reducible exact H)|(have H2_:=(Option.bind_some _ _).symm.trans H;rw [hy4];with_reducible exact H2_)|(have H2_:=(Option.bind_some _ _).symm.trans H;with_reducible exact H2_)|with_reducible exact H|(rw [hy4];exact H)|exact H
         have Ny4:=Aside0.mk hy4
         clear hy4
         replace H:=Option.bind_eq_some_iff.mp H
         obtain ⟨⟨t7,t10⟩,A220,H⟩:=H
         try dsimp only at H
         have A22:=Aside0.mk A220
         clear A220
         by_cases c23:t10=0
         rotate_left
         ·rw [if_neg c23] at H
          have c23b1:(t10 !=0)=true:=bne_iff_ne.mpr c23
          have H':=Aside0.mk H
          clear H
          have p3:0≤((ji19):Int):=of_decide_eq_true zq_
          have q3:(ji19)<(l0.length:Int):=of_decide_eq_true zq_
          obtain ⟨ad3,e3,hx3_0⟩:=Kd.at_int HR0.out (ji19) p3 q3
          obtain rfl:ad1=ad3:=(by injection e3)
          replace hx3_0:=zx_ HB hx3_0
          replace p3:=eq_true p3
          replace q3:=eq_true q3
          obtain ⟨Ao59,co59,eo59⟩:=Kd.R_slice HO_3.out
          subst eo59
          go_wp2_with (first|((with_reducible refine gate_dst (N:=60) rfl ?_);(try (refine gate_guard (by rfl) ?_;dsimp only));refine Kd.R_lit (Kd.int .u8) _ 5 ?hg (N:=60) ?hd (xs:=([(wrap64 (97+(Int.tmod (wrap64 ((x3_1.length:Int)*5)) 24))) % 256]:List Int)) (inner:=[.int .u8 ((wrap64 (97+(Int.tmod (wrap64 ((x3_1.length:Int)*5)) 24))) % 256)]) (ok:=fun _=>True) (okp:=fun _=>True) ?hr ?hp (fun _ hk=>hk) trivial (Below.refl _ _) (Nat.le_refl _) (by simp) ?_;(case hd=>rfl);(case hg=>rfl);(case hr=>first|(go_simp;done)|(go_simp;rfl));(case hp=>exact (Reps.one (show Kd.M (Kd.int .u8) _ _ _ ((wrap64 (97+(Int.tmod (wrap64 ((x3_1.length:Int)*5)) 24))) % 256) [.int .u8 ((wrap64 (97+(Int.tmod (wrap64 ((x3_1.length:Int)*5)) 24))) % 256)] from rfl) (Reps.none _ _)));intro v5 w60 ho61 hb hg_ hnew_;clear hg_ hnew_;(first|rw [←Ny4.out] at ho61|(simp only [Int.reduceToNat] at ho61;rw [←Ny4.out] at ho61));replace HO_3:=am_ (Kd.R_below (zr_ HO_3) hb);have HO6:=am_ (Kd.R_lower ho61 (below_size (zl0_ HB)));replace HB:=am_ (below_step (zl0_ HB) hb);clear hb ho61;have hcv62:=own_string (P:=Try.prog) Try.underlying22 Try.underlying5 Try.underlying9 (Kd.own_of_R HO6.out))|((with_reducible refine gate_callee (f:=83) rfl ?_);refine goesL_ (some 67) rfl rfl Try.func83 (by kernel_rfl) rfl #[.slice Ao59 x3_1.length co59, .string (strOfNums y4), .string x6_11, .agg #[.int .i64 (wrap64 (20+(wrap64 (rd l0 (ji19))))), .int .i64 (wrap64 (20+(wrap64 (rd l0 (ji19))))), .int .i64 (wrap64 (20+(wrap64 (rd l0 (ji19)))))]] rfl (by (try simp only [List.map_toArray,List.map_cons,List.map_nil]);first|done|(simp only [hji19];rfl)|rfl|(simp only [List.length_drop,List.length_take];rfl)) ?_;(with_reducible refine (r10_Create.calls kj11 _ _ x3_1 (strOfNums y4) x6_11 (wrap64 (20+(wrap64 (rd l0 (ji19))))) (wrap64 (20+(wrap64 (rd l0 (ji19))))) (wrap64 (20+(wrap64 (rd l0 (ji19))))) t7 t10 _ ?side1 ?side2 A22.out).mono ?_);(case side1=>exact zc_ (Kd.R_reads' HO_3.out).2.2);(case side2=>exact (Kd.R_reads' HO_3.out).2.1);rintro e w63 ⟨v8,rfl,ho0,hb⟩;refine ⟨_,rfl, ?_⟩;replace HO6:=am_ (Kd.R_below (zr_ HO6) hb);have HO9:=am_ (Kd.R_lower (Kd.R_new' ho0 (Kd.R_lt (zr_ HO_3))) (below_size (zl0_ HB)));replace HO_3:=am_ (Kd.R_elder' (zr_ HO_3) (Kd.R_base ho0) hb);replace HB:=am_ (below_step (zl0_ HB) hb);(try clear hb);(try clear hb2);(try clear hk);(try clear hi);(try clear ho0))|((with_reducible refine gate_dst (N:=8) rfl ?_);(try (refine gate_guard (by rfl) ?_;dsimp only));refine bx_ (N:=8) (cs:=#[.slice none 0 0, .int .i64 0]) (t:=67) ?_;intro gb11 hg w64 hbox hb;replace HO_3:=am_ (Kd.R_below (zr_ HO_3) hb);replace HO6:=am_ (Kd.R_below (zr_ HO6) hb);replace HO9:=am_ (Kd.R_below (zr_ HO9) hb);have BK11:=am_ (hbox);have GW11:=am_ ((zg0_ HB hg:w.heap.size≤gb11));have GE11:=am_ ((zg0_ HB hg:w.heap.size≤gb11));replace HB:=am_ (below_step (zl0_ HB) hb);clear hb hbox hg;obtain ⟨Ao65,co65,eo65⟩:=Kd.R_slice HO9.out;subst eo65;obtain ⟨hcz66_0,hcz66_1⟩:=x2_ BK11;have hfz66_0:=blk_frozen BK11.out 0;have hfz66_1:=blk_frozen BK11.out 1))
          go_roundg kj11
          case measure=>have:=HK1.out;have:=HJ1.out;have:=HJ7.out;have:=HJ11.out;omega
          case rel=>exact ⟨(x3_1),(wrap64 (x4_1+3)),(by first|rfl|(simp;done)|(simp [*];done)),H',⟨by have:=HK1.out;have:=HJ1.out;have:=HJ7.out;have:=HJ11.out;omega⟩,⟨zy_ HO_3 BK11⟩,⟨zl1_ HB GE11⟩⟩
         rw [if_pos c23] at H
         have c23b1:(t10 !=0)=false:=bne_eq_false_iff_eq.mpr c23
         clear c23
         obtain ⟨ji24,hji24⟩: ∃j_:Int,(wrap64 (x4_1+2))=j_:=⟨_,rfl⟩
         replace H:(if 0≤(ji24) then (if (ji24)<(l0.length:Int) then (if (t7.length:Int)=0 then (none) else (if 0≤(Int.tmod (wrap64 (Int.tdiv (wrap64 (rd l0 (ji24))) 16)) (t7.length:Int)) then (if (Int.tmod (wrap64 (Int.tdiv (wrap64 (rd l0 (ji24))) 16)) (t7.length:Int))<(t7.length:Int) then ((r10_Admit.f kj11 t7 ((rd_T31 t7 (Int.tmod (wrap64 (Int.tdiv (wrap64 (rd l0 (ji24))) 16)) (t7.length:Int))).f0) (Int.tmod (wrap64 (rd l0 (ji24))) 16) (wrap64 (Int.tdiv (Int.tmod (wrap64 (rd l0 (ji24))) 16) 2)) (Int.tmod (Int.tmod (wrap64 (rd l0 (ji24))) 16) 3)).bind fun bt15=>(if bt15.2=0 then (law12_Make.l0 kj11 l0 bt15.1 (wrap64 (x4_1+3))) else (law12_Make.l0 kj11 l0 t7 (wrap64 (x4_1+3))))) else (none)) else (none))) else (none)) else (none))=some r:=by first|(rw [hji24] at H;exact H)|(simp only [hji24] at H ⊢;exact H)
         (try rw [hji24] at A22)
         have hji24w:(IntKind.i64.wrap (x4_1+2))=ji24:=(i64_w _).trans hji24
         by_cases c25:0≤(ji24)
         rotate_left
         ·rw [if_neg c25] at H
          exact absurd H (by simp)
         rw [if_pos c25] at H
         have c25b0:decide (0≤(ji24))=true:=decide_eq_true c25
         clear c25
         by_cases c26:(ji24)<(l0.length:Int)
         rotate_left
         ·rw [if_neg c26] at H
          exact absurd H (by simp)
         rw [if_pos c26] at H
         have c26b0:decide ((ji24)<(l0.length:Int))=true:=decide_eq_true c26
         clear c26
         by_cases c27:(t7.length:Int)=0
         ·rw [if_pos c27] at H
          exact absurd H (by simp)
         rw [if_neg c27] at H
         have c27b2: ¬(t7=[]):=fun h_=>c27 (by rw [h_];rfl)
         obtain ⟨ji28,hji28⟩: ∃j_:Int,(Int.tmod (wrap64 (Int.tdiv (wrap64 (rd l0 (ji24))) 16)) (t7.length:Int))=j_:=⟨_,rfl⟩
         replace H:(if 0≤(ji28) then (if (ji28)<(t7.length:Int) then ((r10_Admit.f kj11 t7 ((rd_T31 t7 (ji28)).f0) (Int.tmod (wrap64 (rd l0 (ji24))) 16) (wrap64 (Int.tdiv (Int.tmod (wrap64 (rd l0 (ji24))) 16) 2)) (Int.tmod (Int.tmod (wrap64 (rd l0 (ji24))) 16) 3)).bind fun bt15=>(if bt15.2=0 then (law12_Make.l0 kj11 l0 bt15.1 (wrap64 (x4_1+3))) else (law12_Make.l0 kj11 l0 t7 (wrap64 (x4_1+3))))) else (none)) else (none))=some r:=by first|(rw [hji28] at H;exact H)|(simp only [hji28] at H ⊢;exact H)
         (try rw [hji28] at A22)
         by_cases c29:0≤(ji28)
         rotate_left
         ·rw [if_neg c29] at H
          exact absurd H (by simp)
         rw [if_pos c29] at H
         have c29b0:decide (0≤(ji28))=true:=decide_eq_true c29
         clear c29
         by_cases c30:(ji28)<(t7.length:Int)
         rotate_left
         ·rw [if_neg c30] at H
          exact absurd H (by simp)
         rw [if_pos c30] at H
         have c30b0:decide ((ji28)<(t7.length:Int))=true:=decide_eq_true c30
         clear c30
         replace H:=Option.bind_eq_some_iff.mp H
         obtain ⟨⟨t15,t18⟩,A310,H⟩:=H
         try dsimp only at H
         have A31:=Aside0.mk A310
         clear A310
         by_cases c32:t18=0
         ·rw [if_pos c32] at H
          have c32b0:(t18==0)=true:=beq_iff_eq.mpr c32
          clear c32
          have H':=Aside0.mk H
          clear H
          have p3:0≤((ji19):Int):=of_decide_eq_true zq_
          have q3:(ji19)<(l0.length:Int):=of_decide_eq_true zq_
          obtain ⟨ad3,e3,hx3_0⟩:=Kd.at_int HR0.out (ji19) p3 q3
          obtain rfl:ad1=ad3:=(by injection e3)
          replace hx3_0:=zx_ HB hx3_0
          replace p3:=eq_true p3
          replace q3:=eq_true q3
          obtain ⟨Ao33,co33,eo33⟩:=Kd.R_slice HO_3.out
          subst eo33
          go_wp2_with (first|((with_reducible refine gate_dst (N:=60) rfl ?_);(try (refine gate_guard (by rfl) ?_;dsimp only));refine Kd.R_lit (Kd.int .u8) _ 5 ?hg (N:=60) ?hd (xs:=([(wrap64 (97+(Int.tmod (wrap64 ((x3_1.length:Int)*5)) 24))) % 256]:List Int)) (inner:=[.int .u8 ((wrap64 (97+(Int.tmod (wrap64 ((x3_1.length:Int)*5)) 24))) % 256)]) (ok:=fun _=>True) (okp:=fun _=>True) ?hr ?hp (fun _ hk=>hk) trivial (Below.refl _ _) (Nat.le_refl _) (by simp) ?_;(case hd=>rfl);(case hg=>rfl);(case hr=>first|(go_simp;done)|(go_simp;rfl));(case hp=>exact (Reps.one (show Kd.M (Kd.int .u8) _ _ _ ((wrap64 (97+(Int.tmod (wrap64 ((x3_1.length:Int)*5)) 24))) % 256) [.int .u8 ((wrap64 (97+(Int.tmod (wrap64 ((x3_1.length:Int)*5)) 24))) % 256)] from rfl) (Reps.none _ _)));intro v5 w34 ho35 hb hg_ hnew_;clear hg_ hnew_;(first|rw [←Ny4.out] at ho35|(simp only [Int.reduceToNat] at ho35;rw [←Ny4.out] at ho35));replace HO_3:=am_ (Kd.R_below (zr_ HO_3) hb);have HO6:=am_ (Kd.R_lower ho35 (below_size (zl0_ HB)));replace HB:=am_ (below_step (zl0_ HB) hb);clear hb ho35;have hcv36:=own_string (P:=Try.prog) Try.underlying22 Try.underlying5 Try.underlying9 (Kd.own_of_R HO6.out))|((with_reducible refine gate_callee (f:=83) rfl ?_);refine goesL_ (some 67) rfl rfl Try.func83 (by kernel_rfl) rfl #[.slice Ao33 x3_1.length co33, .string (strOfNums y4), .string x6_11, .agg #[.int .i64 (wrap64 (20+(wrap64 (rd l0 (ji19))))), .int .i64 (wrap64 (20+(wrap64 (rd l0 (ji19))))), .int .i64 (wrap64 (20+(wrap64 (rd l0 (ji19)))))]] rfl (by (try simp only [List.map_toArray,List.map_cons,List.map_nil]);first|done|(simp only [hji19];rfl)|rfl|(simp only [List.length_drop,List.length_take];rfl)) ?_;(with_reducible refine (r10_Create.calls kj11 _ _ x3_1 (strOfNums y4) x6_11 (wrap64 (20+(wrap64 (rd l0 (ji19))))) (wrap64 (20+(wrap64 (rd l0 (ji19))))) (wrap64 (20+(wrap64 (rd l0 (ji19))))) t7 t10 _ ?side1 ?side2 A22.out).mono ?_);(case side1=>exact zc_ (Kd.R_reads' HO_3.out).2.2);(case side2=>exact (Kd.R_reads' HO_3.out).2.1);rintro e w37 ⟨v8,rfl,ho0,hb⟩;refine ⟨_,rfl, ?_⟩;replace HO6:=am_ (Kd.R_below (zr_ HO6) hb);have HO9:=am_ (Kd.R_lower (Kd.R_new' ho0 (Kd.R_lt (zr_ HO_3))) (below_size (zl0_ HB)));replace HO_3:=am_ (Kd.R_elder' (zr_ HO_3) (Kd.R_base ho0) hb);replace HB:=am_ (below_step (zl0_ HB) hb);(try clear hb);(try clear hb2);(try clear hk);(try clear hi);(try clear ho0))|((with_reducible refine gate_dst (N:=8) rfl ?_);(try (refine gate_guard (by rfl) ?_;dsimp only));refine bx_ (N:=8) (cs:=#[.slice none 0 0, .int .i64 0]) (t:=67) ?_;intro gb11 hg w38 hbox hb;replace HO_3:=am_ (Kd.R_below (zr_ HO_3) hb);replace HO6:=am_ (Kd.R_below (zr_ HO6) hb);replace HO9:=am_ (Kd.R_below (zr_ HO9) hb);have BK11:=am_ (hbox);have GW11:=am_ ((zg0_ HB hg:w.heap.size≤gb11));have GE11:=am_ ((zg0_ HB hg:w.heap.size≤gb11));replace HB:=am_ (below_step (zl0_ HB) hb);clear hb hbox hg;obtain ⟨Ao39,co39,eo39⟩:=Kd.R_slice HO9.out;subst eo39;obtain ⟨hcz40_0,hcz40_1,hfz40_0,hfz40_1⟩:=y2_ BK11;have p12:0≤((ji24):Int):=of_decide_eq_true zq_;have q12:(ji24)<(l0.length:Int):=of_decide_eq_true zq_;obtain ⟨ad12,e12,hx12_0⟩:=Kd.at_int HR0.out (ji24) p12 q12;obtain rfl:ad1=ad12:=(by injection e12);have hn12_0:ad1.block≠gb11:=Nat.ne_of_lt (Nat.lt_of_lt_of_le (by have:=World.block_lt_of_cell? _ _ hx12_0;first|rwa [add_block] at this|exact this) GW11.out);have hn12_1:ad1.block≠gb11:=Nat.ne_of_lt (Nat.lt_of_lt_of_le (by have:=World.block_lt_of_cell? _ _ hx12_0;first|rwa [add_block] at this|exact this) GW11.out);replace hx12_0:=zx_ HB hx12_0;replace hx12_0:=(cell_far (p:=⟨gb11,0,none⟩) (by first|(rw [add_block];exact hn12_0)|(show (Addr.add _ _).block≠_;rw [add_block];exact hn12_0)|exact hn12_0) (.slice Ao39 t7.length co39)).trans hx12_0;replace hx12_0:=(cell_far (p:=⟨gb11,1,none⟩) (by first|(rw [add_block];exact hn12_1)|(show (Addr.add _ _).block≠_;rw [add_block];exact hn12_1)|exact hn12_1) (.int .i64 t10)).trans hx12_0;clear hn12_0;clear hn12_1;replace p12:=eq_true p12;replace q12:=eq_true q12;have p13:0≤((ji24):Int):=of_decide_eq_true zq_;have q13:(ji24)<(l0.length:Int):=of_decide_eq_true zq_;obtain ⟨ad13,e13,hx13_0⟩:=Kd.at_int HR0.out (ji24) p13 q13;obtain rfl:ad1=ad13:=(by injection e13);have hn13_0:ad1.block≠gb11:=Nat.ne_of_lt (Nat.lt_of_lt_of_le (by have:=World.block_lt_of_cell? _ _ hx13_0;first|rwa [add_block] at this|exact this) GW11.out);have hn13_1:ad1.block≠gb11:=Nat.ne_of_lt (Nat.lt_of_lt_of_le (by have:=World.block_lt_of_cell? _ _ hx13_0;first|rwa [add_block] at this|exact this) GW11.out);replace hx13_0:=zx_ HB hx13_0;replace hx13_0:=(cell_far (p:=⟨gb11,0,none⟩) (by first|(rw [add_block];exact hn13_0)|(show (Addr.add _ _).block≠_;rw [add_block];exact hn13_0)|exact hn13_0) (.slice Ao39 t7.length co39)).trans hx13_0;replace hx13_0:=(cell_far (p:=⟨gb11,1,none⟩) (by first|(rw [add_block];exact hn13_1)|(show (Addr.add _ _).block≠_;rw [add_block];exact hn13_1)|exact hn13_1) (.int .i64 t10)).trans hx13_0;clear hn13_0;clear hn13_1;replace p13:=eq_true p13;replace q13:=eq_true q13;have p14:0≤((ji28):Int):=of_decide_eq_true zq_;have q14:(ji28)<(t7.length:Int):=of_decide_eq_true zq_;obtain ⟨ad14,e14,hx14_0,hx14_1,hx14_2,hx14_3,hx14_4,hx14_5,hx14_6,hx14_7,hx14_8,hx14_9,hx14_10,hx14_11⟩:=at_T31 (Kd.R_reads' HO9.out).2.2 (ji28) p14 q14;cases e14;have hn14_0:ad14.block≠gb11:=Kd.own_blk (Kd.R_ne HO9.out BK11.out (by decide));have hn14_1:ad14.block≠gb11:=Kd.own_blk (Kd.R_ne HO9.out BK11.out (by decide));replace hx14_0:=(cell_far (p:=⟨gb11,0,none⟩) (by first|(rw [add_block];exact hn14_0)|(show (Addr.add _ _).block≠_;rw [add_block];exact hn14_0)|exact hn14_0) (.slice (some ad14) t7.length co39)).trans hx14_0;replace hx14_1:=(cell_far (p:=⟨gb11,0,none⟩) (by first|(rw [add_block];exact hn14_0)|(show (Addr.add _ _).block≠_;rw [add_block];exact hn14_0)|exact hn14_0) (.slice (some ad14) t7.length co39)).trans hx14_1;replace hx14_2:=(cell_far (p:=⟨gb11,0,none⟩) (by first|(rw [add_block];exact hn14_0)|(show (Addr.add _ _).block≠_;rw [add_block];exact hn14_0)|exact hn14_0) (.slice (some ad14) t7.length co39)).trans hx14_2;replace hx14_3:=(cell_far (p:=⟨gb11,0,none⟩) (by first|(rw [add_block];exact hn14_0)|(show (Addr.add _ _).block≠_;rw [add_block];exact hn14_0)|exact hn14_0) (.slice (some ad14) t7.length co39)).trans hx14_3;replace hx14_4:=(cell_far (p:=⟨gb11,0,none⟩) (by first|(rw [add_block];exact hn14_0)|(show (Addr.add _ _).block≠_;rw [add_block];exact hn14_0)|exact hn14_0) (.slice (some ad14) t7.length co39)).trans hx14_4;replace hx14_5:=(cell_far (p:=⟨gb11,0,none⟩) (by first|(rw [add_block];exact hn14_0)|(show (Addr.add _ _).block≠_;rw [add_block];exact hn14_0)|exact hn14_0) (.slice (some ad14) t7.length co39)).trans hx14_5;replace hx14_6:=(cell_far (p:=⟨gb11,0,none⟩) (by first|(rw [add_block];exact hn14_0)|(show (Addr.add _ _).block≠_;rw [add_block];exact hn14_0)|exact hn14_0) (.slice (some ad14) t7.length co39)).trans hx14_6;replace hx14_7:=(cell_far (p:=⟨gb11,0,none⟩) (by first|(rw [add_block];exact hn14_0)|(show (Addr.add _ _).block≠_;rw [add_block];exact hn14_0)|exact hn14_0) (.slice (some ad14) t7.length co39)).trans hx14_7;replace hx14_8:=(cell_far (p:=⟨gb11,0,none⟩) (by first|(rw [add_block];exact hn14_0)|(show (Addr.add _ _).block≠_;rw [add_block];exact hn14_0)|exact hn14_0) (.slice (some ad14) t7.length co39)).trans hx14_8;replace hx14_9:=(cell_far (p:=⟨gb11,0,none⟩) (by first|(rw [add_block];exact hn14_0)|(show (Addr.add _ _).block≠_;rw [add_block];exact hn14_0)|exact hn14_0) (.slice (some ad14) t7.length co39)).trans hx14_9;replace hx14_10:=(cell_far (p:=⟨gb11,0,none⟩) (by first|(rw [add_block];exact hn14_0)|(show (Addr.add _ _).block≠_;rw [add_block];exact hn14_0)|exact hn14_0) (.slice (some ad14) t7.length co39)).trans hx14_10;replace hx14_11:=(cell_far (p:=⟨gb11,0,none⟩) (by first|(rw [add_block];exact hn14_0)|(show (Addr.add _ _).block≠_;rw [add_block];exact hn14_0)|exact hn14_0) (.slice (some ad14) t7.length co39)).trans hx14_11;replace hx14_0:=(cell_far (p:=⟨gb11,1,none⟩) (by first|(rw [add_block];exact hn14_1)|(show (Addr.add _ _).block≠_;rw [add_block];exact hn14_1)|exact hn14_1) (.int .i64 t10)).trans hx14_0;replace hx14_1:=(cell_far (p:=⟨gb11,1,none⟩) (by first|(rw [add_block];exact hn14_1)|(show (Addr.add _ _).block≠_;rw [add_block];exact hn14_1)|exact hn14_1) (.int .i64 t10)).trans hx14_1;replace hx14_2:=(cell_far (p:=⟨gb11,1,none⟩) (by first|(rw [add_block];exact hn14_1)|(show (Addr.add _ _).block≠_;rw [add_block];exact hn14_1)|exact hn14_1) (.int .i64 t10)).trans hx14_2;replace hx14_3:=(cell_far (p:=⟨gb11,1,none⟩) (by first|(rw [add_block];exact hn14_1)|(show (Addr.add _ _).block≠_;rw [add_block];exact hn14_1)|exact hn14_1) (.int .i64 t10)).trans hx14_3;replace hx14_4:=(cell_far (p:=⟨gb11,1,none⟩) (by first|(rw [add_block];exact hn14_1)|(show (Addr.add _ _).block≠_;rw [add_block];exact hn14_1)|exact hn14_1) (.int .i64 t10)).trans hx14_4;replace hx14_5:=(cell_far (p:=⟨gb11,1,none⟩) (by first|(rw [add_block];exact hn14_1)|(show (Addr.add _ _).block≠_;rw [add_block];exact hn14_1)|exact hn14_1) (.int .i64 t10)).trans hx14_5;replace hx14_6:=(cell_far (p:=⟨gb11,1,none⟩) (by first|(rw [add_block];exact hn14_1)|(show (Addr.add _ _).block≠_;rw [add_block];exact hn14_1)|exact hn14_1) (.int .i64 t10)).trans hx14_6;replace hx14_7:=(cell_far (p:=⟨gb11,1,none⟩) (by first|(rw [add_block];exact hn14_1)|(show (Addr.add _ _).block≠_;rw [add_block];exact hn14_1)|exact hn14_1) (.int .i64 t10)).trans hx14_7;replace hx14_8:=(cell_far (p:=⟨gb11,1,none⟩) (by first|(rw [add_block];exact hn14_1)|(show (Addr.add _ _).block≠_;rw [add_block];exact hn14_1)|exact hn14_1) (.int .i64 t10)).trans hx14_8;replace hx14_9:=(cell_far (p:=⟨gb11,1,none⟩) (by first|(rw [add_block];exact hn14_1)|(show (Addr.add _ _).block≠_;rw [add_block];exact hn14_1)|exact hn14_1) (.int .i64 t10)).trans hx14_9;replace hx14_10:=(cell_far (p:=⟨gb11,1,none⟩) (by first|(rw [add_block];exact hn14_1)|(show (Addr.add _ _).block≠_;rw [add_block];exact hn14_1)|exact hn14_1) (.int .i64 t10)).trans hx14_10;replace hx14_11:=(cell_far (p:=⟨gb11,1,none⟩) (by first|(rw [add_block];exact hn14_1)|(show (Addr.add _ _).block≠_;rw [add_block];exact hn14_1)|exact hn14_1) (.int .i64 t10)).trans hx14_11;clear hn14_0;clear hn14_1;replace p14:=eq_true p14;replace q14:=eq_true q14)|((with_reducible refine gate_callee (f:=66) rfl ?_);refine goesL_ (some 102) rfl rfl Try.func66 (by kernel_rfl) rfl #[.slice (some ad14) t7.length co39, .string ((rd_T31 t7 (ji28)).f0), .agg #[.int .i64 (Int.tmod (wrap64 (rd l0 (ji24))) 16), .int .i64 (wrap64 (Int.tdiv (Int.tmod (wrap64 (rd l0 (ji24))) 16) 2)), .int .i64 (Int.tmod (Int.tmod (wrap64 (rd l0 (ji24))) 16) 3)]] rfl (by (try simp only [List.map_toArray,List.map_cons,List.map_nil]);first|done|(simp only [hji24,hji28];rfl)|rfl|(simp only [List.length_drop,List.length_take];rfl)) ?_;(with_reducible refine (r10_Admit.calls kj11 _ _ t7 ((rd_T31 t7 (ji28)).f0) (Int.tmod (wrap64 (rd l0 (ji24))) 16) (wrap64 (Int.tdiv (Int.tmod (wrap64 (rd l0 (ji24))) 16) 2)) (Int.tmod (Int.tmod (wrap64 (rd l0 (ji24))) 16) 3) t15 t18 _ ?side1 ?side2 A31.out).mono ?_);(case side1=>refine (Kd.R_reads' (e:=31) (base:=w.heap.size) (ok:=fun k_=>(True∧some k_≠(.slice Ao33 x3_1.length co33:Value).ownBlock)) (n:=t7.length) (c:=co39) ?_).2.2;exact (by refine zt_ ?_;exact (Kd.R_mono (Kd.R_far (p:=⟨gb11,1,none⟩) (Kd.R_far (p:=⟨gb11,0,none⟩) (Kd.R_types HO9.out BK11.out (by decide)) (fun _ hk=>hk.2) (.slice (some ad14) t7.length co39)) (fun _ hk=>hk.2) (.int .i64 t10)) (fun _ h_=>h_.1))));(case side2=>exact (Kd.R_reads' HO9.out).2.1);rintro e w41 ⟨v16,rfl,ho0,hb⟩;refine ⟨_,rfl, ?_⟩;replace HO6:=am_ (Kd.R_below (by refine zt_ ?_;exact (Kd.R_mono (Kd.R_far (p:=⟨gb11,1,none⟩) (Kd.R_far (p:=⟨gb11,0,none⟩) (Kd.R_types HO6.out BK11.out (by decide)) (fun _ hk=>hk.2) (.slice (some ad14) t7.length co39)) (fun _ hk=>hk.2) (.int .i64 t10)) (fun _ h_=>h_.1))) hb);have HO17:=am_ (Kd.R_lower (Kd.R_new' (Kd.R_new' ho0 (Kd.R_lt (by refine zt_ ?_;exact (Kd.R_mono (Kd.R_far (p:=⟨gb11,1,none⟩) (Kd.R_far (p:=⟨gb11,0,none⟩) (Kd.R_types HO_3.out BK11.out (by decide)) (fun _ hk=>hk.2) (.slice (some ad14) t7.length co39)) (fun _ hk=>hk.2) (.int .i64 t10)) (fun _ h_=>h_.1))))) (Kd.R_lt (by refine zt_ ?_;exact (Kd.R_mono (Kd.R_far (p:=⟨gb11,1,none⟩) (Kd.R_far (p:=⟨gb11,0,none⟩) (Kd.R_types HO9.out BK11.out (by decide)) (fun _ hk=>hk.2) (.slice (some ad14) t7.length co39)) (fun _ hk=>hk.2) (.int .i64 t10)) (fun _ h_=>h_.1))))) (below_size (zl1_ HB GE11)));replace HO_3:=am_ (Kd.R_elder' (by refine zt_ ?_;exact (Kd.R_mono (Kd.R_far (p:=⟨gb11,1,none⟩) (Kd.R_far (p:=⟨gb11,0,none⟩) (Kd.R_types HO_3.out BK11.out (by decide)) (fun _ hk=>hk.2) (.slice (some ad14) t7.length co39)) (fun _ hk=>hk.2) (.int .i64 t10)) (fun _ h_=>h_.1))) (Kd.R_base ho0) hb);replace HO9:=am_ (Kd.R_elder' (by refine zt_ ?_;exact (Kd.R_mono (Kd.R_far (p:=⟨gb11,1,none⟩) (Kd.R_far (p:=⟨gb11,0,none⟩) (Kd.R_types HO9.out BK11.out (by decide)) (fun _ hk=>hk.2) (.slice (some ad14) t7.length co39)) (fun _ hk=>hk.2) (.int .i64 t10)) (fun _ h_=>h_.1))) (Kd.R_base ho0) hb);replace BK11:=am_ (blk_below (g:=gb11) (o:= .cells #[.slice (some ad14) t7.length co39, .int .i64 t10] 67 (0,0)) (zw_ BK11) hb);replace HB:=am_ (below_step (zl1_ HB GE11) hb);(try clear hb);(try clear hb2);(try clear hk);(try clear hi);(try clear ho0))|((with_reducible refine gate_dst (N:=11) rfl ?_);(try (refine gate_guard (by rfl) ?_;dsimp only));refine bx_ (N:=11) (cs:=#[.slice none 0 0, .int .i64 0]) (t:=67) ?_;intro gb19 hg w42 hbox hb;have n0_:=am_ (Kd.R_below (zr_ HO_3) hb);have n1_:=am_ (Kd.R_below (zr_ HO6) hb);have n2_:=am_ (Kd.R_below (zr_ HO9) hb);have n3_:=am_ (Kd.R_below (zr_ HO17) hb);have n4_:=am_ (blk_below (zb_ BK11) hb);have n5_:=am_ (below_step (zl1_ HB GE11) hb);have n6_:=am_ (hbox);have n8_:=am_ ((zg1_ HB GE11 hg:w.heap.size≤gb19));have n9_:=am_ ((zn_ BK11 hg:gb11≠gb19));have n10_:=am_ ((zm_ BK11 hg:gb19≠gb11));clear HO_3;clear HO6;clear HO9;clear HO17;clear BK11;clear HB;have HO_3:=n0_;have HO6:=n1_;have HO9:=n2_;have HO17:=n3_;have BK11:=n4_;have HB:=n5_;have BK19:=n6_;have GE19:=n8_;clear n0_ n1_ n2_ n3_ n4_ n5_ n6_ n8_ n9_ n10_;clear hb hbox hg;obtain ⟨Ao43,co43,eo43⟩:=Kd.R_slice HO17.out;subst eo43;obtain ⟨hcz45_0,hcz45_1⟩:=x2_ BK19;have hfz45_0:=blk_frozen BK19.out 0;have hfz45_1:=blk_frozen BK19.out 1))
          go_roundg kj11
          case measure=>have:=HK1.out;have:=HJ1.out;have:=HJ7.out;have:=HJ11.out;omega
          case rel=>exact ⟨(t15),(wrap64 (x4_1+3)),(by first|rfl|(simp;done)|(simp [*];done)),H',⟨by have:=HK1.out;have:=HJ1.out;have:=HJ7.out;have:=HJ11.out;omega⟩,⟨zy_ HO17 BK19⟩,⟨zl2_ HB GE11 GE19⟩⟩
         rw [if_neg c32] at H
         have c32b0:(t18==0)=false:=beq_eq_false_iff_ne.mpr c32
         have H':=Aside0.mk H
         clear H
         have p3:0≤((ji19):Int):=of_decide_eq_true zq_
         have q3:(ji19)<(l0.length:Int):=of_decide_eq_true zq_
         obtain ⟨ad3,e3,hx3_0⟩:=Kd.at_int HR0.out (ji19) p3 q3
         obtain rfl:ad1=ad3:=(by injection e3)
         replace hx3_0:=zx_ HB hx3_0
         replace p3:=eq_true p3
         replace q3:=eq_true q3
         obtain ⟨Ao46,co46,eo46⟩:=Kd.R_slice HO_3.out
         subst eo46
         go_wp2_with (first|((with_reducible refine gate_dst (N:=60) rfl ?_);(try (refine gate_guard (by rfl) ?_;dsimp only));refine Kd.R_lit (Kd.int .u8) _ 5 ?hg (N:=60) ?hd (xs:=([(wrap64 (97+(Int.tmod (wrap64 ((x3_1.length:Int)*5)) 24))) % 256]:List Int)) (inner:=[.int .u8 ((wrap64 (97+(Int.tmod (wrap64 ((x3_1.length:Int)*5)) 24))) % 256)]) (ok:=fun _=>True) (okp:=fun _=>True) ?hr ?hp (fun _ hk=>hk) trivial (Below.refl _ _) (Nat.le_refl _) (by simp) ?_;(case hd=>rfl);(case hg=>rfl);(case hr=>first|(go_simp;done)|(go_simp;rfl));(case hp=>exact (Reps.one (show Kd.M (Kd.int .u8) _ _ _ ((wrap64 (97+(Int.tmod (wrap64 ((x3_1.length:Int)*5)) 24))) % 256) [.int .u8 ((wrap64 (97+(Int.tmod (wrap64 ((x3_1.length:Int)*5)) 24))) % 256)] from rfl) (Reps.none _ _)));intro v5 w47 ho48 hb hg_ hnew_;clear hg_ hnew_;(first|rw [←Ny4.out] at ho48|(simp only [Int.reduceToNat] at ho48;rw [←Ny4.out] at ho48));replace HO_3:=am_ (Kd.R_below (zr_ HO_3) hb);have HO6:=am_ (Kd.R_lower ho48 (below_size (zl0_ HB)));replace HB:=am_ (below_step (zl0_ HB) hb);clear hb ho48;have hcv49:=own_string (P:=Try.prog) Try.underlying22 Try.underlying5 Try.underlying9 (Kd.own_of_R HO6.out))|((with_reducible refine gate_callee (f:=83) rfl ?_);refine goesL_ (some 67) rfl rfl Try.func83 (by kernel_rfl) rfl #[.slice Ao46 x3_1.length co46, .string (strOfNums y4), .string x6_11, .agg #[.int .i64 (wrap64 (20+(wrap64 (rd l0 (ji19))))), .int .i64 (wrap64 (20+(wrap64 (rd l0 (ji19))))), .int .i64 (wrap64 (20+(wrap64 (rd l0 (ji19)))))]] rfl (by (try simp only [List.map_toArray,List.map_cons,List.map_nil]);first|done|(simp only [hji19];rfl)|rfl|(simp only [List.length_drop,List.length_take];rfl)) ?_;(with_reducible refine (r10_Create.calls kj11 _ _ x3_1 (strOfNums y4) x6_11 (wrap64 (20+(wrap64 (rd l0 (ji19))))) (wrap64 (20+(wrap64 (rd l0 (ji19))))) (wrap64 (20+(wrap64 (rd l0 (ji19))))) t7 t10 _ ?side1 ?side2 A22.out).mono ?_);(case side1=>exact zc_ (Kd.R_reads' HO_3.out).2.2);(case side2=>exact (Kd.R_reads' HO_3.out).2.1);rintro e w50 ⟨v8,rfl,ho0,hb⟩;refine ⟨_,rfl, ?_⟩;replace HO6:=am_ (Kd.R_below (zr_ HO6) hb);have HO9:=am_ (Kd.R_lower (Kd.R_new' ho0 (Kd.R_lt (zr_ HO_3))) (below_size (zl0_ HB)));replace HO_3:=am_ (Kd.R_elder' (zr_ HO_3) (Kd.R_base ho0) hb);replace HB:=am_ (below_step (zl0_ HB) hb);(try clear hb);(try clear hb2);(try clear hk);(try clear hi);(try clear ho0))|((with_reducible refine gate_dst (N:=8) rfl ?_);(try (refine gate_guard (by rfl) ?_;dsimp only));refine bx_ (N:=8) (cs:=#[.slice none 0 0, .int .i64 0]) (t:=67) ?_;intro gb11 hg w51 hbox hb;replace HO_3:=am_ (Kd.R_below (zr_ HO_3) hb);replace HO6:=am_ (Kd.R_below (zr_ HO6) hb);replace HO9:=am_ (Kd.R_below (zr_ HO9) hb);have BK11:=am_ (hbox);have GW11:=am_ ((zg0_ HB hg:w.heap.size≤gb11));have GE11:=am_ ((zg0_ HB hg:w.heap.size≤gb11));replace HB:=am_ (below_step (zl0_ HB) hb);clear hb hbox hg;obtain ⟨Ao52,co52,eo52⟩:=Kd.R_slice HO9.out;subst eo52;obtain ⟨hcz53_0,hcz53_1,hfz53_0,hfz53_1⟩:=y2_ BK11;have p12:0≤((ji24):Int):=of_decide_eq_true zq_;have q12:(ji24)<(l0.length:Int):=of_decide_eq_true zq_;obtain ⟨ad12,e12,hx12_0⟩:=Kd.at_int HR0.out (ji24) p12 q12;obtain rfl:ad1=ad12:=(by injection e12);have hn12_0:ad1.block≠gb11:=Nat.ne_of_lt (Nat.lt_of_lt_of_le (by have:=World.block_lt_of_cell? _ _ hx12_0;first|rwa [add_block] at this|exact this) GW11.out);have hn12_1:ad1.block≠gb11:=Nat.ne_of_lt (Nat.lt_of_lt_of_le (by have:=World.block_lt_of_cell? _ _ hx12_0;first|rwa [add_block] at this|exact this) GW11.out);replace hx12_0:=zx_ HB hx12_0;replace hx12_0:=(cell_far (p:=⟨gb11,0,none⟩) (by first|(rw [add_block];exact hn12_0)|(show (Addr.add _ _).block≠_;rw [add_block];exact hn12_0)|exact hn12_0) (.slice Ao52 t7.length co52)).trans hx12_0;replace hx12_0:=(cell_far (p:=⟨gb11,1,none⟩) (by first|(rw [add_block];exact hn12_1)|(show (Addr.add _ _).block≠_;rw [add_block];exact hn12_1)|exact hn12_1) (.int .i64 t10)).trans hx12_0;clear hn12_0;clear hn12_1;replace p12:=eq_true p12;replace q12:=eq_true q12;have p13:0≤((ji24):Int):=of_decide_eq_true zq_;have q13:(ji24)<(l0.length:Int):=of_decide_eq_true zq_;obtain ⟨ad13,e13,hx13_0⟩:=Kd.at_int HR0.out (ji24) p13 q13;obtain rfl:ad1=ad13:=(by injection e13);have hn13_0:ad1.block≠gb11:=Nat.ne_of_lt (Nat.lt_of_lt_of_le (by have:=World.block_lt_of_cell? _ _ hx13_0;first|rwa [add_block] at this|exact this) GW11.out);have hn13_1:ad1.block≠gb11:=Nat.ne_of_lt (Nat.lt_of_lt_of_le (by have:=World.block_lt_of_cell? _ _ hx13_0;first|rwa [add_block] at this|exact this) GW11.out);replace hx13_0:=zx_ HB hx13_0;replace hx13_0:=(cell_far (p:=⟨gb11,0,none⟩) (by first|(rw [add_block];exact hn13_0)|(show (Addr.add _ _).block≠_;rw [add_block];exact hn13_0)|exact hn13_0) (.slice Ao52 t7.length co52)).trans hx13_0;replace hx13_0:=(cell_far (p:=⟨gb11,1,none⟩) (by first|(rw [add_block];exact hn13_1)|(show (Addr.add _ _).block≠_;rw [add_block];exact hn13_1)|exact hn13_1) (.int .i64 t10)).trans hx13_0;clear hn13_0;clear hn13_1;replace p13:=eq_true p13;replace q13:=eq_true q13;have p14:0≤((ji28):Int):=of_decide_eq_true zq_;have q14:(ji28)<(t7.length:Int):=of_decide_eq_true zq_;obtain ⟨ad14,e14,hx14_0,hx14_1,hx14_2,hx14_3,hx14_4,hx14_5,hx14_6,hx14_7,hx14_8,hx14_9,hx14_10,hx14_11⟩:=at_T31 (Kd.R_reads' HO9.out).2.2 (ji28) p14 q14;cases e14;have hn14_0:ad14.block≠gb11:=Kd.own_blk (Kd.R_ne HO9.out BK11.out (by decide));have hn14_1:ad14.block≠gb11:=Kd.own_blk (Kd.R_ne HO9.out BK11.out (by decide));replace hx14_0:=(cell_far (p:=⟨gb11,0,none⟩) (by first|(rw [add_block];exact hn14_0)|(show (Addr.add _ _).block≠_;rw [add_block];exact hn14_0)|exact hn14_0) (.slice (some ad14) t7.length co52)).trans hx14_0;replace hx14_1:=(cell_far (p:=⟨gb11,0,none⟩) (by first|(rw [add_block];exact hn14_0)|(show (Addr.add _ _).block≠_;rw [add_block];exact hn14_0)|exact hn14_0) (.slice (some ad14) t7.length co52)).trans hx14_1;replace hx14_2:=(cell_far (p:=⟨gb11,0,none⟩) (by first|(rw [add_block];exact hn14_0)|(show (Addr.add _ _).block≠_;rw [add_block];exact hn14_0)|exact hn14_0) (.slice (some ad14) t7.length co52)).trans hx14_2;replace hx14_3:=(cell_far (p:=⟨gb11,0,none⟩) (by first|(rw [add_block];exact hn14_0)|(show (Addr.add _ _).block≠_;rw [add_block];exact hn14_0)|exact hn14_0) (.slice (some ad14) t7.length co52)).trans hx14_3;replace hx14_4:=(cell_far (p:=⟨gb11,0,none⟩) (by first|(rw [add_block];exact hn14_0)|(show (Addr.add _ _).block≠_;rw [add_block];exact hn14_0)|exact hn14_0) (.slice (some ad14) t7.length co52)).trans hx14_4;replace hx14_5:=(cell_far (p:=⟨gb11,0,none⟩) (by first|(rw [add_block];exact hn14_0)|(show (Addr.add _ _).block≠_;rw [add_block];exact hn14_0)|exact hn14_0) (.slice (some ad14) t7.length co52)).trans hx14_5;replace hx14_6:=(cell_far (p:=⟨gb11,0,none⟩) (by first|(rw [add_block];exact hn14_0)|(show (Addr.add _ _).block≠_;rw [add_block];exact hn14_0)|exact hn14_0) (.slice (some ad14) t7.length co52)).trans hx14_6;replace hx14_7:=(cell_far (p:=⟨gb11,0,none⟩) (by first|(rw [add_block];exact hn14_0)|(show (Addr.add _ _).block≠_;rw [add_block];exact hn14_0)|exact hn14_0) (.slice (some ad14) t7.length co52)).trans hx14_7;replace hx14_8:=(cell_far (p:=⟨gb11,0,none⟩) (by first|(rw [add_block];exact hn14_0)|(show (Addr.add _ _).block≠_;rw [add_block];exact hn14_0)|exact hn14_0) (.slice (some ad14) t7.length co52)).trans hx14_8;replace hx14_9:=(cell_far (p:=⟨gb11,0,none⟩) (by first|(rw [add_block];exact hn14_0)|(show (Addr.add _ _).block≠_;rw [add_block];exact hn14_0)|exact hn14_0) (.slice (some ad14) t7.length co52)).trans hx14_9;replace hx14_10:=(cell_far (p:=⟨gb11,0,none⟩) (by first|(rw [add_block];exact hn14_0)|(show (Addr.add _ _).block≠_;rw [add_block];exact hn14_0)|exact hn14_0) (.slice (some ad14) t7.length co52)).trans hx14_10;replace hx14_11:=(cell_far (p:=⟨gb11,0,none⟩) (by first|(rw [add_block];exact hn14_0)|(show (Addr.add _ _).block≠_;rw [add_block];exact hn14_0)|exact hn14_0) (.slice (some ad14) t7.length co52)).trans hx14_11;replace hx14_0:=(cell_far (p:=⟨gb11,1,none⟩) (by first|(rw [add_block];exact hn14_1)|(show (Addr.add _ _).block≠_;rw [add_block];exact hn14_1)|exact hn14_1) (.int .i64 t10)).trans hx14_0;replace hx14_1:=(cell_far (p:=⟨gb11,1,none⟩) (by first|(rw [add_block];exact hn14_1)|(show (Addr.add _ _).block≠_;rw [add_block];exact hn14_1)|exact hn14_1) (.int .i64 t10)).trans hx14_1;replace hx14_2:=(cell_far (p:=⟨gb11,1,none⟩) (by first|(rw [add_block];exact hn14_1)|(show (Addr.add _ _).block≠_;rw [add_block];exact hn14_1)|exact hn14_1) (.int .i64 t10)).trans hx14_2;replace hx14_3:=(cell_far (p:=⟨gb11,1,none⟩) (by first|(rw [add_block];exact hn14_1)|(show (Addr.add _ _).block≠_;rw [add_block];exact hn14_1)|exact hn14_1) (.int .i64 t10)).trans hx14_3;replace hx14_4:=(cell_far (p:=⟨gb11,1,none⟩) (by first|(rw [add_block];exact hn14_1)|(show (Addr.add _ _).block≠_;rw [add_block];exact hn14_1)|exact hn14_1) (.int .i64 t10)).trans hx14_4;replace hx14_5:=(cell_far (p:=⟨gb11,1,none⟩) (by first|(rw [add_block];exact hn14_1)|(show (Addr.add _ _).block≠_;rw [add_block];exact hn14_1)|exact hn14_1) (.int .i64 t10)).trans hx14_5;replace hx14_6:=(cell_far (p:=⟨gb11,1,none⟩) (by first|(rw [add_block];exact hn14_1)|(show (Addr.add _ _).block≠_;rw [add_block];exact hn14_1)|exact hn14_1) (.int .i64 t10)).trans hx14_6;replace hx14_7:=(cell_far (p:=⟨gb11,1,none⟩) (by first|(rw [add_block];exact hn14_1)|(show (Addr.add _ _).block≠_;rw [add_block];exact hn14_1)|exact hn14_1) (.int .i64 t10)).trans hx14_7;replace hx14_8:=(cell_far (p:=⟨gb11,1,none⟩) (by first|(rw [add_block];exact hn14_1)|(show (Addr.add _ _).block≠_;rw [add_block];exact hn14_1)|exact hn14_1) (.int .i64 t10)).trans hx14_8;replace hx14_9:=(cell_far (p:=⟨gb11,1,none⟩) (by first|(rw [add_block];exact hn14_1)|(show (Addr.add _ _).block≠_;rw [add_block];exact hn14_1)|exact hn14_1) (.int .i64 t10)).trans hx14_9;replace hx14_10:=(cell_far (p:=⟨gb11,1,none⟩) (by first|(rw [add_block];exact hn14_1)|(show (Addr.add _ _).block≠_;rw [add_block];exact hn14_1)|exact hn14_1) (.int .i64 t10)).trans hx14_10;replace hx14_11:=(cell_far (p:=⟨gb11,1,none⟩) (by first|(rw [add_block];exact hn14_1)|(show (Addr.add _ _).block≠_;rw [add_block];exact hn14_1)|exact hn14_1) (.int .i64 t10)).trans hx14_11;clear hn14_0;clear hn14_1;replace p14:=eq_true p14;replace q14:=eq_true q14)|((with_reducible refine gate_callee (f:=66) rfl ?_);refine goesL_ (some 102) rfl rfl Try.func66 (by kernel_rfl) rfl #[.slice (some ad14) t7.length co52, .string ((rd_T31 t7 (ji28)).f0), .agg #[.int .i64 (Int.tmod (wrap64 (rd l0 (ji24))) 16), .int .i64 (wrap64 (Int.tdiv (Int.tmod (wrap64 (rd l0 (ji24))) 16) 2)), .int .i64 (Int.tmod (Int.tmod (wrap64 (rd l0 (ji24))) 16) 3)]] rfl (by (try simp only [List.map_toArray,List.map_cons,List.map_nil]);first|done|(simp only [hji24,hji28];rfl)|rfl|(simp only [List.length_drop,List.length_take];rfl)) ?_;(with_reducible refine (r10_Admit.calls kj11 _ _ t7 ((rd_T31 t7 (ji28)).f0) (Int.tmod (wrap64 (rd l0 (ji24))) 16) (wrap64 (Int.tdiv (Int.tmod (wrap64 (rd l0 (ji24))) 16) 2)) (Int.tmod (Int.tmod (wrap64 (rd l0 (ji24))) 16) 3) t15 t18 _ ?side1 ?side2 A31.out).mono ?_);(case side1=>refine (Kd.R_reads' (e:=31) (base:=w.heap.size) (ok:=fun k_=>(True∧some k_≠(.slice Ao46 x3_1.length co46:Value).ownBlock)) (n:=t7.length) (c:=co52) ?_).2.2;exact (by refine zt_ ?_;exact (Kd.R_mono (Kd.R_far (p:=⟨gb11,1,none⟩) (Kd.R_far (p:=⟨gb11,0,none⟩) (Kd.R_types HO9.out BK11.out (by decide)) (fun _ hk=>hk.2) (.slice (some ad14) t7.length co52)) (fun _ hk=>hk.2) (.int .i64 t10)) (fun _ h_=>h_.1))));(case side2=>exact (Kd.R_reads' HO9.out).2.1);rintro e w54 ⟨v16,rfl,ho0,hb⟩;refine ⟨_,rfl, ?_⟩;replace HO6:=am_ (Kd.R_below (by refine zt_ ?_;exact (Kd.R_mono (Kd.R_far (p:=⟨gb11,1,none⟩) (Kd.R_far (p:=⟨gb11,0,none⟩) (Kd.R_types HO6.out BK11.out (by decide)) (fun _ hk=>hk.2) (.slice (some ad14) t7.length co52)) (fun _ hk=>hk.2) (.int .i64 t10)) (fun _ h_=>h_.1))) hb);have HO17:=am_ (Kd.R_lower (Kd.R_new' (Kd.R_new' ho0 (Kd.R_lt (by refine zt_ ?_;exact (Kd.R_mono (Kd.R_far (p:=⟨gb11,1,none⟩) (Kd.R_far (p:=⟨gb11,0,none⟩) (Kd.R_types HO_3.out BK11.out (by decide)) (fun _ hk=>hk.2) (.slice (some ad14) t7.length co52)) (fun _ hk=>hk.2) (.int .i64 t10)) (fun _ h_=>h_.1))))) (Kd.R_lt (by refine zt_ ?_;exact (Kd.R_mono (Kd.R_far (p:=⟨gb11,1,none⟩) (Kd.R_far (p:=⟨gb11,0,none⟩) (Kd.R_types HO9.out BK11.out (by decide)) (fun _ hk=>hk.2) (.slice (some ad14) t7.length co52)) (fun _ hk=>hk.2) (.int .i64 t10)) (fun _ h_=>h_.1))))) (below_size (zl1_ HB GE11)));replace HO_3:=am_ (Kd.R_elder' (by refine zt_ ?_;exact (Kd.R_mono (Kd.R_far (p:=⟨gb11,1,none⟩) (Kd.R_far (p:=⟨gb11,0,none⟩) (Kd.R_types HO_3.out BK11.out (by decide)) (fun _ hk=>hk.2) (.slice (some ad14) t7.length co52)) (fun _ hk=>hk.2) (.int .i64 t10)) (fun _ h_=>h_.1))) (Kd.R_base ho0) hb);replace HO9:=am_ (Kd.R_elder' (by refine zt_ ?_;exact (Kd.R_mono (Kd.R_far (p:=⟨gb11,1,none⟩) (Kd.R_far (p:=⟨gb11,0,none⟩) (Kd.R_types HO9.out BK11.out (by decide)) (fun _ hk=>hk.2) (.slice (some ad14) t7.length co52)) (fun _ hk=>hk.2) (.int .i64 t10)) (fun _ h_=>h_.1))) (Kd.R_base ho0) hb);replace BK11:=am_ (blk_below (g:=gb11) (o:= .cells #[.slice (some ad14) t7.length co52, .int .i64 t10] 67 (0,0)) (zw_ BK11) hb);replace HB:=am_ (below_step (zl1_ HB GE11) hb);(try clear hb);(try clear hb2);(try clear hk);(try clear hi);(try clear ho0))|((with_reducible refine gate_dst (N:=11) rfl ?_);(try (refine gate_guard (by rfl) ?_;dsimp only));refine bx_ (N:=11) (cs:=#[.slice none 0 0, .int .i64 0]) (t:=67) ?_;intro gb19 hg w55 hbox hb;have n0_:=am_ (Kd.R_below (zr_ HO_3) hb);have n1_:=am_ (Kd.R_below (zr_ HO6) hb);have n2_:=am_ (Kd.R_below (zr_ HO9) hb);have n3_:=am_ (Kd.R_below (zr_ HO17) hb);have n4_:=am_ (blk_below (zb_ BK11) hb);have n5_:=am_ (below_step (zl1_ HB GE11) hb);have n6_:=am_ (hbox);have n8_:=am_ ((zg1_ HB GE11 hg:w.heap.size≤gb19));have n9_:=am_ ((zn_ BK11 hg:gb11≠gb19));have n10_:=am_ ((zm_ BK11 hg:gb19≠gb11));clear HO_3;clear HO6;clear HO9;clear HO17;clear BK11;clear HB;have HO_3:=n0_;have HO6:=n1_;have HO9:=n2_;have HO17:=n3_;have BK11:=n4_;have HB:=n5_;have BK19:=n6_;have GE19:=n8_;clear n0_ n1_ n2_ n3_ n4_ n5_ n6_ n8_ n9_ n10_;clear hb hbox hg;obtain ⟨Ao56,co56,eo56⟩:=Kd.R_slice HO17.out;subst eo56;obtain ⟨hcz58_0,hcz58_1⟩:=x2_ BK19;have hfz58_0:=blk_frozen BK19.out 0;have hfz58_1:=blk_frozen BK19.out 1))
         go_roundg kj11
         case measure=>have:=HK1.out;have:=HJ1.out;have:=HJ7.out;have:=HJ11.out;omega
         case rel=>exact ⟨(t7),(wrap64 (x4_1+3)),(by first|rfl|(simp;done)|(simp [*];done)),H',⟨by have:=HK1.out;have:=HJ1.out;have:=HJ7.out;have:=HJ11.out;omega⟩,⟨zy_ HO9 BK19⟩,⟨zl2_ HB GE11 GE19⟩⟩
def drift_Text.f (a0_0:ByteArray) (a0_1:Int):Option (ByteArray):=if a0_1=1 then (if a0_0.size+8≤9223372036854775807 then (some (a0_0++(⟨#[32,105,115,32,103,111,110,101]⟩:ByteArray))) else (none)) else (if a0_1=2 then (if a0_0.size+10≤9223372036854775807 then (some (a0_0++(⟨#[32,119,97,115,32,109,111,118,101,100]⟩:ByteArray))) else (none)) else (if a0_1=3 then (if a0_0.size+18≤9223372036854775807 then (some (a0_0++(⟨#[32,104,97,115,32,97,110,111,116,104,101,114,32,108,105,109,105,116]⟩:ByteArray))) else (none)) else (some a0_0)))
set_option maxHeartbeats 8000000 in
set_option maxRecDepth 100000 in
theorem drift_Text.calls (a0_0:ByteArray) (a0_1:Int) (r:ByteArray) (w:World) (h:drift_Text.f a0_0 a0_1=some r):
  Calls Try.prog 39 #[.agg #[.string a0_0, .int .i64 a0_1]] w fun e w'=>e= .returned (.string r)∧Below w.heap.size w w':=by
 have hu37:=Try.underlying37
 have HB:=am_ (Below.refl w.heap.size w)
 have H:(if a0_1=1 then (if a0_0.size+8≤9223372036854775807 then (some (a0_0++(⟨#[32,105,115,32,103,111,110,101]⟩:ByteArray))) else (none)) else (if a0_1=2 then (if a0_0.size+10≤9223372036854775807 then (some (a0_0++(⟨#[32,119,97,115,32,109,111,118,101,100]⟩:ByteArray))) else (none)) else (if a0_1=3 then (if a0_0.size+18≤9223372036854775807 then (some (a0_0++(⟨#[32,104,97,115,32,97,110,111,116,104,101,114,32,108,105,109,105,116]⟩:ByteArray))) else (none)) else (some a0_0))))=some r:=h
 clear h
 by_cases c2:a0_1=1
 ·rw [if_pos c2] at H
  have c2b0:(a0_1==1)=true:=beq_iff_eq.mpr c2
  have c2b1:(a0_1 !=1)=false:=bne_eq_false_iff_eq.mpr c2
  clear c2
  by_cases c3:a0_0.size+8≤9223372036854775807
  rotate_left
  ·rw [if_neg c3] at H
   exact absurd H (by simp)
  rw [if_pos c3] at H
  have c3b0:=eq_true c3
  have c3b1:decide (a0_0.size+8≤9223372036854775807)=true:=decide_eq_true c3
  try have c3b2:(9223372036854775807<a0_0.size+8)=False:=eq_false (Nat.not_lt.2 c3)
  obtain rfl:=Option.some.inj H
  go_enter Try.func39,Try.ntmps39
  go_wp2_with (first|((with_reducible refine gate_dst (N:=1) rfl ?_);refine bx_ (N:=1) (cs:=#[.string a0_0, .int .i64 a0_1]) (t:=37) ?_;intro gb1 hg w4 hbox hb;have BK1:=am_ (hbox);have GW1:=am_ ((zg0_ HB hg:w.heap.size≤gb1));have GE1:=am_ ((zg0_ HB hg:w.heap.size≤gb1));replace HB:=am_ (below_step (zl0_ HB) hb);clear hb hbox hg;obtain ⟨hcz5_0,hcz5_1⟩:=x2_ BK1;have hfz5_0:=blk_frozen BK1.out 0;have hfz5_1:=blk_frozen BK1.out 1))
  go_ret
  exact ⟨by first|rfl|(simp [errW_none,errW_some]<;>rfl)|(simp [*,errW_none,errW_some]<;>rfl),zl1_ HB GE1⟩
 rw [if_neg c2] at H
 have c2b0:(a0_1==1)=false:=beq_eq_false_iff_ne.mpr c2
 have c2b1:(a0_1 !=1)=true:=bne_iff_ne.mpr c2
 by_cases c6:a0_1=2
 ·rw [if_pos c6] at H
  have c6b0:(a0_1==2)=true:=beq_iff_eq.mpr c6
  have c6b1:(a0_1 !=2)=false:=bne_eq_false_iff_eq.mpr c6
  clear c6
  by_cases c7:a0_0.size+10≤9223372036854775807
  rotate_left
  ·rw [if_neg c7] at H
   exact absurd H (by simp)
  rw [if_pos c7] at H
  have c7b0:=eq_true c7
  have c7b1:decide (a0_0.size+10≤9223372036854775807)=true:=decide_eq_true c7
  try have c7b2:(9223372036854775807<a0_0.size+10)=False:=eq_false (Nat.not_lt.2 c7)
  obtain rfl:=Option.some.inj H
  go_enter Try.func39,Try.ntmps39
  go_wp2_with (first|((with_reducible refine gate_dst (N:=1) rfl ?_);refine bx_ (N:=1) (cs:=#[.string a0_0, .int .i64 a0_1]) (t:=37) ?_;intro gb1 hg w8 hbox hb;have BK1:=am_ (hbox);have GW1:=am_ ((zg0_ HB hg:w.heap.size≤gb1));have GE1:=am_ ((zg0_ HB hg:w.heap.size≤gb1));replace HB:=am_ (below_step (zl0_ HB) hb);clear hb hbox hg;obtain ⟨hcz9_0,hcz9_1⟩:=x2_ BK1;have hfz9_0:=blk_frozen BK1.out 0;have hfz9_1:=blk_frozen BK1.out 1))
  go_ret
  exact ⟨by first|rfl|(simp [errW_none,errW_some]<;>rfl)|(simp [*,errW_none,errW_some]<;>rfl),zl1_ HB GE1⟩
 rw [if_neg c6] at H
 have c6b0:(a0_1==2)=false:=beq_eq_false_iff_ne.mpr c6
 have c6b1:(a0_1 !=2)=true:=bne_iff_ne.mpr c6
 by_cases c10:a0_1=3
 rotate_left
 ·rw [if_neg c10] at H
  have c10b0:(a0_1==3)=false:=beq_eq_false_iff_ne.mpr c10
  have c10b1:(a0_1 !=3)=true:=bne_iff_ne.mpr c10
  obtain rfl:=Option.some.inj H
  go_enter Try.func39,Try.ntmps39
  go_wp2_with (first|((with_reducible refine gate_dst (N:=1) rfl ?_);refine bx_ (N:=1) (cs:=#[.string a0_0, .int .i64 a0_1]) (t:=37) ?_;intro gb1 hg w14 hbox hb;have BK1:=am_ (hbox);have GW1:=am_ ((zg0_ HB hg:w.heap.size≤gb1));have GE1:=am_ ((zg0_ HB hg:w.heap.size≤gb1));replace HB:=am_ (below_step (zl0_ HB) hb);clear hb hbox hg;obtain ⟨hcz15_0,hcz15_1⟩:=x2_ BK1;have hfz15_0:=blk_frozen BK1.out 0;have hfz15_1:=blk_frozen BK1.out 1))
  go_ret
  exact ⟨by first|rfl|(simp [errW_none,errW_some]<;>rfl)|(simp [*,errW_none,errW_some]<;>rfl),zl1_ HB GE1⟩

 rw [if_pos c10] at H
 have c10b0:(a0_1==3)=true:=beq_iff_eq.mpr c10
 have c10b1:(a0_1 !=3)=false:=bne_eq_false_iff_eq.mpr c10
 clear c10
 by_cases c11:a0_0.size+18≤9223372036854775807
 rotate_left
 ·rw [if_neg c11] at H
  exact absurd H (by simp)
 rw [if_pos c11] at H
 have c11b0:=eq_true c11
 have c11b1:decide (a0_0.size+18≤9223372036854775807)=true:=decide_eq_true c11
 try have c11b2:(9223372036854775807<a0_0.size+18)=False:=eq_false (Nat.not_lt.2 c11)
 obtain rfl:=Option.some.inj H
 go_enter Try.func39,Try.ntmps39
 go_wp2_with (first|((with_reducible refine gate_dst (N:=1) rfl ?_);refine bx_ (N:=1) (cs:=#[.string a0_0, .int .i64 a0_1]) (t:=37) ?_;intro gb1 hg w12 hbox hb;have BK1:=am_ (hbox);have GW1:=am_ ((zg0_ HB hg:w.heap.size≤gb1));have GE1:=am_ ((zg0_ HB hg:w.heap.size≤gb1));replace HB:=am_ (below_step (zl0_ HB) hb);clear hb hbox hg;obtain ⟨hcz13_0,hcz13_1⟩:=x2_ BK1;have hfz13_0:=blk_frozen BK1.out 0;have hfz13_1:=blk_frozen BK1.out 1))
 go_ret
 exact ⟨by first|rfl|(simp [errW_none,errW_some]<;>rfl)|(simp [*,errW_none,errW_some]<;>rfl),zl1_ HB GE1⟩
def law17_awake.f:Option (Bool):=(drift_Of.f (([(⟨(⟨#[97]⟩:ByteArray),(⟨#[]⟩:ByteArray),(⟨0,0,0⟩:S27),1⟩:S54)]:List (S54))) ([]:List (S31))).bind fun t4=>((drift_Of.f ([]:List (S54)) ([]:List (S31))).bind fun t7=>(if (t7.length:Int)=0 then (if (t4.length:Int)=1 then (if 0<(t4.length:Int) then (if ((rd_T37 t4 0).f1)=1 then ((drift_Text.f ((rd_T37 t4 0).f0) ((rd_T37 t4 0).f1)).bind fun t12=>(some (t12.toList==([97,32,105,115,32,103,111,110,101]:List UInt8)))) else (some false)) else (none)) else (some false)) else (some false)))
set_option maxHeartbeats 8000000 in
set_option maxRecDepth 100000 in
theorem law17_awake.calls (r:Bool) (w:World) (h:law17_awake.f=some r):
  Calls Try.prog 38 #[] w fun e w'=>e= .returned (.bool r)∧Below w.heap.size w w':=by
 have hu54:=Try.underlying54
 have hu37:=Try.underlying37
 have HB:=am_ (Below.refl w.heap.size w)
 have H:((drift_Of.f (([(⟨(⟨#[97]⟩:ByteArray),(⟨#[]⟩:ByteArray),(⟨0,0,0⟩:S27),1⟩:S54)]:List (S54))) ([]:List (S31))).bind fun t4=>((drift_Of.f ([]:List (S54)) ([]:List (S31))).bind fun t7=>(if (t7.length:Int)=0 then (if (t4.length:Int)=1 then (if 0<(t4.length:Int) then (if ((rd_T37 t4 0).f1)=1 then ((drift_Text.f ((rd_T37 t4 0).f0) ((rd_T37 t4 0).f1)).bind fun t12=>(some (t12.toList==([97,32,105,115,32,103,111,110,101]:List UInt8)))) else (some false)) else (none)) else (some false)) else (some false))))=some r:=h
 clear h
 obtain ⟨y1,hy1⟩: ∃y_:List (S54),y_=(([(⟨(⟨#[97]⟩:ByteArray),(⟨#[]⟩:ByteArray),(⟨0,0,0⟩:S27),1⟩:S54)]:List (S54))):=⟨_,rfl⟩
 replace H:((drift_Of.f y1 ([]:List (S31))).bind fun t4=>((drift_Of.f ([]:List (S54)) ([]:List (S31))).bind fun t7=>(if (t7.length:Int)=0 then (if (t4.length:Int)=1 then (if 0<(t4.length:Int) then (if ((rd_T37 t4 0).f1)=1 then ((drift_Text.f ((rd_T37 t4 0).f0) ((rd_T37 t4 0).f1)).bind fun t12=>(some (t12.toList==([97,32,105,115,32,103,111,110,101]:List UInt8)))) else (some false)) else (none)) else (some false)) else (some false))))=some r:=by first|(rw [hy1];with_reducible exact H)|(have H2_:=(Option.bind_some _ _).symm.trans H;rw [hy1];with_reducible exact H2_)|(have H2_:=(Option.bind_some _ _).symm.trans H;with_reducible exact H2_)|with_reducible exact H|(rw [hy1];exact H)|exact H
 have Ny1:=Aside0.mk hy1
 clear hy1
 replace H:=Option.bind_eq_some_iff.mp H
 obtain ⟨t4,A10,H⟩:=H
 try dsimp only at H
 have A1:=Aside0.mk A10
 clear A10
 replace H:=Option.bind_eq_some_iff.mp H
 obtain ⟨t7,A20,H⟩:=H
 try dsimp only at H
 have A2:=Aside0.mk A20
 clear A20
 by_cases c3:(t7.length:Int)=0
 rotate_left
 ·rw [if_neg c3] at H
  have c3b0:((t7.length:Int)==0)=false:=beq_eq_false_iff_ne.mpr c3
  have c3b1:((t7.length:Int) !=0)=true:=bne_iff_ne.mpr c3
  have c3b2: ¬(t7=[]):=fun h_=>c3 (by rw [h_];rfl)
  obtain rfl:=Option.some.inj H
  go_enter Try.func38,Try.ntmps38
  go_wp2_with (first|((with_reducible refine gate_dst (N:=3) rfl ?_);(try (refine gate_guard (by rfl) ?_;dsimp only));refine Kd.R_lit k54 _ 54 ?hg (N:=3) ?hd (xs:=([(⟨(⟨#[97]⟩:ByteArray),(⟨#[]⟩:ByteArray),(⟨0,0,0⟩:S27),1⟩:S54)]:List (S54))) (inner:=[.string (⟨#[97]⟩:ByteArray), .string (⟨#[]⟩:ByteArray), .int .i64 0, .int .i64 0, .int .i64 0, .int .i64 1]) (ok:=fun _=>True) (okp:=fun _=>True) ?hr ?hp (fun _ hk=>hk) trivial (Below.refl _ _) (Nat.le_refl _) (by simp) ?_;(case hd=>rfl);(case hg=>rfl);(case hr=>first|(go_simp;done)|(go_simp;rfl));(case hp=>exact (Reps.c6 (show Kd.M k54 _ _ _ (⟨(⟨#[97]⟩:ByteArray),(⟨#[]⟩:ByteArray),(⟨0,0,0⟩:S27),1⟩:S54) [.string (⟨#[97]⟩:ByteArray), .string (⟨#[]⟩:ByteArray), .int .i64 0, .int .i64 0, .int .i64 0, .int .i64 1] from (k54_mkM _ _ _ (⟨(⟨#[97]⟩:ByteArray),(⟨#[]⟩:ByteArray),(⟨0,0,0⟩:S27),1⟩:S54))) (Reps.none _ _)));intro v2 w30 ho31 hb hg_ hnew_;clear hg_ hnew_;(first|rw [←Ny1.out] at ho31|(simp only [Int.reduceToNat] at ho31;rw [←Ny1.out] at ho31));have HO3:=am_ (Kd.R_lower ho31 (below_size (zl0_ HB)));replace HB:=am_ (below_step (zl0_ HB) hb);clear hb ho31;obtain ⟨Ao32,co32,eo32⟩:=Kd.R_slice HO3.out;subst eo32)|((with_reducible refine gate_callee (f:=43) rfl ?_);refine gl_ (some 4) Try.func43 #[.slice Ao32 y1.length co32, .slice none 0 0] ?_;(refine (drift_Of.calls _ _ y1 _ _ ([]:List (S31)) t4 _ ?side1 ?side2 ?side3 ?side4 A1.out).mono ?_);(case side1=>exact zc_ (Kd.R_reads' HO3.out).2.2);(case side2=>exact (Kd.R_reads' HO3.out).2.1);(case side3=>exact Kd.C_nil _ _);(case side4=>exact Nat.le_refl _);rintro e w33 ⟨v5,rfl,ho0,hb⟩;refine ⟨_,rfl, ?_⟩;replace HO3:=am_ (Kd.R_below (zr_ HO3) hb);have HO6:=am_ (Kd.R_lower ho0 (below_size (zl0_ HB)));replace HB:=am_ (below_step (zl0_ HB) hb);(try clear hb);(try clear hb2);(try clear hk);(try clear hi);(try clear ho0))|((with_reducible refine gate_callee (f:=43) rfl ?_);refine gl_ (some 5) Try.func43 #[.slice none 0 0, .slice none 0 0] ?_;(refine (drift_Of.calls _ _ ([]:List (S54)) _ _ ([]:List (S31)) t7 _ ?side1 ?side2 ?side3 ?side4 A2.out).mono ?_);(case side1=>exact Kd.C_nil _ _);(case side2=>exact Nat.le_refl _);(case side3=>exact Kd.C_nil _ _);(case side4=>exact Nat.le_refl _);rintro e w34 ⟨v8,rfl,ho0,hb⟩;refine ⟨_,rfl, ?_⟩;replace HO3:=am_ (Kd.R_below (zr_ HO3) hb);have HO9:=am_ (Kd.R_lower (Kd.R_new' ho0 (Kd.R_lt (zr_ HO6))) (below_size (zl0_ HB)));replace HO6:=am_ (Kd.R_elder' (zr_ HO6) (Kd.R_base ho0) hb);replace HB:=am_ (below_step (zl0_ HB) hb);(try clear hb);(try clear hb2);(try clear hk);(try clear hi);(try clear ho0);obtain ⟨Ao35,co35,eo35⟩:=Kd.R_slice HO9.out;subst eo35))
  go_ret
  exact ⟨by first|rfl|(simp [errW_none,errW_some]<;>rfl)|(simp [*,errW_none,errW_some]<;>rfl),zl0_ HB⟩

 rw [if_pos c3] at H
 have c3b0:((t7.length:Int)==0)=true:=beq_iff_eq.mpr c3
 have c3b1:((t7.length:Int) !=0)=false:=bne_eq_false_iff_eq.mpr c3
 clear c3
 by_cases c4:(t4.length:Int)=1
 rotate_left
 ·rw [if_neg c4] at H
  have c4b0:((t4.length:Int)==1)=false:=beq_eq_false_iff_ne.mpr c4
  have c4b1:((t4.length:Int) !=1)=true:=bne_iff_ne.mpr c4
  obtain rfl:=Option.some.inj H
  go_enter Try.func38,Try.ntmps38
  go_wp2_with (first|((with_reducible refine gate_dst (N:=3) rfl ?_);(try (refine gate_guard (by rfl) ?_;dsimp only));refine Kd.R_lit k54 _ 54 ?hg (N:=3) ?hd (xs:=([(⟨(⟨#[97]⟩:ByteArray),(⟨#[]⟩:ByteArray),(⟨0,0,0⟩:S27),1⟩:S54)]:List (S54))) (inner:=[.string (⟨#[97]⟩:ByteArray), .string (⟨#[]⟩:ByteArray), .int .i64 0, .int .i64 0, .int .i64 0, .int .i64 1]) (ok:=fun _=>True) (okp:=fun _=>True) ?hr ?hp (fun _ hk=>hk) trivial (Below.refl _ _) (Nat.le_refl _) (by simp) ?_;(case hd=>rfl);(case hg=>rfl);(case hr=>first|(go_simp;done)|(go_simp;rfl));(case hp=>exact (Reps.c6 (show Kd.M k54 _ _ _ (⟨(⟨#[97]⟩:ByteArray),(⟨#[]⟩:ByteArray),(⟨0,0,0⟩:S27),1⟩:S54) [.string (⟨#[97]⟩:ByteArray), .string (⟨#[]⟩:ByteArray), .int .i64 0, .int .i64 0, .int .i64 0, .int .i64 1] from (k54_mkM _ _ _ (⟨(⟨#[97]⟩:ByteArray),(⟨#[]⟩:ByteArray),(⟨0,0,0⟩:S27),1⟩:S54))) (Reps.none _ _)));intro v2 w23 ho24 hb hg_ hnew_;clear hg_ hnew_;(first|rw [←Ny1.out] at ho24|(simp only [Int.reduceToNat] at ho24;rw [←Ny1.out] at ho24));have HO3:=am_ (Kd.R_lower ho24 (below_size (zl0_ HB)));replace HB:=am_ (below_step (zl0_ HB) hb);clear hb ho24;obtain ⟨Ao25,co25,eo25⟩:=Kd.R_slice HO3.out;subst eo25)|((with_reducible refine gate_callee (f:=43) rfl ?_);refine gl_ (some 4) Try.func43 #[.slice Ao25 y1.length co25, .slice none 0 0] ?_;(refine (drift_Of.calls _ _ y1 _ _ ([]:List (S31)) t4 _ ?side1 ?side2 ?side3 ?side4 A1.out).mono ?_);(case side1=>exact zc_ (Kd.R_reads' HO3.out).2.2);(case side2=>exact (Kd.R_reads' HO3.out).2.1);(case side3=>exact Kd.C_nil _ _);(case side4=>exact Nat.le_refl _);rintro e w26 ⟨v5,rfl,ho0,hb⟩;refine ⟨_,rfl, ?_⟩;replace HO3:=am_ (Kd.R_below (zr_ HO3) hb);have HO6:=am_ (Kd.R_lower ho0 (below_size (zl0_ HB)));replace HB:=am_ (below_step (zl0_ HB) hb);(try clear hb);(try clear hb2);(try clear hk);(try clear hi);(try clear ho0))|((with_reducible refine gate_callee (f:=43) rfl ?_);refine gl_ (some 5) Try.func43 #[.slice none 0 0, .slice none 0 0] ?_;(refine (drift_Of.calls _ _ ([]:List (S54)) _ _ ([]:List (S31)) t7 _ ?side1 ?side2 ?side3 ?side4 A2.out).mono ?_);(case side1=>exact Kd.C_nil _ _);(case side2=>exact Nat.le_refl _);(case side3=>exact Kd.C_nil _ _);(case side4=>exact Nat.le_refl _);rintro e w27 ⟨v8,rfl,ho0,hb⟩;refine ⟨_,rfl, ?_⟩;replace HO3:=am_ (Kd.R_below (zr_ HO3) hb);have HO9:=am_ (Kd.R_lower (Kd.R_new' ho0 (Kd.R_lt (zr_ HO6))) (below_size (zl0_ HB)));replace HO6:=am_ (Kd.R_elder' (zr_ HO6) (Kd.R_base ho0) hb);replace HB:=am_ (below_step (zl0_ HB) hb);(try clear hb);(try clear hb2);(try clear hk);(try clear hi);(try clear ho0);obtain ⟨Ao28,co28,eo28⟩:=Kd.R_slice HO9.out;subst eo28;obtain ⟨Ao29,co29,eo29⟩:=Kd.R_slice HO6.out;subst eo29))
  go_ret
  exact ⟨by first|rfl|(simp [errW_none,errW_some]<;>rfl)|(simp [*,errW_none,errW_some]<;>rfl),zl0_ HB⟩
 rw [if_pos c4] at H
 have c4b0:((t4.length:Int)==1)=true:=beq_iff_eq.mpr c4
 have c4b1:((t4.length:Int) !=1)=false:=bne_eq_false_iff_eq.mpr c4
 clear c4
 by_cases c5:0<(t4.length:Int)
 rotate_left
 ·rw [if_neg c5] at H
  exact absurd H (by simp)
 rw [if_pos c5] at H
 have c5b0:decide (0<(t4.length:Int))=true:=decide_eq_true c5
 have c5b1:decide (0<t4.length)=true:=decide_eq_true (by omega)
 clear c5
 by_cases c6:((rd_T37 t4 0).f1)=1
 rotate_left
 ·rw [if_neg c6] at H
  have c6b0:(((rd_T37 t4 0).f1)==1)=false:=beq_eq_false_iff_ne.mpr c6
  have c6b1:(((rd_T37 t4 0).f1) !=1)=true:=bne_iff_ne.mpr c6
  obtain rfl:=Option.some.inj H
  go_enter Try.func38,Try.ntmps38
  go_wp2_with (first|((with_reducible refine gate_dst (N:=3) rfl ?_);(try (refine gate_guard (by rfl) ?_;dsimp only));refine Kd.R_lit k54 _ 54 ?hg (N:=3) ?hd (xs:=([(⟨(⟨#[97]⟩:ByteArray),(⟨#[]⟩:ByteArray),(⟨0,0,0⟩:S27),1⟩:S54)]:List (S54))) (inner:=[.string (⟨#[97]⟩:ByteArray), .string (⟨#[]⟩:ByteArray), .int .i64 0, .int .i64 0, .int .i64 0, .int .i64 1]) (ok:=fun _=>True) (okp:=fun _=>True) ?hr ?hp (fun _ hk=>hk) trivial (Below.refl _ _) (Nat.le_refl _) (by simp) ?_;(case hd=>rfl);(case hg=>rfl);(case hr=>first|(go_simp;done)|(go_simp;rfl));(case hp=>exact (Reps.c6 (show Kd.M k54 _ _ _ (⟨(⟨#[97]⟩:ByteArray),(⟨#[]⟩:ByteArray),(⟨0,0,0⟩:S27),1⟩:S54) [.string (⟨#[97]⟩:ByteArray), .string (⟨#[]⟩:ByteArray), .int .i64 0, .int .i64 0, .int .i64 0, .int .i64 1] from (k54_mkM _ _ _ (⟨(⟨#[97]⟩:ByteArray),(⟨#[]⟩:ByteArray),(⟨0,0,0⟩:S27),1⟩:S54))) (Reps.none _ _)));intro v2 w16 ho17 hb hg_ hnew_;clear hg_ hnew_;(first|rw [←Ny1.out] at ho17|(simp only [Int.reduceToNat] at ho17;rw [←Ny1.out] at ho17));have HO3:=am_ (Kd.R_lower ho17 (below_size (zl0_ HB)));replace HB:=am_ (below_step (zl0_ HB) hb);clear hb ho17;obtain ⟨Ao18,co18,eo18⟩:=Kd.R_slice HO3.out;subst eo18)|((with_reducible refine gate_callee (f:=43) rfl ?_);refine gl_ (some 4) Try.func43 #[.slice Ao18 y1.length co18, .slice none 0 0] ?_;(refine (drift_Of.calls _ _ y1 _ _ ([]:List (S31)) t4 _ ?side1 ?side2 ?side3 ?side4 A1.out).mono ?_);(case side1=>exact zc_ (Kd.R_reads' HO3.out).2.2);(case side2=>exact (Kd.R_reads' HO3.out).2.1);(case side3=>exact Kd.C_nil _ _);(case side4=>exact Nat.le_refl _);rintro e w19 ⟨v5,rfl,ho0,hb⟩;refine ⟨_,rfl, ?_⟩;replace HO3:=am_ (Kd.R_below (zr_ HO3) hb);have HO6:=am_ (Kd.R_lower ho0 (below_size (zl0_ HB)));replace HB:=am_ (below_step (zl0_ HB) hb);(try clear hb);(try clear hb2);(try clear hk);(try clear hi);(try clear ho0))|((with_reducible refine gate_callee (f:=43) rfl ?_);refine gl_ (some 5) Try.func43 #[.slice none 0 0, .slice none 0 0] ?_;(refine (drift_Of.calls _ _ ([]:List (S54)) _ _ ([]:List (S31)) t7 _ ?side1 ?side2 ?side3 ?side4 A2.out).mono ?_);(case side1=>exact Kd.C_nil _ _);(case side2=>exact Nat.le_refl _);(case side3=>exact Kd.C_nil _ _);(case side4=>exact Nat.le_refl _);rintro e w20 ⟨v8,rfl,ho0,hb⟩;refine ⟨_,rfl, ?_⟩;replace HO3:=am_ (Kd.R_below (zr_ HO3) hb);have HO9:=am_ (Kd.R_lower (Kd.R_new' ho0 (Kd.R_lt (zr_ HO6))) (below_size (zl0_ HB)));replace HO6:=am_ (Kd.R_elder' (zr_ HO6) (Kd.R_base ho0) hb);replace HB:=am_ (below_step (zl0_ HB) hb);(try clear hb);(try clear hb2);(try clear hk);(try clear hi);(try clear ho0);obtain ⟨Ao21,co21,eo21⟩:=Kd.R_slice HO9.out;subst eo21;obtain ⟨Ao22,co22,eo22⟩:=Kd.R_slice HO6.out;subst eo22;have p10:0≤(0:Int):=(by omega);have q10:0<(t4.length:Int):=of_decide_eq_true zq_;obtain ⟨ad10,e10,hx10_0,hx10_1⟩:=at_T37 (Kd.R_reads' HO6.out).2.2 0 p10 q10;cases e10;have qi10:(0<t4.length)=True:=eq_true (by omega);(try rw [show ((0:Int)).toNat=0 from rfl] at hx10_0);(try rw [show 0*2=0 from rfl] at hx10_0);(try rw [Addr.add_zero'] at hx10_0);(try rw [show ((0:Int)).toNat=0 from rfl] at hx10_1);(try rw [show 0*2=0 from rfl] at hx10_1);(try rw [Addr.add_zero'] at hx10_1);replace p10:=eq_true p10;replace q10:=eq_true q10))
  go_ret
  exact ⟨by first|rfl|(simp [errW_none,errW_some]<;>rfl)|(simp [*,errW_none,errW_some]<;>rfl),zl0_ HB⟩
 rw [if_pos c6] at H
 have c6b0:(((rd_T37 t4 0).f1)==1)=true:=beq_iff_eq.mpr c6
 have c6b1:(((rd_T37 t4 0).f1) !=1)=false:=bne_eq_false_iff_eq.mpr c6
 clear c6
 replace H:=Option.bind_eq_some_iff.mp H
 obtain ⟨t12,A70,H⟩:=H
 try dsimp only at H
 have A7:=Aside0.mk A70
 clear A70
 obtain rfl:=Option.some.inj H
 go_enter Try.func38,Try.ntmps38
 go_wp2_with (first|((with_reducible refine gate_dst (N:=3) rfl ?_);(try (refine gate_guard (by rfl) ?_;dsimp only));refine Kd.R_lit k54 _ 54 ?hg (N:=3) ?hd (xs:=([(⟨(⟨#[97]⟩:ByteArray),(⟨#[]⟩:ByteArray),(⟨0,0,0⟩:S27),1⟩:S54)]:List (S54))) (inner:=[.string (⟨#[97]⟩:ByteArray), .string (⟨#[]⟩:ByteArray), .int .i64 0, .int .i64 0, .int .i64 0, .int .i64 1]) (ok:=fun _=>True) (okp:=fun _=>True) ?hr ?hp (fun _ hk=>hk) trivial (Below.refl _ _) (Nat.le_refl _) (by simp) ?_;(case hd=>rfl);(case hg=>rfl);(case hr=>first|(go_simp;done)|(go_simp;rfl));(case hp=>exact (Reps.c6 (show Kd.M k54 _ _ _ (⟨(⟨#[97]⟩:ByteArray),(⟨#[]⟩:ByteArray),(⟨0,0,0⟩:S27),1⟩:S54) [.string (⟨#[97]⟩:ByteArray), .string (⟨#[]⟩:ByteArray), .int .i64 0, .int .i64 0, .int .i64 0, .int .i64 1] from (k54_mkM _ _ _ (⟨(⟨#[97]⟩:ByteArray),(⟨#[]⟩:ByteArray),(⟨0,0,0⟩:S27),1⟩:S54))) (Reps.none _ _)));intro v2 w8 ho9 hb hg_ hnew_;clear hg_ hnew_;(first|rw [←Ny1.out] at ho9|(simp only [Int.reduceToNat] at ho9;rw [←Ny1.out] at ho9));have HO3:=am_ (Kd.R_lower ho9 (below_size (zl0_ HB)));replace HB:=am_ (below_step (zl0_ HB) hb);clear hb ho9;obtain ⟨Ao10,co10,eo10⟩:=Kd.R_slice HO3.out;subst eo10)|((with_reducible refine gate_callee (f:=43) rfl ?_);refine gl_ (some 4) Try.func43 #[.slice Ao10 y1.length co10, .slice none 0 0] ?_;(refine (drift_Of.calls _ _ y1 _ _ ([]:List (S31)) t4 _ ?side1 ?side2 ?side3 ?side4 A1.out).mono ?_);(case side1=>exact zc_ (Kd.R_reads' HO3.out).2.2);(case side2=>exact (Kd.R_reads' HO3.out).2.1);(case side3=>exact Kd.C_nil _ _);(case side4=>exact Nat.le_refl _);rintro e w11 ⟨v5,rfl,ho0,hb⟩;refine ⟨_,rfl, ?_⟩;replace HO3:=am_ (Kd.R_below (zr_ HO3) hb);have HO6:=am_ (Kd.R_lower ho0 (below_size (zl0_ HB)));replace HB:=am_ (below_step (zl0_ HB) hb);(try clear hb);(try clear hb2);(try clear hk);(try clear hi);(try clear ho0))|((with_reducible refine gate_callee (f:=43) rfl ?_);refine gl_ (some 5) Try.func43 #[.slice none 0 0, .slice none 0 0] ?_;(refine (drift_Of.calls _ _ ([]:List (S54)) _ _ ([]:List (S31)) t7 _ ?side1 ?side2 ?side3 ?side4 A2.out).mono ?_);(case side1=>exact Kd.C_nil _ _);(case side2=>exact Nat.le_refl _);(case side3=>exact Kd.C_nil _ _);(case side4=>exact Nat.le_refl _);rintro e w12 ⟨v8,rfl,ho0,hb⟩;refine ⟨_,rfl, ?_⟩;replace HO3:=am_ (Kd.R_below (zr_ HO3) hb);have HO9:=am_ (Kd.R_lower (Kd.R_new' ho0 (Kd.R_lt (zr_ HO6))) (below_size (zl0_ HB)));replace HO6:=am_ (Kd.R_elder' (zr_ HO6) (Kd.R_base ho0) hb);replace HB:=am_ (below_step (zl0_ HB) hb);(try clear hb);(try clear hb2);(try clear hk);(try clear hi);(try clear ho0);obtain ⟨Ao13,co13,eo13⟩:=Kd.R_slice HO9.out;subst eo13;obtain ⟨Ao14,co14,eo14⟩:=Kd.R_slice HO6.out;subst eo14;have p10:0≤(0:Int):=(by omega);have q10:0<(t4.length:Int):=of_decide_eq_true zq_;obtain ⟨ad10,e10,hx10_0,hx10_1⟩:=at_T37 (Kd.R_reads' HO6.out).2.2 0 p10 q10;cases e10;have qi10:(0<t4.length)=True:=eq_true (by omega);(try rw [show ((0:Int)).toNat=0 from rfl] at hx10_0);(try rw [show 0*2=0 from rfl] at hx10_0);(try rw [Addr.add_zero'] at hx10_0);(try rw [show ((0:Int)).toNat=0 from rfl] at hx10_1);(try rw [show 0*2=0 from rfl] at hx10_1);(try rw [Addr.add_zero'] at hx10_1);replace p10:=eq_true p10;replace q10:=eq_true q10;have p11:0≤(0:Int):=(by omega);have q11:0<(t4.length:Int):=of_decide_eq_true zq_;obtain ⟨ad11,e11,hx11_0,hx11_1⟩:=at_T37 (Kd.R_reads' HO6.out).2.2 0 p11 q11;obtain rfl:ad10=ad11:=(by injection e11);have qi11:(0<t4.length)=True:=eq_true (by omega);(try rw [show ((0:Int)).toNat=0 from rfl] at hx11_0);(try rw [show 0*2=0 from rfl] at hx11_0);(try rw [Addr.add_zero'] at hx11_0);(try rw [show ((0:Int)).toNat=0 from rfl] at hx11_1);(try rw [show 0*2=0 from rfl] at hx11_1);(try rw [Addr.add_zero'] at hx11_1);replace p11:=eq_true p11;replace q11:=eq_true q11)|(go_at_call 39;(with_reducible refine (drift_Text.calls ((rd_T37 t4 0).f0) ((rd_T37 t4 0).f1) t12 _ A7.out).mono ?_);rintro e w15 ⟨rfl,hb⟩;replace HO3:=am_ (Kd.R_below (zr_ HO3) hb);replace HO6:=am_ (Kd.R_below (zr_ HO6) hb);replace HO9:=am_ (Kd.R_below (zr_ HO9) hb);replace HB:=am_ (below_step (zl0_ HB) hb);(try clear hb);(try clear hb2);(try clear hk);(try clear hi)))
 go_ret
 exact ⟨by first|rfl|(simp [errW_none,errW_some]<;>rfl)|(simp [*,errW_none,errW_some]<;>rfl),zl0_ HB⟩
def law15_Step.j0:Nat→Int→Int→Bool→Int→ByteArray→ByteArray→Int→Int→Int→Option (Int×ByteArray×ByteArray×Int×Int×Int)
 |0,_,_,_,_,_,_,_,_,_=>none
 |k+1,x0,x2,x26,x6000,x6001,x6002,x6003,x6004,x6005=>if x26=true then ((some (([(97+(Int.tmod x2 25)) % 256]:List Int):List Int)).bind fun y6=>(if (Int.tmod x2 5)=0 then (if x6000≤2 then (some (x6000,x6001,(⟨#[]⟩:ByteArray),wrap64 ((wrap64 (Int.tdiv (wrap64 (x0)) 4))*3),wrap64 ((wrap64 (Int.tdiv (wrap64 (x0)) 4))*3),wrap64 ((wrap64 (Int.tdiv (wrap64 (x0)) 4))*3))) else (some (x6000,x6001,(⟨#[]⟩:ByteArray),x6003,x6004,x6005))) else (if x6000≤2 then (some (x6000,x6001,strOfNums y6,wrap64 ((wrap64 (Int.tdiv (wrap64 (x0)) 4))*3),wrap64 ((wrap64 (Int.tdiv (wrap64 (x0)) 4))*3),wrap64 ((wrap64 (Int.tdiv (wrap64 (x0)) 4))*3))) else (some (x6000,x6001,strOfNums y6,x6003,x6004,x6005))))) else (if x6000≤2 then (some (x6000,x6001,x6002,wrap64 ((wrap64 (Int.tdiv (wrap64 (x0)) 4))*3),wrap64 ((wrap64 (Int.tdiv (wrap64 (x0)) 4))*3),wrap64 ((wrap64 (Int.tdiv (wrap64 (x0)) 4))*3))) else (some (x6000,x6001,x6002,x6003,x6004,x6005)))
def law15_Step.f (k:Nat) (a0:Int) (a1:Int) (a2:Int):Option (Int×ByteArray×ByteArray×Int×Int×Int):=(some (([(97+(Int.tmod a1 25)) % 256]:List Int):List Int)).bind fun y2=>(if (wrap64 (1+(Int.tmod (wrap64 (a0)) 4)))=1 then (law15_Step.j0 k a0 a2 true (wrap64 (1+(Int.tmod (wrap64 (a0)) 4))) (strOfNums y2) (⟨#[]⟩:ByteArray) 0 0 0) else (law15_Step.j0 k a0 a2 ((wrap64 (1+(Int.tmod (wrap64 (a0)) 4)))==3) (wrap64 (1+(Int.tmod (wrap64 (a0)) 4))) (strOfNums y2) (⟨#[]⟩:ByteArray) 0 0 0))
theorem law15_Step.mono_l: ∀k,(∀y0 y1 y2 y3 y4 y5 y6 y7 y8,LeO (law15_Step.j0 k y0 y1 y2 y3 y4 y5 y6 y7 y8) (law15_Step.j0 (k+1) y0 y1 y2 y3 y4 y5 y6 y7 y8))
 |0=>fun _ _ _ _ _ _ _ _ _ r h=>by simp [law15_Step.j0] at h
 |k+1=>by
  have ih0:=law15_Step.mono_l k
  intro y0 y1 y2 y3 y4 y5 y6 y7 y8
  unfold law15_Step.j0
  repeat' first
  |(with_reducible exact ih0 _ _ _ _ _ _ _ _ _)
  |(with_reducible exact LeO.refl _)
  |(with_reducible exact LeO.none _)
  |(with_reducible refine LeO.ite ?_ ?_)
  |(with_reducible refine LeO.bind ?_ (fun _=> ?_))
  |exact ih0 _ _ _ _ _ _ _ _ _
  |exact LeO.none _
  |refine LeO.ite ?_ ?_
  |refine LeO.bind ?_ (fun _=> ?_)
theorem law15_Step.mono: ∀a0 a1 a2 k,LeO (law15_Step.f k a0 a1 a2) (law15_Step.f (k+1) a0 a1 a2):=by
 intro a0 a1 a2 k
 have ih0:=law15_Step.mono_l k
 unfold law15_Step.f
 repeat' first
  |(with_reducible exact ih0 _ _ _ _ _ _ _ _ _)
  |(with_reducible exact LeO.refl _)
  |(with_reducible exact LeO.none _)
  |(with_reducible refine LeO.ite ?_ ?_)
  |(with_reducible refine LeO.bind ?_ (fun _=> ?_))
  |exact ih0 _ _ _ _ _ _ _ _ _
  |exact LeO.none _
  |refine LeO.ite ?_ ?_
  |refine LeO.bind ?_ (fun _=> ?_)
set_option maxHeartbeats 8000000 in
set_option maxRecDepth 100000 in
theorem law15_Step.calls (k:Nat) (a0:Int) (a1:Int) (a2:Int) (r1:Int) (r2:ByteArray) (r3:ByteArray) (r4:Int) (r5:Int) (r6:Int) (w:World) (h:law15_Step.f k a0 a1 a2=some (r1,r2,r3,r4,r5,r6)):
  Calls Try.prog 57 #[.int .u8 a0, .int .u8 a1, .int .u8 a2] w fun e w'=>e= .returned (.agg #[.int .i64 r1, .string r2, .string r3, .int .i64 r4, .int .i64 r5, .int .i64 r6])∧Below w.heap.size w w':=by
 have HB:=am_ (Below.refl w.heap.size w)
 have H:((some (([(97+(Int.tmod a1 25)) % 256]:List Int):List Int)).bind fun y2=>(if (wrap64 (1+(Int.tmod (wrap64 (a0)) 4)))=1 then (law15_Step.j0 k a0 a2 true (wrap64 (1+(Int.tmod (wrap64 (a0)) 4))) (strOfNums y2) (⟨#[]⟩:ByteArray) 0 0 0) else (law15_Step.j0 k a0 a2 ((wrap64 (1+(Int.tmod (wrap64 (a0)) 4)))==3) (wrap64 (1+(Int.tmod (wrap64 (a0)) 4))) (strOfNums y2) (⟨#[]⟩:ByteArray) 0 0 0)))=some (r1,r2,r3,r4,r5,r6):=h
 clear h
 obtain ⟨y2,hy2⟩: ∃y_:List Int,y_=(([(97+(Int.tmod a1 25)) % 256]:List Int)):=⟨_,rfl⟩
 replace H:(if (wrap64 (1+(Int.tmod (wrap64 (a0)) 4)))=1 then (law15_Step.j0 k a0 a2 true (wrap64 (1+(Int.tmod (wrap64 (a0)) 4))) (strOfNums y2) (⟨#[]⟩:ByteArray) 0 0 0) else (law15_Step.j0 k a0 a2 ((wrap64 (1+(Int.tmod (wrap64 (a0)) 4)))==3) (wrap64 (1+(Int.tmod (wrap64 (a0)) 4))) (strOfNums y2) (⟨#[]⟩:ByteArray) 0 0 0))=some (r1,r2,r3,r4,r5,r6):=by first|(rw [hy2];with_reducible exact H)|(have H2_:=(Option.bind_some _ _).symm.trans H;rw [hy2];with_reducible exact H2_)|(have H2_:=(Option.bind_some _ _).symm.trans H;with_reducible exact H2_)|with_reducible exact H|(rw [hy2];exact H)|exact H
 have Ny2:=Aside0.mk hy2
 clear hy2
 have HC4:=Aside0.mk H
 clear H
 go_enter Try.func57,Try.ntmps57
 go_upto_region 2 with (first|((with_reducible refine gate_dst (N:=6) rfl ?_);refine bx_ (N:=6) (cs:=#[.int .i64 0, .string (⟨#[]⟩:ByteArray), .string (⟨#[]⟩:ByteArray), .int .i64 0, .int .i64 0, .int .i64 0]) (t:=58) ?_;intro gb1 hg w5 hbox hb;have n0_:=am_ (below_step (zl0_ HB) hb);have n1_:=am_ (hbox);have n2_:=am_ ((zg0_ HB hg:w.heap.size≤gb1));have n3_:=am_ ((zg0_ HB hg:w.heap.size≤gb1));clear HB;have HB:=n0_;have BK1:=n1_;have GE1:=n3_;clear n0_ n1_ n2_ n3_;clear hb hbox hg)|((with_reducible refine gate_dst (N:=16) rfl ?_);refine Kd.R_lit (Kd.int .u8) _ 5 ?hg (N:=16) ?hd (xs:=([(97+(Int.tmod a1 25)) % 256]:List Int)) (inner:=[.int .u8 ((97+(Int.tmod a1 25)) % 256)]) (ok:=fun _=>True) (okp:=fun _=>True) ?hr ?hp (fun _ hk=>hk) trivial (Below.refl _ _) (Nat.le_refl _) (by simp) ?_;(case hd=>rfl);(case hg=>rfl);(case hr=>first|(go_simp;done)|(go_simp;rfl));(case hp=>exact (Reps.one (show Kd.M (Kd.int .u8) _ _ _ ((97+(Int.tmod a1 25)) % 256) [.int .u8 ((97+(Int.tmod a1 25)) % 256)] from rfl) (Reps.none _ _)));intro v3 w6 ho7 hb hg_ hnew_;clear hg_ hnew_;(first|rw [←Ny2.out] at ho7|(simp only [Int.reduceToNat] at ho7;rw [←Ny2.out] at ho7));have HO4:=am_ (Kd.R_lower ho7 (below_size (zl1_ HB GE1)));replace BK1:=am_ (blk_below (g:=gb1) (o:= .cells #[.int .i64 0, .string (⟨#[]⟩:ByteArray), .string (⟨#[]⟩:ByteArray), .int .i64 0, .int .i64 0, .int .i64 0] 58 (0,0)) (zb_ BK1) hb);replace HB:=am_ (below_step (zl1_ HB GE1) hb);clear hb ho7;have hcv8:=own_string (P:=Try.prog) Try.underlying22 Try.underlying5 Try.underlying9 (Kd.own_of_R HO4.out))|((with_reducible refine gate_dst (N:=7) rfl ?_);refine bx_ (N:=7) (cs:=#[.int .i64 0, .string (⟨#[]⟩:ByteArray), .string (⟨#[]⟩:ByteArray), .int .i64 0, .int .i64 0, .int .i64 0]) (t:=58) ?_;intro gb5 hg w9 hbox hb;have n0_:=am_ (Kd.R_below (zr_ HO4) hb);have n1_:=am_ (blk_below (g:=gb1) (o:= .cells #[.int .i64 0, .string (⟨#[]⟩:ByteArray), .string (⟨#[]⟩:ByteArray), .int .i64 0, .int .i64 0, .int .i64 0] 58 (0,0)) (zb_ BK1) hb);have n2_:=am_ (below_step (zl1_ HB GE1) hb);have n3_:=am_ (hbox);have n5_:=am_ ((zg1_ HB GE1 hg:w.heap.size≤gb5));have n6_:=am_ ((by rw [hg];exact Nat.ne_of_lt (blk_lt (g:=gb1) (o:= .cells #[.int .i64 0, .string (⟨#[]⟩:ByteArray), .string (⟨#[]⟩:ByteArray), .int .i64 0, .int .i64 0, .int .i64 0] 58 (0,0)) (zb_ BK1)):gb1≠gb5));have n7_:=am_ ((by rw [hg];exact Nat.ne_of_gt (blk_lt (g:=gb1) (o:= .cells #[.int .i64 0, .string (⟨#[]⟩:ByteArray), .string (⟨#[]⟩:ByteArray), .int .i64 0, .int .i64 0, .int .i64 0] 58 (0,0)) (zb_ BK1)):gb5≠gb1));clear HO4;clear BK1;clear HB;have HO4:=n0_;have BK1:=n1_;have HB:=n2_;have BK5:=n3_;have GE5:=n5_;have NB1_5:=n6_;clear n0_ n1_ n2_ n3_ n5_ n6_ n7_;clear hb hbox hg;obtain ⟨hcz11_0,hcz11_1,hcz11_2,hcz11_3,hcz11_4,hcz11_5⟩:=x6_ BK5;have hfz11_0:=blk_frozen BK5.out 0;have hfz11_1:=blk_frozen BK5.out 1;have hfz11_2:=blk_frozen BK5.out 2;have hfz11_3:=blk_frozen BK5.out 3;have hfz11_4:=blk_frozen BK5.out 4;have hfz11_5:=blk_frozen BK5.out 5))
 (try simp only [Act.put,List.setIfInBounds_toArray,List.set_cons_zero,List.set_cons_succ])
 go_cut [26] (fun v26 wc=> ∃(kq:Nat) (x26_3:Bool),v26= .bool x26_3∧Aside0 (law15_Step.j0 kq a0 a2 x26_3 (wrap64 (1+(Int.tmod (wrap64 (a0)) 4))) (strOfNums y2) (⟨#[]⟩:ByteArray) 0 0 0=some (r1,r2,r3,r4,r5,r6))∧Aside0 (kq≤k)∧Aside0 (wc.heap[gb1]?=some (.cells #[.int .i64 0, .string (⟨#[]⟩:ByteArray), .string (⟨#[]⟩:ByteArray), .int .i64 0, .int .i64 0, .int .i64 0] 58 (0,0)))∧Aside0 (wc.heap[gb5]?=some (.cells #[.int .i64 (wrap64 (1+(Int.tmod (wrap64 (a0)) 4))), .string (strOfNums y2), .string (⟨#[]⟩:ByteArray), .int .i64 0, .int .i64 0, .int .i64 0] 58 (0,0)))∧Aside0 (Below w.heap.size w wc))
 case first=>
  have H:=HC4.out
  clear HC4
  by_cases c12:(wrap64 (1+(Int.tmod (wrap64 (a0)) 4)))=1
  ·rw [if_pos c12] at H
   have c12b0:((wrap64 (1+(Int.tmod (wrap64 (a0)) 4)))==1)=true:=beq_iff_eq.mpr c12
   clear c12
   (first|rw [c12b0]|(simp only [i64_w,i32_w];rw [c12b0])|skip)
   have H':=Aside0.mk H
   clear H
   go_wp2
   go_meet
   case rel=>exact ⟨_,(true),(by first|rfl|(simp;done)|(simp [*];done)),H',⟨by first|omega|exact Nat.le_refl _⟩,⟨zw_ BK1⟩,⟨zw_ BK5⟩,⟨zl2_ HB GE1 GE5⟩⟩
  rw [if_neg c12] at H
  have c12b0:((wrap64 (1+(Int.tmod (wrap64 (a0)) 4)))==1)=false:=beq_eq_false_iff_ne.mpr c12
  (first|rw [c12b0]|(simp only [i64_w,i32_w];rw [c12b0])|skip)
  have H':=Aside0.mk H
  clear H
  go_wp2
  go_meet
  case rel=>exact ⟨_,(((wrap64 (1+(Int.tmod (wrap64 (a0)) 4)))==3)),(by first|rfl|(simp;done)|(simp [*];done)),H',⟨by first|omega|exact Nat.le_refl _⟩,⟨zw_ BK1⟩,⟨zw_ BK5⟩,⟨zl2_ HB GE1 GE5⟩⟩
 case rest=>
  clear HC4
  try clear c1
  try clear p2
  try clear c5
  try clear p6
  try clear hcv8
  try clear c10
  try clear c12
  try clear c12b0
  try clear c13
  try clear c15
  try clear hcz11_0
  try clear hcz11_1
  try clear hcz11_2
  try clear hcz11_3
  try clear hcz11_4
  try clear hcz11_5
  try clear hfz11_0
  try clear hfz11_1
  try clear hfz11_2
  try clear hfz11_3
  try clear hfz11_4
  try clear hfz11_5
  obtain ⟨kq,x26_3,rfl,HA,HJ3,BK1,BK5,HB⟩:=hcut
  cases kq with
  |zero=>exact absurd HA.out (by simp [law15_Step.j0])
  |succ kj3=>
   have H:=HA.out
   clear HA
   simp only [law15_Step.j0] at H
   by_cases c17:x26_3=true
   rotate_left
   ·replace c17:=Bool.eq_false_iff.mpr c17
    subst c17
    have H1:(if (wrap64 (1+(Int.tmod (wrap64 (a0)) 4)))≤2 then (some ((wrap64 (1+(Int.tmod (wrap64 (a0)) 4))),(strOfNums y2),(⟨#[]⟩:ByteArray),wrap64 ((wrap64 (Int.tdiv (wrap64 (a0)) 4))*3),wrap64 ((wrap64 (Int.tdiv (wrap64 (a0)) 4))*3),wrap64 ((wrap64 (Int.tdiv (wrap64 (a0)) 4))*3))) else (some ((wrap64 (1+(Int.tmod (wrap64 (a0)) 4))),(strOfNums y2),(⟨#[]⟩:ByteArray),0,0,0)))=some (r1,r2,r3,r4,r5,r6):=by rw [if_neg (show¬(false=true) by decide)] at H;exact H
    clear H
    have H:=H1
    clear H1
    by_cases c45:(wrap64 (1+(Int.tmod (wrap64 (a0)) 4)))≤2
    rotate_left
    ·rw [if_neg c45] at H
     have c45b0:decide ((wrap64 (1+(Int.tmod (wrap64 (a0)) 4)))≤2)=false:=decide_eq_false c45
     clear c45
     simp only [Option.some.injEq,Prod.mk.injEq] at H
     obtain ⟨rfl,rfl,rfl,rfl,rfl,rfl⟩:=H
     obtain ⟨hcz50_0,hcz50_1,hcz50_2,hcz50_3,hcz50_4,hcz50_5⟩:=x6_ BK5
     obtain ⟨hcz51_0,hcz51_1,hcz51_2,hcz51_3,hcz51_4,hcz51_5,hfz51_0,hfz51_1,hfz51_2,hfz51_3,hfz51_4,hfz51_5⟩:=y6_ BK1
     go_wp2
     refine bodyPost_ret (results_cell_row rfl _ _ gb1 58 #[.int .i64 (wrap64 (1+(Int.tmod (wrap64 (a0)) 4))), .string (strOfNums y2), .string (⟨#[]⟩:ByteArray), .int .i64 0, .int .i64 0, .int .i64 0] (0,0) _ rfl (zw_ BK1) Try.underlying58 rfl (by kernel_rfl)) rfl ?_
     exact ⟨by first|rfl|(simp [errW_none,errW_some]<;>rfl)|(simp [*,errW_none,errW_some]<;>rfl),zl2_ HB GE1 GE5⟩

    rw [if_pos c45] at H
    have c45b0:decide ((wrap64 (1+(Int.tmod (wrap64 (a0)) 4)))≤2)=true:=decide_eq_true c45
    clear c45
    simp only [Option.some.injEq,Prod.mk.injEq] at H
    obtain ⟨rfl,rfl,rfl,rfl,rfl,rfl⟩:=H
    have hnc46:=NB1_5.out
    obtain ⟨hcz47_0,hcz47_1,hcz47_2,hcz47_3,hcz47_4,hcz47_5⟩:=x6_ BK5
    have hfz47_3:=blk_frozen BK5.out 3
    have hfz47_4:=blk_frozen BK5.out 4
    have hfz47_5:=blk_frozen BK5.out 5
    obtain ⟨hcz48_0,hcz48_1,hcz48_2,hcz48_3,hcz48_4,hcz48_5,hfz48_0,hfz48_1,hfz48_2,hfz48_3,hfz48_4,hfz48_5⟩:=y6_ BK1
    go_wp2
    refine bodyPost_ret (results_cell_row rfl _ _ gb1 58 #[.int .i64 (wrap64 (1+(Int.tmod (wrap64 (a0)) 4))), .string (strOfNums y2), .string (⟨#[]⟩:ByteArray), .int .i64 (wrap64 ((wrap64 (Int.tdiv (wrap64 (a0)) 4))*3)), .int .i64 (wrap64 ((wrap64 (Int.tdiv (wrap64 (a0)) 4))*3)), .int .i64 (wrap64 ((wrap64 (Int.tdiv (wrap64 (a0)) 4))*3))] (0,0) _ rfl (zw_ BK1) Try.underlying58 rfl (by kernel_rfl)) rfl ?_
    exact ⟨by first|rfl|(simp [errW_none,errW_some]<;>rfl)|(simp [*,errW_none,errW_some]<;>rfl),zl2_ HB GE1 GE5⟩
   subst c17
   have H1:((some (([(97+(Int.tmod a2 25)) % 256]:List Int):List Int)).bind fun y6=>(if (Int.tmod a2 5)=0 then (if (wrap64 (1+(Int.tmod (wrap64 (a0)) 4)))≤2 then (some ((wrap64 (1+(Int.tmod (wrap64 (a0)) 4))),(strOfNums y2),(⟨#[]⟩:ByteArray),wrap64 ((wrap64 (Int.tdiv (wrap64 (a0)) 4))*3),wrap64 ((wrap64 (Int.tdiv (wrap64 (a0)) 4))*3),wrap64 ((wrap64 (Int.tdiv (wrap64 (a0)) 4))*3))) else (some ((wrap64 (1+(Int.tmod (wrap64 (a0)) 4))),(strOfNums y2),(⟨#[]⟩:ByteArray),0,0,0))) else (if (wrap64 (1+(Int.tmod (wrap64 (a0)) 4)))≤2 then (some ((wrap64 (1+(Int.tmod (wrap64 (a0)) 4))),(strOfNums y2),strOfNums y6,wrap64 ((wrap64 (Int.tdiv (wrap64 (a0)) 4))*3),wrap64 ((wrap64 (Int.tdiv (wrap64 (a0)) 4))*3),wrap64 ((wrap64 (Int.tdiv (wrap64 (a0)) 4))*3))) else (some ((wrap64 (1+(Int.tmod (wrap64 (a0)) 4))),(strOfNums y2),strOfNums y6,0,0,0)))))=some (r1,r2,r3,r4,r5,r6):=by rw [if_pos rfl] at H;exact H
   clear H
   have H:=H1
   clear H1
   obtain ⟨y6,hy6⟩: ∃y_:List Int,y_=(([(97+(Int.tmod a2 25)) % 256]:List Int)):=⟨_,rfl⟩
   replace H:(if (Int.tmod a2 5)=0 then (if (wrap64 (1+(Int.tmod (wrap64 (a0)) 4)))≤2 then (some ((wrap64 (1+(Int.tmod (wrap64 (a0)) 4))),(strOfNums y2),(⟨#[]⟩:ByteArray),wrap64 ((wrap64 (Int.tdiv (wrap64 (a0)) 4))*3),wrap64 ((wrap64 (Int.tdiv (wrap64 (a0)) 4))*3),wrap64 ((wrap64 (Int.tdiv (wrap64 (a0)) 4))*3))) else (some ((wrap64 (1+(Int.tmod (wrap64 (a0)) 4))),(strOfNums y2),(⟨#[]⟩:ByteArray),0,0,0))) else (if (wrap64 (1+(Int.tmod (wrap64 (a0)) 4)))≤2 then (some ((wrap64 (1+(Int.tmod (wrap64 (a0)) 4))),(strOfNums y2),strOfNums y6,wrap64 ((wrap64 (Int.tdiv (wrap64 (a0)) 4))*3),wrap64 ((wrap64 (Int.tdiv (wrap64 (a0)) 4))*3),wrap64 ((wrap64 (Int.tdiv (wrap64 (a0)) 4))*3))) else (some ((wrap64 (1+(Int.tmod (wrap64 (a0)) 4))),(strOfNums y2),strOfNums y6,0,0,0))))=some (r1,r2,r3,r4,r5,r6):=by first|(rw [hy6];with_reducible exact H)|(have H2_:=(Option.bind_some _ _).symm.trans H;rw [hy6];with_reducible exact H2_)|(have H2_:=(Option.bind_some _ _).symm.trans H;with_reducible exact H2_)|with_reducible exact H|(rw [hy6];exact H)|exact H
   have Ny6:=Aside0.mk hy6
   clear hy6
   by_cases c18:(Int.tmod a2 5)=0
   ·rw [if_pos c18] at H
    have c18b0:((Int.tmod a2 5)==0)=true:=beq_iff_eq.mpr c18
    clear c18
    by_cases c19:(wrap64 (1+(Int.tmod (wrap64 (a0)) 4)))≤2
    ·rw [if_pos c19] at H
     have c19b0:decide ((wrap64 (1+(Int.tmod (wrap64 (a0)) 4)))≤2)=true:=decide_eq_true c19
     clear c19
     simp only [Option.some.injEq,Prod.mk.injEq] at H
     obtain ⟨rfl,rfl,rfl,rfl,rfl,rfl⟩:=H
     go_wp2_with (first|((with_reducible refine gate_dst (N:=30) rfl ?_);refine Kd.R_lit (Kd.int .u8) _ 5 ?hg (N:=30) ?hd (xs:=([(97+(Int.tmod a2 25)) % 256]:List Int)) (inner:=[.int .u8 ((97+(Int.tmod a2 25)) % 256)]) (ok:=fun _=>True) (okp:=fun _=>True) ?hr ?hp (fun _ hk=>hk) trivial (Below.refl _ _) (Nat.le_refl _) (by simp) ?_;(case hd=>rfl);(case hg=>rfl);(case hr=>first|(go_simp;done)|(go_simp;rfl));(case hp=>exact (Reps.one (show Kd.M (Kd.int .u8) _ _ _ ((97+(Int.tmod a2 25)) % 256) [.int .u8 ((97+(Int.tmod a2 25)) % 256)] from rfl) (Reps.none _ _)));intro v7 w20 ho21 hb hg_ hnew_;clear hg_ hnew_;(first|rw [←Ny6.out] at ho21|(simp only [Int.reduceToNat] at ho21;rw [←Ny6.out] at ho21));have HO8:=am_ (Kd.R_lower ho21 (below_size (zl2_ HB GE1 GE5)));replace BK1:=am_ (blk_below (g:=gb1) (o:= .cells #[.int .i64 0, .string (⟨#[]⟩:ByteArray), .string (⟨#[]⟩:ByteArray), .int .i64 0, .int .i64 0, .int .i64 0] 58 (0,0)) (zb_ BK1) hb);replace BK5:=am_ (blk_below (g:=gb5) (o:= .cells #[.int .i64 (wrap64 (1+(Int.tmod (wrap64 (a0)) 4))), .string (strOfNums y2), .string (⟨#[]⟩:ByteArray), .int .i64 0, .int .i64 0, .int .i64 0] 58 (0,0)) (zb_ BK5) hb);replace HB:=am_ (below_step (zl2_ HB GE1 GE5) hb);clear hb ho21;have hcv22:=own_string (P:=Try.prog) Try.underlying22 Try.underlying5 Try.underlying9 (Kd.own_of_R HO8.out);have hnc23:=NB1_5.out;obtain ⟨hcz24_0,hcz24_1,hcz24_2,hcz24_3,hcz24_4,hcz24_5⟩:=x6_ BK5;have hfz24_2:=blk_frozen BK5.out 2;have hfz24_3:=blk_frozen BK5.out 3;have hfz24_4:=blk_frozen BK5.out 4;have hfz24_5:=blk_frozen BK5.out 5;obtain ⟨hcz25_0,hcz25_1,hcz25_2,hcz25_3,hcz25_4,hcz25_5⟩:=x6_ BK1;have hfz25_0:=blk_frozen BK1.out 0;have hfz25_1:=blk_frozen BK1.out 1;have hfz25_2:=blk_frozen BK1.out 2;have hfz25_3:=blk_frozen BK1.out 3;have hfz25_4:=blk_frozen BK1.out 4;have hfz25_5:=blk_frozen BK1.out 5))
     refine bodyPost_ret (results_cell_row rfl _ _ gb1 58 #[.int .i64 (wrap64 (1+(Int.tmod (wrap64 (a0)) 4))), .string (strOfNums y2), .string (⟨#[]⟩:ByteArray), .int .i64 (wrap64 ((wrap64 (Int.tdiv (wrap64 (a0)) 4))*3)), .int .i64 (wrap64 ((wrap64 (Int.tdiv (wrap64 (a0)) 4))*3)), .int .i64 (wrap64 ((wrap64 (Int.tdiv (wrap64 (a0)) 4))*3))] (0,0) _ rfl (zw_ BK1) Try.underlying58 rfl (by kernel_rfl)) rfl ?_
     exact ⟨by first|rfl|(simp [errW_none,errW_some]<;>rfl)|(simp [*,errW_none,errW_some]<;>rfl),zl2_ HB GE1 GE5⟩
    rw [if_neg c19] at H
    have c19b0:decide ((wrap64 (1+(Int.tmod (wrap64 (a0)) 4)))≤2)=false:=decide_eq_false c19
    clear c19
    simp only [Option.some.injEq,Prod.mk.injEq] at H
    obtain ⟨rfl,rfl,rfl,rfl,rfl,rfl⟩:=H
    go_wp2_with (first|((with_reducible refine gate_dst (N:=30) rfl ?_);refine Kd.R_lit (Kd.int .u8) _ 5 ?hg (N:=30) ?hd (xs:=([(97+(Int.tmod a2 25)) % 256]:List Int)) (inner:=[.int .u8 ((97+(Int.tmod a2 25)) % 256)]) (ok:=fun _=>True) (okp:=fun _=>True) ?hr ?hp (fun _ hk=>hk) trivial (Below.refl _ _) (Nat.le_refl _) (by simp) ?_;(case hd=>rfl);(case hg=>rfl);(case hr=>first|(go_simp;done)|(go_simp;rfl));(case hp=>exact (Reps.one (show Kd.M (Kd.int .u8) _ _ _ ((97+(Int.tmod a2 25)) % 256) [.int .u8 ((97+(Int.tmod a2 25)) % 256)] from rfl) (Reps.none _ _)));intro v7 w26 ho27 hb hg_ hnew_;clear hg_ hnew_;(first|rw [←Ny6.out] at ho27|(simp only [Int.reduceToNat] at ho27;rw [←Ny6.out] at ho27));have HO8:=am_ (Kd.R_lower ho27 (below_size (zl2_ HB GE1 GE5)));replace BK1:=am_ (blk_below (g:=gb1) (o:= .cells #[.int .i64 0, .string (⟨#[]⟩:ByteArray), .string (⟨#[]⟩:ByteArray), .int .i64 0, .int .i64 0, .int .i64 0] 58 (0,0)) (zb_ BK1) hb);replace BK5:=am_ (blk_below (g:=gb5) (o:= .cells #[.int .i64 (wrap64 (1+(Int.tmod (wrap64 (a0)) 4))), .string (strOfNums y2), .string (⟨#[]⟩:ByteArray), .int .i64 0, .int .i64 0, .int .i64 0] 58 (0,0)) (zb_ BK5) hb);replace HB:=am_ (below_step (zl2_ HB GE1 GE5) hb);clear hb ho27;have hcv28:=own_string (P:=Try.prog) Try.underlying22 Try.underlying5 Try.underlying9 (Kd.own_of_R HO8.out);have hnc29:=NB1_5.out;obtain ⟨hcz30_0,hcz30_1,hcz30_2,hcz30_3,hcz30_4,hcz30_5⟩:=x6_ BK5;have hfz30_2:=blk_frozen BK5.out 2;obtain ⟨hcz31_0,hcz31_1,hcz31_2,hcz31_3,hcz31_4,hcz31_5⟩:=x6_ BK1;have hfz31_0:=blk_frozen BK1.out 0;have hfz31_1:=blk_frozen BK1.out 1;have hfz31_2:=blk_frozen BK1.out 2;have hfz31_3:=blk_frozen BK1.out 3;have hfz31_4:=blk_frozen BK1.out 4;have hfz31_5:=blk_frozen BK1.out 5))
    refine bodyPost_ret (results_cell_row rfl _ _ gb1 58 #[.int .i64 (wrap64 (1+(Int.tmod (wrap64 (a0)) 4))), .string (strOfNums y2), .string (⟨#[]⟩:ByteArray), .int .i64 0, .int .i64 0, .int .i64 0] (0,0) _ rfl (zw_ BK1) Try.underlying58 rfl (by kernel_rfl)) rfl ?_
    exact ⟨by first|rfl|(simp [errW_none,errW_some]<;>rfl)|(simp [*,errW_none,errW_some]<;>rfl),zl2_ HB GE1 GE5⟩
   rw [if_neg c18] at H
   have c18b0:((Int.tmod a2 5)==0)=false:=beq_eq_false_iff_ne.mpr c18
   by_cases c32:(wrap64 (1+(Int.tmod (wrap64 (a0)) 4)))≤2
   ·rw [if_pos c32] at H
    have c32b0:decide ((wrap64 (1+(Int.tmod (wrap64 (a0)) 4)))≤2)=true:=decide_eq_true c32
    clear c32
    simp only [Option.some.injEq,Prod.mk.injEq] at H
    obtain ⟨rfl,rfl,rfl,rfl,rfl,rfl⟩:=H
    go_wp2_with (first|((with_reducible refine gate_dst (N:=30) rfl ?_);refine Kd.R_lit (Kd.int .u8) _ 5 ?hg (N:=30) ?hd (xs:=([(97+(Int.tmod a2 25)) % 256]:List Int)) (inner:=[.int .u8 ((97+(Int.tmod a2 25)) % 256)]) (ok:=fun _=>True) (okp:=fun _=>True) ?hr ?hp (fun _ hk=>hk) trivial (Below.refl _ _) (Nat.le_refl _) (by simp) ?_;(case hd=>rfl);(case hg=>rfl);(case hr=>first|(go_simp;done)|(go_simp;rfl));(case hp=>exact (Reps.one (show Kd.M (Kd.int .u8) _ _ _ ((97+(Int.tmod a2 25)) % 256) [.int .u8 ((97+(Int.tmod a2 25)) % 256)] from rfl) (Reps.none _ _)));intro v7 w33 ho34 hb hg_ hnew_;clear hg_ hnew_;(first|rw [←Ny6.out] at ho34|(simp only [Int.reduceToNat] at ho34;rw [←Ny6.out] at ho34));have HO8:=am_ (Kd.R_lower ho34 (below_size (zl2_ HB GE1 GE5)));replace BK1:=am_ (blk_below (g:=gb1) (o:= .cells #[.int .i64 0, .string (⟨#[]⟩:ByteArray), .string (⟨#[]⟩:ByteArray), .int .i64 0, .int .i64 0, .int .i64 0] 58 (0,0)) (zb_ BK1) hb);replace BK5:=am_ (blk_below (g:=gb5) (o:= .cells #[.int .i64 (wrap64 (1+(Int.tmod (wrap64 (a0)) 4))), .string (strOfNums y2), .string (⟨#[]⟩:ByteArray), .int .i64 0, .int .i64 0, .int .i64 0] 58 (0,0)) (zb_ BK5) hb);replace HB:=am_ (below_step (zl2_ HB GE1 GE5) hb);clear hb ho34;have hcv35:=own_string (P:=Try.prog) Try.underlying22 Try.underlying5 Try.underlying9 (Kd.own_of_R HO8.out);have hnc36:=NB1_5.out;obtain ⟨hcz37_0,hcz37_1,hcz37_2,hcz37_3,hcz37_4,hcz37_5⟩:=x6_ BK5;have hfz37_2:=blk_frozen BK5.out 2;have hfz37_3:=blk_frozen BK5.out 3;have hfz37_4:=blk_frozen BK5.out 4;have hfz37_5:=blk_frozen BK5.out 5;obtain ⟨hcz38_0,hcz38_1,hcz38_2,hcz38_3,hcz38_4,hcz38_5⟩:=x6_ BK1;have hfz38_0:=blk_frozen BK1.out 0;have hfz38_1:=blk_frozen BK1.out 1;have hfz38_2:=blk_frozen BK1.out 2;have hfz38_3:=blk_frozen BK1.out 3;have hfz38_4:=blk_frozen BK1.out 4;have hfz38_5:=blk_frozen BK1.out 5))
    refine bodyPost_ret (results_cell_row rfl _ _ gb1 58 #[.int .i64 (wrap64 (1+(Int.tmod (wrap64 (a0)) 4))), .string (strOfNums y2), .string (strOfNums y6), .int .i64 (wrap64 ((wrap64 (Int.tdiv (wrap64 (a0)) 4))*3)), .int .i64 (wrap64 ((wrap64 (Int.tdiv (wrap64 (a0)) 4))*3)), .int .i64 (wrap64 ((wrap64 (Int.tdiv (wrap64 (a0)) 4))*3))] (0,0) _ rfl (zw_ BK1) Try.underlying58 rfl (by kernel_rfl)) rfl ?_
    exact ⟨by first|rfl|(simp [errW_none,errW_some]<;>rfl)|(simp [*,errW_none,errW_some]<;>rfl),zl2_ HB GE1 GE5⟩
   rw [if_neg c32] at H
   have c32b0:decide ((wrap64 (1+(Int.tmod (wrap64 (a0)) 4)))≤2)=false:=decide_eq_false c32
   clear c32
   simp only [Option.some.injEq,Prod.mk.injEq] at H
   obtain ⟨rfl,rfl,rfl,rfl,rfl,rfl⟩:=H
   go_wp2_with (first|((with_reducible refine gate_dst (N:=30) rfl ?_);refine Kd.R_lit (Kd.int .u8) _ 5 ?hg (N:=30) ?hd (xs:=([(97+(Int.tmod a2 25)) % 256]:List Int)) (inner:=[.int .u8 ((97+(Int.tmod a2 25)) % 256)]) (ok:=fun _=>True) (okp:=fun _=>True) ?hr ?hp (fun _ hk=>hk) trivial (Below.refl _ _) (Nat.le_refl _) (by simp) ?_;(case hd=>rfl);(case hg=>rfl);(case hr=>first|(go_simp;done)|(go_simp;rfl));(case hp=>exact (Reps.one (show Kd.M (Kd.int .u8) _ _ _ ((97+(Int.tmod a2 25)) % 256) [.int .u8 ((97+(Int.tmod a2 25)) % 256)] from rfl) (Reps.none _ _)));intro v7 w39 ho40 hb hg_ hnew_;clear hg_ hnew_;(first|rw [←Ny6.out] at ho40|(simp only [Int.reduceToNat] at ho40;rw [←Ny6.out] at ho40));have HO8:=am_ (Kd.R_lower ho40 (below_size (zl2_ HB GE1 GE5)));replace BK1:=am_ (blk_below (g:=gb1) (o:= .cells #[.int .i64 0, .string (⟨#[]⟩:ByteArray), .string (⟨#[]⟩:ByteArray), .int .i64 0, .int .i64 0, .int .i64 0] 58 (0,0)) (zb_ BK1) hb);replace BK5:=am_ (blk_below (g:=gb5) (o:= .cells #[.int .i64 (wrap64 (1+(Int.tmod (wrap64 (a0)) 4))), .string (strOfNums y2), .string (⟨#[]⟩:ByteArray), .int .i64 0, .int .i64 0, .int .i64 0] 58 (0,0)) (zb_ BK5) hb);replace HB:=am_ (below_step (zl2_ HB GE1 GE5) hb);clear hb ho40;have hcv41:=own_string (P:=Try.prog) Try.underlying22 Try.underlying5 Try.underlying9 (Kd.own_of_R HO8.out);have hnc42:=NB1_5.out;obtain ⟨hcz43_0,hcz43_1,hcz43_2,hcz43_3,hcz43_4,hcz43_5⟩:=x6_ BK5;have hfz43_2:=blk_frozen BK5.out 2;obtain ⟨hcz44_0,hcz44_1,hcz44_2,hcz44_3,hcz44_4,hcz44_5⟩:=x6_ BK1;have hfz44_0:=blk_frozen BK1.out 0;have hfz44_1:=blk_frozen BK1.out 1;have hfz44_2:=blk_frozen BK1.out 2;have hfz44_3:=blk_frozen BK1.out 3;have hfz44_4:=blk_frozen BK1.out 4;have hfz44_5:=blk_frozen BK1.out 5))
   refine bodyPost_ret (results_cell_row rfl _ _ gb1 58 #[.int .i64 (wrap64 (1+(Int.tmod (wrap64 (a0)) 4))), .string (strOfNums y2), .string (strOfNums y6), .int .i64 0, .int .i64 0, .int .i64 0] (0,0) _ rfl (zw_ BK1) Try.underlying58 rfl (by kernel_rfl)) rfl ?_
   exact ⟨by first|rfl|(simp [errW_none,errW_some]<;>rfl)|(simp [*,errW_none,errW_some]<;>rfl),zl2_ HB GE1 GE5⟩
mutual
def law16_Make.l0:Nat→List Int→Int→List (S31)→Int→List (S54)→Int→Option ((List (S54))×(List (S58))×Int)
 |0,_,_,_,_,_,_=>none
 |k+1,x1,x2,x8,x9,x3000,x3002=>if x9<(x8.length:Int) then (if 0≤x9 then (if x3000.length<2199023255552 then (law16_Make.l0 k x1 x2 x8 (wrap64 (x9+1)) (x3000++ [(⟨(rd_T31 x8 x9).f0,(rd_T31 x8 x9).f1,(⟨(rd_T31 x8 x9).f2.f0,(rd_T31 x8 x9).f2.f1,(rd_T31 x8 x9).f2.f2⟩:S27),(rd_T31 x8 x9).f5⟩:S54)]) x3002) else (none)) else (none)) else (law16_Make.l1 k x1 x2 0 x3000 ([]:List (S58)) x3002)
def law16_Make.l1:Nat→List Int→Int→Int→List (S54)→List (S58)→Int→Option ((List (S54))×(List (S58))×Int)
 |0,_,_,_,_,_,_=>none
 |k+1,x1,x2,x10,x3000,x3001,x3002=>if (wrap64 (x10+2))<(x1.length:Int) then (if x10<60 then (if 0≤x10 then (if x10<(x1.length:Int) then (if 0≤(wrap64 (x10+1)) then (if (wrap64 (x10+1))<(x1.length:Int) then (if 0≤(wrap64 (x10+2)) then ((law15_Step.f k (rd x1 x10) (rd x1 (wrap64 (x10+1))) (rd x1 (wrap64 (x10+2)))).bind fun bt16=>(if x3001.length<2199023255552 then (law16_Make.l1 k x1 x2 (wrap64 (x10+3)) x3000 (x3001++ [(⟨bt16.1,bt16.2.1,bt16.2.2.1,(⟨bt16.2.2.2.1,bt16.2.2.2.2.1,bt16.2.2.2.2.2⟩:S27)⟩:S58)]) x3002) else (none))) else (none)) else (none)) else (none)) else (none)) else (none)) else (if (x3001.length:Int)>0 then (if (x3001.length:Int)=0 then (none) else (some (x3000,x3001,Int.tmod (wrap64 (x2)) (x3001.length:Int)))) else (some (x3000,x3001,x3002)))) else (if (x3001.length:Int)>0 then (if (x3001.length:Int)=0 then (none) else (some (x3000,x3001,Int.tmod (wrap64 (x2)) (x3001.length:Int)))) else (some (x3000,x3001,x3002)))
end
def law16_Make.f (k:Nat) (l0:List Int) (l1:List Int) (a2:Int):Option ((List (S54))×(List (S58))×Int):=(law12_Make.f k l0).bind fun t3=>(law16_Make.l0 k l1 a2 t3 0 ([]:List (S54)) 0)
theorem law16_Make.mono_l: ∀k,(∀y0 y1 y2 y3 y4 y5,LeO (law16_Make.l0 k y0 y1 y2 y3 y4 y5) (law16_Make.l0 (k+1) y0 y1 y2 y3 y4 y5))∧(∀y0 y1 y2 y3 y4 y5,LeO (law16_Make.l1 k y0 y1 y2 y3 y4 y5) (law16_Make.l1 (k+1) y0 y1 y2 y3 y4 y5))
 |0=>⟨fun _ _ _ _ _ _ r h=>by simp [law16_Make.l0] at h,fun _ _ _ _ _ _ r h=>by simp [law16_Make.l1] at h⟩
 |k+1=>by
  obtain ⟨ih0,ih1⟩:=law16_Make.mono_l k
  refine ⟨?_, ?_⟩
  ·intro y0 y1 y2 y3 y4 y5
   unfold law16_Make.l0
   repeat' first
   |(with_reducible exact ih0 _ _ _ _ _ _)
   |(with_reducible exact ih1 _ _ _ _ _ _)
   |(with_reducible exact law12_Make.mono _ _)
   |(with_reducible exact law15_Step.mono _ _ _ _)
   |(with_reducible exact LeO.refl _)
   |(with_reducible exact LeO.none _)
   |(with_reducible refine LeO.ite ?_ ?_)
   |(with_reducible refine LeO.bind ?_ (fun _=> ?_))
   |exact ih0 _ _ _ _ _ _
   |exact ih1 _ _ _ _ _ _
   |exact law12_Make.mono _ _
   |exact law15_Step.mono _ _ _ _
   |exact LeO.none _
   |refine LeO.ite ?_ ?_
   |refine LeO.bind ?_ (fun _=> ?_)
  intro y0 y1 y2 y3 y4 y5
  unfold law16_Make.l1
  repeat' first
  |(with_reducible exact ih0 _ _ _ _ _ _)
  |(with_reducible exact ih1 _ _ _ _ _ _)
  |(with_reducible exact law12_Make.mono _ _)
  |(with_reducible exact law15_Step.mono _ _ _ _)
  |(with_reducible exact LeO.refl _)
  |(with_reducible exact LeO.none _)
  |(with_reducible refine LeO.ite ?_ ?_)
  |(with_reducible refine LeO.bind ?_ (fun _=> ?_))
  |exact ih0 _ _ _ _ _ _
  |exact ih1 _ _ _ _ _ _
  |exact law12_Make.mono _ _
  |exact law15_Step.mono _ _ _ _
  |exact LeO.none _
  |refine LeO.ite ?_ ?_
  |refine LeO.bind ?_ (fun _=> ?_)
theorem law16_Make.mono: ∀a0 a1 a2 k,LeO (law16_Make.f k a0 a1 a2) (law16_Make.f (k+1) a0 a1 a2):=by
 intro a0 a1 a2 k
 obtain ⟨ih0,ih1⟩:=law16_Make.mono_l k
 unfold law16_Make.f
 repeat' first
  |(with_reducible exact ih0 _ _ _ _ _ _)
  |(with_reducible exact ih1 _ _ _ _ _ _)
  |(with_reducible exact law12_Make.mono _ _)
  |(with_reducible exact law15_Step.mono _ _ _ _)
  |(with_reducible exact LeO.refl _)
  |(with_reducible exact LeO.none _)
  |(with_reducible refine LeO.ite ?_ ?_)
  |(with_reducible refine LeO.bind ?_ (fun _=> ?_))
  |exact ih0 _ _ _ _ _ _
  |exact ih1 _ _ _ _ _ _
  |exact law12_Make.mono _ _
  |exact law15_Step.mono _ _ _ _
  |exact LeO.none _
  |refine LeO.ite ?_ ?_
  |refine LeO.bind ?_ (fun _=> ?_)
def law16_Make.T6:Bool×List (List Nat×List Nat):=(true,[([],[]),([0],[0]),([],[]),([],[]),([2,3],[2,3]),([4],[4]),([5],[5]),([],[]),([],[]),([7,8],[7,8]),([9],[9]),([10],[10]),([],[]),([],[]),([12,13],[12,13]),([14],[14]),([15],[15]),([],[]),([],[]),([17,18],[17,18]),([19],[19]),([20],[20]),([6,11,16,21],[6,11,16,21]),([22],[22]),([1,23],[1,23]),([0,1,2,3,4,5,6,7,8,9,10,11,12,13,14,15,16,17,18,19,20,21,22,23,24],[]),([25,24,24,0,1,2,3,4,5,6,7,8,9,10,11,12,13,14,15,16,17,18,19,20,21,22,23,24],[24,25])])
def law16_Make.B6:List Nat:=[0,1,0,0,12,28,60,0,0,384,896,1920,0,0,12288,28672,61440,0,0,393216,917504,1966080,4194300,8388604,16777215,33554431,67108863]
theorem law16_Make.tab6:rtab .any (opsOf Try.f48 6)=law16_Make.T6:=by kernel_rfl
theorem law16_Make.bits6:waitsOk law16_Make.T6.2 law16_Make.B6=true:=by kernel_rfl
def law16_Make.T10:Bool×List (List Nat×List Nat):=(true,[([],[]),([0],[0]),([],[]),([],[]),([2,3],[2,3]),([4],[4]),([],[]),([],[]),([7],[7]),([6,8],[6,8]),([9],[9]),([],[]),([],[]),([12],[12]),([11,13],[11,13]),([14],[14]),([5,10,15],[5,10,15]),([16],[16]),([1,17,16],[1,17]),([0,1,2,3,4,5,6,7,8,9,10,11,12,13,14,15,16,17,18],[]),([19,18,18,0,1,2,3,4,5,6,7,8,9,10,11,12,13,14,15,16,17,18],[18,19])])
def law16_Make.B10:List Nat:=[0,1,0,0,12,28,0,0,128,448,960,0,0,4096,14336,30720,65532,131068,262143,524287,1048575]
theorem law16_Make.tab10:rtab .any (opsOf Try.f48 10)=law16_Make.T10:=by kernel_rfl
theorem law16_Make.bits10:waitsOk law16_Make.T10.2 law16_Make.B10=true:=by kernel_rfl
set_option maxHeartbeats 8000000 in
set_option maxRecDepth 100000 in
theorem law16_Make.calls (k:Nat) (A0:Option Addr) (c0:Nat) (l0:List Int) (A1:Option Addr) (c1:Nat) (l1:List Int) (a2:Int) (r1:List (S54)) (r2:List (S58)) (r3:Int) (w:World) (hr0:Kd.C (Kd.int .u8) w A0 l0.length l0) (hc0:l0.length≤c0) (hr1:Kd.C (Kd.int .u8) w A1 l1.length l1) (hc1:l1.length≤c1) (h:law16_Make.f k l0 l1 a2=some (r1,r2,r3)):
  Calls Try.prog 48 #[.slice A0 l0.length c0, .slice A1 l1.length c1, .int .u8 a2] w fun e w'=> ∃v0_ v1_:Value,e= .returned (.agg #[v0_,v1_, .int .i64 r3])∧Kd.R k54 54 w' w.heap.size (fun _=>True) v0_ r1∧Kd.R k58 58 w' w.heap.size (fun _=>True) v1_ r2∧Below w.heap.size w w':=by
 have hu42:=Try.underlying42
 have hu27:=Try.underlying27
 have hu54:=Try.underlying54
 have HR0:=Aside0.mk hr0
 have HC0:=Aside0.mk hc0
 clear hr0 hc0
 have HR1:=Aside0.mk hr1
 have HC1:=Aside0.mk hc1
 clear hr1 hc1
 have HB:=am_ (Below.refl w.heap.size w)
 have H:((law12_Make.f k l0).bind fun t3=>(law16_Make.l0 k l1 a2 t3 0 ([]:List (S54)) 0))=some (r1,r2,r3):=h
 clear h
 replace H:=Option.bind_eq_some_iff.mp H
 obtain ⟨t3,A40,H⟩:=H
 try dsimp only at H
 have A4:=Aside0.mk A40
 clear A40
 have H':=Aside0.mk H
 clear H
 go_enter Try.func48,Try.ntmps48
 go_wp2_with (first|((with_reducible refine gate_dst (N:=6) rfl ?_);refine bx_ (N:=6) (cs:=#[.slice none 0 0, .slice none 0 0, .int .i64 0]) (t:=42) ?_;intro gb1 hg w5 hbox hb;have BK1:=am_ (hbox);have GW1:=am_ ((zg0_ HB hg:w.heap.size≤gb1));have GE1:=am_ ((zg0_ HB hg:w.heap.size≤gb1));replace HB:=am_ (below_step (zl0_ HB) hb);clear hb hbox hg)|((with_reducible refine gate_dst (N:=7) rfl ?_);refine bx_ (N:=7) (cs:=#[.slice none 0 0, .slice none 0 0, .int .i64 0]) (t:=42) ?_;intro gb2 hg w6 hbox hb;have BK2:=am_ (hbox);have GW2:=am_ ((zg1_ HB GE1 hg:w.heap.size≤gb2));have GE2:=am_ ((zg1_ HB GE1 hg:w.heap.size≤gb2));replace HB:=am_ (below_step (zl1_ HB GE1) hb);have NB1_2:=am_ ((zn_ BK1 hg:gb1≠gb2));have NB2_1:=am_ ((zm_ BK1 hg:gb2≠gb1));replace BK1:=am_ (blk_below (zb_ BK1) hb);clear hb hbox hg)|((with_reducible refine gate_callee (f:=32) rfl ?_);refine gl_ (some 12) Try.func32 #[.slice A0 l0.length c0] ?_;(with_reducible refine (law12_Make.calls k _ _ l0 t3 _ ?side1 ?side2 A4.out).mono ?_);(case side1=>exact zc_ (Kd.C_below HR0.out HB.out));(case side2=>exact HC0.out);rintro e w7 ⟨v4,rfl,ho0,hb⟩;refine ⟨_,rfl, ?_⟩;have HO5:=am_ (Kd.R_lower ho0 (below_size (zl2_ HB GE1 GE2)));replace BK1:=am_ (blk_below (zb_ BK1) hb);replace BK2:=am_ (blk_below (zb_ BK2) hb);replace HB:=am_ (below_step (zl2_ HB GE1 GE2) hb);(try clear hb);(try clear hb2);(try clear hk);(try clear hi);(try clear ho0)))
 go_loopg [9] k (fun kq v9 w'=> ∃(x9_1:Int) (x3000_1:List (S54)) (u3000:Value),v9= .int .i64 x9_1∧Aside0 (law16_Make.l0 kq l1 a2 t3 x9_1 x3000_1 0=some (r1,r2,r3))∧Aside0 (kq≤k)∧Aside0 (Kd.R k31 31 w' w.heap.size (fun _=>True) v4 t3)∧Aside0 (Kd.R k54 54 w' w.heap.size (fun _=>True) u3000 x3000_1)∧Aside0 (w'.heap[gb1]?=some (.cells #[(.slice none 0 0),(.slice none 0 0), .int .i64 0] 42 (0,0)))∧Aside0 (w'.heap[gb2]?=some (.cells #[u3000,(.slice none 0 0), .int .i64 0] 42 (0,0)))∧Aside0 (Below w.heap.size w w'))
 case atStart=>exact ⟨(0),(([]:List (S54))),(.slice none 0 0),(by first|rfl|(simp;done)|(simp [*];done)),H',⟨Nat.le_refl _⟩,⟨by (with_reducible repeat (first|apply Kd.R_alloc|apply Kd.R_drewN|apply Kd.R_drew));exact HO5.out⟩,⟨by first|exact Kd.R_nil _ _ _ _ _|exact Kd.N_nil _ _ _ _ _|exact Kd.V_nil _ _ _ _ _|exact Kd.Q_nil _ _ _ _ _|exact Kd.S_nil _ _ _ _ _⟩,⟨by refine zk_ ?_;exact BK1.out⟩,⟨by refine zk_ ?_;exact BK2.out⟩,⟨zl2_ HB GE1 GE2⟩⟩
 case round=>
  clear H'
  try clear c1
  try clear p2
  try clear c3
  try clear c4
  obtain ⟨x9_1,x3000_1,u3000,rfl,HA,HK1,HO_8,HO_3000,BK1,BK2,HB⟩:=hrel
  cases gk with
  |zero=>exact absurd HA.out (by simp [law16_Make.l0])
  |succ k1=>
   have H:=HA.out
   clear HA
   simp only [law16_Make.l0] at H
   by_cases c8:x9_1<(t3.length:Int)
   ·rw [if_pos c8] at H
    have c8b0:decide (x9_1<(t3.length:Int))=true:=decide_eq_true c8
    clear c8
    by_cases c9:0≤x9_1
    rotate_left
    ·rw [if_neg c9] at H
     exact absurd H (by simp)
    rw [if_pos c9] at H
    have c9b0:decide (0≤x9_1)=true:=decide_eq_true c9
    clear c9
    by_cases c10:x3000_1.length<2199023255552
    rotate_left
    ·rw [if_neg c10] at H
     exact absurd H (by simp)
    rw [if_pos c10] at H
    have LMc10:=Aside0.mk c10
    clear c10
    obtain ⟨y10,hy10⟩: ∃y_:List (S54),y_=(x3000_1++ [(⟨(rd_T31 t3 x9_1).f0,(rd_T31 t3 x9_1).f1,(⟨(rd_T31 t3 x9_1).f2.f0,(rd_T31 t3 x9_1).f2.f1,(rd_T31 t3 x9_1).f2.f2⟩:S27),(rd_T31 t3 x9_1).f5⟩:S54)]):=⟨_,rfl⟩
    replace H:(law16_Make.l0 k1 l1 a2 t3 (wrap64 (x9_1+1)) y10 0)=some (r1,r2,r3):=by first|(rw [hy10];with_reducible exact H)|(have H2_:=(Option.bind_some _ _).symm.trans H;rw [hy10];with_reducible exact H2_)|(have H2_:=(Option.bind_some _ _).symm.trans H;with_reducible exact H2_)|with_reducible exact H|(rw [hy10];exact H)|exact H
    have Ny10:=Aside0.mk hy10
    clear hy10
    have H':=Aside0.mk H
    clear H
    obtain ⟨Ao11,co11,eo11⟩:=Kd.R_slice HO_8.out
    subst eo11
    try go_wp2
    replace HO_8:=am_ (Kd.R_drew HO_8.out)
    replace HO_3000:=am_ (Kd.R_drew HO_3000.out)
    replace BK1:=am_ (blk_drew BK1.out)
    replace BK2:=am_ (blk_drew BK2.out)
    replace HB:=am_ (below_drew1 HB.out)
    have p6:0≤(x9_1:Int):=of_decide_eq_true zq_
    have q6:x9_1<(t3.length:Int):=of_decide_eq_true zq_
    obtain ⟨ad6,e6,hx6_0,hx6_1,hx6_2,hx6_3,hx6_4,hx6_5,hx6_6,hx6_7,hx6_8,hx6_9,hx6_10,hx6_11⟩:=at_T31 (Kd.R_reads' HO_8.out).2.2 x9_1 p6 q6
    cases e6
    replace p6:=eq_true p6
    replace q6:=eq_true q6
    have p7:0≤(x9_1:Int):=of_decide_eq_true zq_
    have q7:x9_1<(t3.length:Int):=of_decide_eq_true zq_
    obtain ⟨ad7,e7,hx7_0,hx7_1,hx7_2,hx7_3,hx7_4,hx7_5,hx7_6,hx7_7,hx7_8,hx7_9,hx7_10,hx7_11⟩:=at_T31 (Kd.R_reads' HO_8.out).2.2 x9_1 p7 q7
    obtain rfl:ad6=ad7:=(by injection e7)
    replace p7:=eq_true p7
    replace q7:=eq_true q7
    have p8:0≤(x9_1:Int):=of_decide_eq_true zq_
    have q8:x9_1<(t3.length:Int):=of_decide_eq_true zq_
    obtain ⟨ad8,e8,hx8_0,hx8_1,hx8_2,hx8_3,hx8_4,hx8_5,hx8_6,hx8_7,hx8_8,hx8_9,hx8_10,hx8_11⟩:=at_T31 (Kd.R_reads' HO_8.out).2.2 x9_1 p8 q8
    obtain rfl:ad6=ad8:=(by injection e8)
    replace p8:=eq_true p8
    replace q8:=eq_true q8
    have p9:0≤(x9_1:Int):=of_decide_eq_true zq_
    have q9:x9_1<(t3.length:Int):=of_decide_eq_true zq_
    obtain ⟨ad9,e9,hx9_0,hx9_1,hx9_2,hx9_3,hx9_4,hx9_5,hx9_6,hx9_7,hx9_8,hx9_9,hx9_10,hx9_11⟩:=at_T31 (Kd.R_reads' HO_8.out).2.2 x9_1 p9 q9
    obtain rfl:ad6=ad9:=(by injection e9)
    replace p9:=eq_true p9
    replace q9:=eq_true q9
    refine start_ (n:=27) (S:=fun w'=>w'.cell? ⟨gb2,0,none⟩=some (u3000)∧w'.cell? ⟨gb2,1,none⟩=some (.slice none 0 0)∧w'.cell? ⟨gb2,2,none⟩=some (.int .i64 0)∧w'.cell? (ad6.add ((x9_1).toNat*12))=some (.string ((rd_T31 t3 x9_1).f0))∧w'.cell? ⟨(ad6.add ((x9_1).toNat*12)).block,(ad6.add ((x9_1).toNat*12)).off+1,none⟩=some (.string ((rd_T31 t3 x9_1).f1))∧w'.cell? ⟨(ad6.add ((x9_1).toNat*12)).block,(ad6.add ((x9_1).toNat*12)).off+2,none⟩=some (.int .i64 ((rd_T31 t3 x9_1).f2.f0))∧w'.cell? ⟨(ad6.add ((x9_1).toNat*12)).block,(ad6.add ((x9_1).toNat*12)).off+3,none⟩=some (.int .i64 ((rd_T31 t3 x9_1).f2.f1))∧w'.cell? ⟨(ad6.add ((x9_1).toNat*12)).block,(ad6.add ((x9_1).toNat*12)).off+4,none⟩=some (.int .i64 ((rd_T31 t3 x9_1).f2.f2))∧w'.cell? ⟨(ad6.add ((x9_1).toNat*12)).block,(ad6.add ((x9_1).toNat*12)).off+5,none⟩=some (.int .i64 ((rd_T31 t3 x9_1).f3.f0))∧w'.cell? ⟨(ad6.add ((x9_1).toNat*12)).block,(ad6.add ((x9_1).toNat*12)).off+6,none⟩=some (.int .i64 ((rd_T31 t3 x9_1).f3.f1))∧w'.cell? ⟨(ad6.add ((x9_1).toNat*12)).block,(ad6.add ((x9_1).toNat*12)).off+7,none⟩=some (.int .i64 ((rd_T31 t3 x9_1).f3.f2))∧w'.cell? ⟨(ad6.add ((x9_1).toNat*12)).block,(ad6.add ((x9_1).toNat*12)).off+8,none⟩=some (.int .i64 ((rd_T31 t3 x9_1).f4.f0))∧w'.cell? ⟨(ad6.add ((x9_1).toNat*12)).block,(ad6.add ((x9_1).toNat*12)).off+9,none⟩=some (.int .i64 ((rd_T31 t3 x9_1).f4.f1))∧w'.cell? ⟨(ad6.add ((x9_1).toNat*12)).block,(ad6.add ((x9_1).toNat*12)).off+10,none⟩=some (.int .i64 ((rd_T31 t3 x9_1).f4.f2))∧w'.cell? ⟨(ad6.add ((x9_1).toNat*12)).block,(ad6.add ((x9_1).toNat*12)).off+11,none⟩=some (.int .i64 ((rd_T31 t3 x9_1).f5))∧w'.cell? (ad6.add ((x9_1).toNat*12))=some (.string ((rd_T31 t3 x9_1).f0))∧w'.cell? ⟨(ad6.add ((x9_1).toNat*12)).block,(ad6.add ((x9_1).toNat*12)).off+1,none⟩=some (.string ((rd_T31 t3 x9_1).f1))∧w'.cell? ⟨(ad6.add ((x9_1).toNat*12)).block,(ad6.add ((x9_1).toNat*12)).off+2,none⟩=some (.int .i64 ((rd_T31 t3 x9_1).f2.f0))∧w'.cell? ⟨(ad6.add ((x9_1).toNat*12)).block,(ad6.add ((x9_1).toNat*12)).off+3,none⟩=some (.int .i64 ((rd_T31 t3 x9_1).f2.f1))∧w'.cell? ⟨(ad6.add ((x9_1).toNat*12)).block,(ad6.add ((x9_1).toNat*12)).off+4,none⟩=some (.int .i64 ((rd_T31 t3 x9_1).f2.f2))∧w'.cell? ⟨(ad6.add ((x9_1).toNat*12)).block,(ad6.add ((x9_1).toNat*12)).off+5,none⟩=some (.int .i64 ((rd_T31 t3 x9_1).f3.f0))∧w'.cell? ⟨(ad6.add ((x9_1).toNat*12)).block,(ad6.add ((x9_1).toNat*12)).off+6,none⟩=some (.int .i64 ((rd_T31 t3 x9_1).f3.f1))∧w'.cell? ⟨(ad6.add ((x9_1).toNat*12)).block,(ad6.add ((x9_1).toNat*12)).off+7,none⟩=some (.int .i64 ((rd_T31 t3 x9_1).f3.f2))∧w'.cell? ⟨(ad6.add ((x9_1).toNat*12)).block,(ad6.add ((x9_1).toNat*12)).off+8,none⟩=some (.int .i64 ((rd_T31 t3 x9_1).f4.f0))∧w'.cell? ⟨(ad6.add ((x9_1).toNat*12)).block,(ad6.add ((x9_1).toNat*12)).off+9,none⟩=some (.int .i64 ((rd_T31 t3 x9_1).f4.f1))∧w'.cell? ⟨(ad6.add ((x9_1).toNat*12)).block,(ad6.add ((x9_1).toNat*12)).off+10,none⟩=some (.int .i64 ((rd_T31 t3 x9_1).f4.f2))∧w'.cell? ⟨(ad6.add ((x9_1).toNat*12)).block,(ad6.add ((x9_1).toNat*12)).off+11,none⟩=some (.int .i64 ((rd_T31 t3 x9_1).f5))∧w'.cell? (ad6.add ((x9_1).toNat*12))=some (.string ((rd_T31 t3 x9_1).f0))∧w'.cell? ⟨(ad6.add ((x9_1).toNat*12)).block,(ad6.add ((x9_1).toNat*12)).off+1,none⟩=some (.string ((rd_T31 t3 x9_1).f1))∧w'.cell? ⟨(ad6.add ((x9_1).toNat*12)).block,(ad6.add ((x9_1).toNat*12)).off+2,none⟩=some (.int .i64 ((rd_T31 t3 x9_1).f2.f0))∧w'.cell? ⟨(ad6.add ((x9_1).toNat*12)).block,(ad6.add ((x9_1).toNat*12)).off+3,none⟩=some (.int .i64 ((rd_T31 t3 x9_1).f2.f1))∧w'.cell? ⟨(ad6.add ((x9_1).toNat*12)).block,(ad6.add ((x9_1).toNat*12)).off+4,none⟩=some (.int .i64 ((rd_T31 t3 x9_1).f2.f2))∧w'.cell? ⟨(ad6.add ((x9_1).toNat*12)).block,(ad6.add ((x9_1).toNat*12)).off+5,none⟩=some (.int .i64 ((rd_T31 t3 x9_1).f3.f0))∧w'.cell? ⟨(ad6.add ((x9_1).toNat*12)).block,(ad6.add ((x9_1).toNat*12)).off+6,none⟩=some (.int .i64 ((rd_T31 t3 x9_1).f3.f1))∧w'.cell? ⟨(ad6.add ((x9_1).toNat*12)).block,(ad6.add ((x9_1).toNat*12)).off+7,none⟩=some (.int .i64 ((rd_T31 t3 x9_1).f3.f2))∧w'.cell? ⟨(ad6.add ((x9_1).toNat*12)).block,(ad6.add ((x9_1).toNat*12)).off+8,none⟩=some (.int .i64 ((rd_T31 t3 x9_1).f4.f0))∧w'.cell? ⟨(ad6.add ((x9_1).toNat*12)).block,(ad6.add ((x9_1).toNat*12)).off+9,none⟩=some (.int .i64 ((rd_T31 t3 x9_1).f4.f1))∧w'.cell? ⟨(ad6.add ((x9_1).toNat*12)).block,(ad6.add ((x9_1).toNat*12)).off+10,none⟩=some (.int .i64 ((rd_T31 t3 x9_1).f4.f2))∧w'.cell? ⟨(ad6.add ((x9_1).toNat*12)).block,(ad6.add ((x9_1).toNat*12)).off+11,none⟩=some (.int .i64 ((rd_T31 t3 x9_1).f5))∧w'.cell? (ad6.add ((x9_1).toNat*12))=some (.string ((rd_T31 t3 x9_1).f0))∧w'.cell? ⟨(ad6.add ((x9_1).toNat*12)).block,(ad6.add ((x9_1).toNat*12)).off+1,none⟩=some (.string ((rd_T31 t3 x9_1).f1))∧w'.cell? ⟨(ad6.add ((x9_1).toNat*12)).block,(ad6.add ((x9_1).toNat*12)).off+2,none⟩=some (.int .i64 ((rd_T31 t3 x9_1).f2.f0))∧w'.cell? ⟨(ad6.add ((x9_1).toNat*12)).block,(ad6.add ((x9_1).toNat*12)).off+3,none⟩=some (.int .i64 ((rd_T31 t3 x9_1).f2.f1))∧w'.cell? ⟨(ad6.add ((x9_1).toNat*12)).block,(ad6.add ((x9_1).toNat*12)).off+4,none⟩=some (.int .i64 ((rd_T31 t3 x9_1).f2.f2))∧w'.cell? ⟨(ad6.add ((x9_1).toNat*12)).block,(ad6.add ((x9_1).toNat*12)).off+5,none⟩=some (.int .i64 ((rd_T31 t3 x9_1).f3.f0))∧w'.cell? ⟨(ad6.add ((x9_1).toNat*12)).block,(ad6.add ((x9_1).toNat*12)).off+6,none⟩=some (.int .i64 ((rd_T31 t3 x9_1).f3.f1))∧w'.cell? ⟨(ad6.add ((x9_1).toNat*12)).block,(ad6.add ((x9_1).toNat*12)).off+7,none⟩=some (.int .i64 ((rd_T31 t3 x9_1).f3.f2))∧w'.cell? ⟨(ad6.add ((x9_1).toNat*12)).block,(ad6.add ((x9_1).toNat*12)).off+8,none⟩=some (.int .i64 ((rd_T31 t3 x9_1).f4.f0))∧w'.cell? ⟨(ad6.add ((x9_1).toNat*12)).block,(ad6.add ((x9_1).toNat*12)).off+9,none⟩=some (.int .i64 ((rd_T31 t3 x9_1).f4.f1))∧w'.cell? ⟨(ad6.add ((x9_1).toNat*12)).block,(ad6.add ((x9_1).toNat*12)).off+10,none⟩=some (.int .i64 ((rd_T31 t3 x9_1).f4.f2))∧w'.cell? ⟨(ad6.add ((x9_1).toNat*12)).block,(ad6.add ((x9_1).toNat*12)).off+11,none⟩=some (.int .i64 ((rd_T31 t3 x9_1).f5))) (ds:=[24,26]) (bt_ 27 0) (by kernel_rfl) rfl rfl ⟨(blk_cell BK2.out 0).trans rfl,(blk_cell BK2.out 1).trans rfl,(blk_cell BK2.out 2).trans rfl,hx6_0,hx6_1,hx6_2,hx6_3,hx6_4,hx6_5,hx6_6,hx6_7,hx6_8,hx6_9,hx6_10,hx6_11,hx7_0,hx7_1,hx7_2,hx7_3,hx7_4,hx7_5,hx7_6,hx7_7,hx7_8,hx7_9,hx7_10,hx7_11,hx8_0,hx8_1,hx8_2,hx8_3,hx8_4,hx8_5,hx8_6,hx8_7,hx8_8,hx8_9,hx8_10,hx8_11,hx9_0,hx9_1,hx9_2,hx9_3,hx9_4,hx9_5,hx9_6,hx9_7,hx9_8,hx9_9,hx9_10,hx9_11⟩ (fun hHeld=> ?_);refine with_tabW law16_Make.tab6 law16_Make.bits6 (fun HT_ HW_=> ?_)
    generalize wr.drew=w12 at HO_8 HO_3000 BK1 BK2 HB hx6_0 hx6_1 hx6_10 hx6_11 hx6_2 hx6_3 hx6_4 hx6_5 hx6_6 hx6_7 hx6_8 hx6_9 hx7_0 hx7_1 hx7_10 hx7_11 hx7_2 hx7_3 hx7_4 hx7_5 hx7_6 hx7_7 hx7_8 hx7_9 hx8_0 hx8_1 hx8_10 hx8_11 hx8_2 hx8_3 hx8_4 hx8_5 hx8_6 hx8_7 hx8_8 hx8_9 hx9_0 hx9_1 hx9_10 hx9_11 hx9_2 hx9_3 hx9_4 hx9_5 hx9_6 hx9_7 hx9_8 hx9_9 hHeld ⊢
    refine pu_ (i:=0) (N:=some 19) (bt_ 27 1) HT_ ?_
    refine pu_ (i:=2) (N:=some 21) (bt_ 27 5) HT_ ?_
    refine pu_ (i:=3) (N:=some 22) (bt_ 27 13) HT_ ?_
    refine pu_ (i:=4) (N:=some 23) (bt_ 27 29) HT_ ?_
    refine pu_ (i:=5) (N:=some 24) (bt_ 27 61) HT_ ?_
    refine pu_ (i:=7) (N:=some 26) (bt_ 27 189) HT_ ?_
    refine pu_ (i:=8) (N:=some 27) (bt_ 27 445) HT_ ?_
    refine pu_ (i:=9) (N:=some 28) (bt_ 27 957) HT_ ?_
    refine pu_ (i:=10) (N:=some 29) (bt_ 27 1981) HT_ ?_
    refine pu_ (i:=12) (N:=some 31) (bt_ 27 6077) HT_ ?_
    refine pu_ (i:=13) (N:=some 32) (bt_ 27 14269) HT_ ?_
    refine pu_ (i:=14) (N:=some 33) (bt_ 27 30653) HT_ ?_
    refine pu_ (i:=15) (N:=some 34) (bt_ 27 63421) HT_ ?_
    refine pu_ (i:=17) (N:=some 36) (bt_ 27 194493) HT_ ?_
    refine pu_ (i:=18) (N:=some 37) (bt_ 27 456637) HT_ ?_
    refine pu_ (i:=19) (N:=some 38) (bt_ 27 980925) HT_ ?_
    refine pu_ (i:=20) (N:=some 39) (bt_ 27 2029501) HT_ ?_
    refine tk_ (i:=1) (N:=some 20) (bt_ 27 2029503) HT_ HW_ hHeld ?_
    refine tk_ (i:=6) (N:=some 25) (bt_ 27 2029567) HT_ HW_ hHeld ?_
    refine tk_ (i:=11) (N:=some 30) (bt_ 27 2031615) HT_ HW_ hHeld ?_
    refine tk_ (i:=16) (N:=some 35) (bt_ 27 2097151) HT_ HW_ hHeld ?_
    refine tk_ (i:=21) (N:=some 40) (bt_ 27 4194303) HT_ HW_ hHeld ?_
    refine pu_ (i:=22) (N:=some 41) (bt_ 27 8388607) HT_ ?_
    refine on_ (i:=23) (N:=some 42) (bt_ 27 16777215) HT_ (fun K hK=> ?_)
    refine value_ (w1:= ?_) (v:= ?_) (by rfl) rfl ?_ ?_
    rotate_left 2
    ·go_simp
     constructor
     ·rfl
     rfl
    refine hK.out _ _ ⟨(blk_cell (blk_alloc BK2.out _) 0).trans rfl,(blk_cell (blk_alloc BK2.out _) 1).trans rfl,(blk_cell (blk_alloc BK2.out _) 2).trans rfl,(World.cell?_alloc_lt _ _ _ (World.block_lt_of_cell? _ _ (hHeld.2.2.2.1))).trans (hHeld.2.2.2.1),(World.cell?_alloc_lt _ _ _ (World.block_lt_of_cell? _ _ (hHeld.2.2.2.2.1))).trans (hHeld.2.2.2.2.1),(World.cell?_alloc_lt _ _ _ (World.block_lt_of_cell? _ _ (hHeld.2.2.2.2.2.1))).trans (hHeld.2.2.2.2.2.1),(World.cell?_alloc_lt _ _ _ (World.block_lt_of_cell? _ _ (hHeld.2.2.2.2.2.2.1))).trans (hHeld.2.2.2.2.2.2.1),(World.cell?_alloc_lt _ _ _ (World.block_lt_of_cell? _ _ (hHeld.2.2.2.2.2.2.2.1))).trans (hHeld.2.2.2.2.2.2.2.1),(World.cell?_alloc_lt _ _ _ (World.block_lt_of_cell? _ _ (hHeld.2.2.2.2.2.2.2.2.1))).trans (hHeld.2.2.2.2.2.2.2.2.1),(World.cell?_alloc_lt _ _ _ (World.block_lt_of_cell? _ _ (hHeld.2.2.2.2.2.2.2.2.2.1))).trans (hHeld.2.2.2.2.2.2.2.2.2.1),(World.cell?_alloc_lt _ _ _ (World.block_lt_of_cell? _ _ (hHeld.2.2.2.2.2.2.2.2.2.2.1))).trans (hHeld.2.2.2.2.2.2.2.2.2.2.1),(World.cell?_alloc_lt _ _ _ (World.block_lt_of_cell? _ _ (hHeld.2.2.2.2.2.2.2.2.2.2.2.1))).trans (hHeld.2.2.2.2.2.2.2.2.2.2.2.1),(World.cell?_alloc_lt _ _ _ (World.block_lt_of_cell? _ _ (hHeld.2.2.2.2.2.2.2.2.2.2.2.2.1))).trans (hHeld.2.2.2.2.2.2.2.2.2.2.2.2.1),(World.cell?_alloc_lt _ _ _ (World.block_lt_of_cell? _ _ (hHeld.2.2.2.2.2.2.2.2.2.2.2.2.2.1))).trans (hHeld.2.2.2.2.2.2.2.2.2.2.2.2.2.1),(World.cell?_alloc_lt _ _ _ (World.block_lt_of_cell? _ _ (hHeld.2.2.2.2.2.2.2.2.2.2.2.2.2.2.1))).trans (hHeld.2.2.2.2.2.2.2.2.2.2.2.2.2.2.1),(World.cell?_alloc_lt _ _ _ (World.block_lt_of_cell? _ _ (hHeld.2.2.2.2.2.2.2.2.2.2.2.2.2.2.2.1))).trans (hHeld.2.2.2.2.2.2.2.2.2.2.2.2.2.2.2.1),(World.cell?_alloc_lt _ _ _ (World.block_lt_of_cell? _ _ (hHeld.2.2.2.2.2.2.2.2.2.2.2.2.2.2.2.2.1))).trans (hHeld.2.2.2.2.2.2.2.2.2.2.2.2.2.2.2.2.1),(World.cell?_alloc_lt _ _ _ (World.block_lt_of_cell? _ _ (hHeld.2.2.2.2.2.2.2.2.2.2.2.2.2.2.2.2.2.1))).trans (hHeld.2.2.2.2.2.2.2.2.2.2.2.2.2.2.2.2.2.1),(World.cell?_alloc_lt _ _ _ (World.block_lt_of_cell? _ _ (hHeld.2.2.2.2.2.2.2.2.2.2.2.2.2.2.2.2.2.2.1))).trans (hHeld.2.2.2.2.2.2.2.2.2.2.2.2.2.2.2.2.2.2.1),(World.cell?_alloc_lt _ _ _ (World.block_lt_of_cell? _ _ (hHeld.2.2.2.2.2.2.2.2.2.2.2.2.2.2.2.2.2.2.2.1))).trans (hHeld.2.2.2.2.2.2.2.2.2.2.2.2.2.2.2.2.2.2.2.1),(World.cell?_alloc_lt _ _ _ (World.block_lt_of_cell? _ _ (hHeld.2.2.2.2.2.2.2.2.2.2.2.2.2.2.2.2.2.2.2.2.1))).trans (hHeld.2.2.2.2.2.2.2.2.2.2.2.2.2.2.2.2.2.2.2.2.1),(World.cell?_alloc_lt _ _ _ (World.block_lt_of_cell? _ _ (hHeld.2.2.2.2.2.2.2.2.2.2.2.2.2.2.2.2.2.2.2.2.2.1))).trans (hHeld.2.2.2.2.2.2.2.2.2.2.2.2.2.2.2.2.2.2.2.2.2.1),(World.cell?_alloc_lt _ _ _ (World.block_lt_of_cell? _ _ (hHeld.2.2.2.2.2.2.2.2.2.2.2.2.2.2.2.2.2.2.2.2.2.2.1))).trans (hHeld.2.2.2.2.2.2.2.2.2.2.2.2.2.2.2.2.2.2.2.2.2.2.1),(World.cell?_alloc_lt _ _ _ (World.block_lt_of_cell? _ _ (hHeld.2.2.2.2.2.2.2.2.2.2.2.2.2.2.2.2.2.2.2.2.2.2.2.1))).trans (hHeld.2.2.2.2.2.2.2.2.2.2.2.2.2.2.2.2.2.2.2.2.2.2.2.1),(World.cell?_alloc_lt _ _ _ (World.block_lt_of_cell? _ _ (hHeld.2.2.2.2.2.2.2.2.2.2.2.2.2.2.2.2.2.2.2.2.2.2.2.2.1))).trans (hHeld.2.2.2.2.2.2.2.2.2.2.2.2.2.2.2.2.2.2.2.2.2.2.2.2.1),(World.cell?_alloc_lt _ _ _ (World.block_lt_of_cell? _ _ (hHeld.2.2.2.2.2.2.2.2.2.2.2.2.2.2.2.2.2.2.2.2.2.2.2.2.2.1))).trans (hHeld.2.2.2.2.2.2.2.2.2.2.2.2.2.2.2.2.2.2.2.2.2.2.2.2.2.1),(World.cell?_alloc_lt _ _ _ (World.block_lt_of_cell? _ _ (hHeld.2.2.2.2.2.2.2.2.2.2.2.2.2.2.2.2.2.2.2.2.2.2.2.2.2.2.1))).trans (hHeld.2.2.2.2.2.2.2.2.2.2.2.2.2.2.2.2.2.2.2.2.2.2.2.2.2.2.1),(World.cell?_alloc_lt _ _ _ (World.block_lt_of_cell? _ _ (hHeld.2.2.2.2.2.2.2.2.2.2.2.2.2.2.2.2.2.2.2.2.2.2.2.2.2.2.2.1))).trans (hHeld.2.2.2.2.2.2.2.2.2.2.2.2.2.2.2.2.2.2.2.2.2.2.2.2.2.2.2.1),(World.cell?_alloc_lt _ _ _ (World.block_lt_of_cell? _ _ (hHeld.2.2.2.2.2.2.2.2.2.2.2.2.2.2.2.2.2.2.2.2.2.2.2.2.2.2.2.2.1))).trans (hHeld.2.2.2.2.2.2.2.2.2.2.2.2.2.2.2.2.2.2.2.2.2.2.2.2.2.2.2.2.1),(World.cell?_alloc_lt _ _ _ (World.block_lt_of_cell? _ _ (hHeld.2.2.2.2.2.2.2.2.2.2.2.2.2.2.2.2.2.2.2.2.2.2.2.2.2.2.2.2.2.1))).trans (hHeld.2.2.2.2.2.2.2.2.2.2.2.2.2.2.2.2.2.2.2.2.2.2.2.2.2.2.2.2.2.1),(World.cell?_alloc_lt _ _ _ (World.block_lt_of_cell? _ _ (hHeld.2.2.2.2.2.2.2.2.2.2.2.2.2.2.2.2.2.2.2.2.2.2.2.2.2.2.2.2.2.2.1))).trans (hHeld.2.2.2.2.2.2.2.2.2.2.2.2.2.2.2.2.2.2.2.2.2.2.2.2.2.2.2.2.2.2.1),(World.cell?_alloc_lt _ _ _ (World.block_lt_of_cell? _ _ (hHeld.2.2.2.2.2.2.2.2.2.2.2.2.2.2.2.2.2.2.2.2.2.2.2.2.2.2.2.2.2.2.2.1))).trans (hHeld.2.2.2.2.2.2.2.2.2.2.2.2.2.2.2.2.2.2.2.2.2.2.2.2.2.2.2.2.2.2.2.1),(World.cell?_alloc_lt _ _ _ (World.block_lt_of_cell? _ _ (hHeld.2.2.2.2.2.2.2.2.2.2.2.2.2.2.2.2.2.2.2.2.2.2.2.2.2.2.2.2.2.2.2.2.1))).trans (hHeld.2.2.2.2.2.2.2.2.2.2.2.2.2.2.2.2.2.2.2.2.2.2.2.2.2.2.2.2.2.2.2.2.1),(World.cell?_alloc_lt _ _ _ (World.block_lt_of_cell? _ _ (hHeld.2.2.2.2.2.2.2.2.2.2.2.2.2.2.2.2.2.2.2.2.2.2.2.2.2.2.2.2.2.2.2.2.2.1))).trans (hHeld.2.2.2.2.2.2.2.2.2.2.2.2.2.2.2.2.2.2.2.2.2.2.2.2.2.2.2.2.2.2.2.2.2.1),(World.cell?_alloc_lt _ _ _ (World.block_lt_of_cell? _ _ (hHeld.2.2.2.2.2.2.2.2.2.2.2.2.2.2.2.2.2.2.2.2.2.2.2.2.2.2.2.2.2.2.2.2.2.2.1))).trans (hHeld.2.2.2.2.2.2.2.2.2.2.2.2.2.2.2.2.2.2.2.2.2.2.2.2.2.2.2.2.2.2.2.2.2.2.1),(World.cell?_alloc_lt _ _ _ (World.block_lt_of_cell? _ _ (hHeld.2.2.2.2.2.2.2.2.2.2.2.2.2.2.2.2.2.2.2.2.2.2.2.2.2.2.2.2.2.2.2.2.2.2.2.1))).trans (hHeld.2.2.2.2.2.2.2.2.2.2.2.2.2.2.2.2.2.2.2.2.2.2.2.2.2.2.2.2.2.2.2.2.2.2.2.1),(World.cell?_alloc_lt _ _ _ (World.block_lt_of_cell? _ _ (hHeld.2.2.2.2.2.2.2.2.2.2.2.2.2.2.2.2.2.2.2.2.2.2.2.2.2.2.2.2.2.2.2.2.2.2.2.2.1))).trans (hHeld.2.2.2.2.2.2.2.2.2.2.2.2.2.2.2.2.2.2.2.2.2.2.2.2.2.2.2.2.2.2.2.2.2.2.2.2.1),(World.cell?_alloc_lt _ _ _ (World.block_lt_of_cell? _ _ (hHeld.2.2.2.2.2.2.2.2.2.2.2.2.2.2.2.2.2.2.2.2.2.2.2.2.2.2.2.2.2.2.2.2.2.2.2.2.2.1))).trans (hHeld.2.2.2.2.2.2.2.2.2.2.2.2.2.2.2.2.2.2.2.2.2.2.2.2.2.2.2.2.2.2.2.2.2.2.2.2.2.1),(World.cell?_alloc_lt _ _ _ (World.block_lt_of_cell? _ _ (hHeld.2.2.2.2.2.2.2.2.2.2.2.2.2.2.2.2.2.2.2.2.2.2.2.2.2.2.2.2.2.2.2.2.2.2.2.2.2.2.1))).trans (hHeld.2.2.2.2.2.2.2.2.2.2.2.2.2.2.2.2.2.2.2.2.2.2.2.2.2.2.2.2.2.2.2.2.2.2.2.2.2.2.1),(World.cell?_alloc_lt _ _ _ (World.block_lt_of_cell? _ _ (hHeld.2.2.2.2.2.2.2.2.2.2.2.2.2.2.2.2.2.2.2.2.2.2.2.2.2.2.2.2.2.2.2.2.2.2.2.2.2.2.2.1))).trans (hHeld.2.2.2.2.2.2.2.2.2.2.2.2.2.2.2.2.2.2.2.2.2.2.2.2.2.2.2.2.2.2.2.2.2.2.2.2.2.2.2.1),(World.cell?_alloc_lt _ _ _ (World.block_lt_of_cell? _ _ (hHeld.2.2.2.2.2.2.2.2.2.2.2.2.2.2.2.2.2.2.2.2.2.2.2.2.2.2.2.2.2.2.2.2.2.2.2.2.2.2.2.2.1))).trans (hHeld.2.2.2.2.2.2.2.2.2.2.2.2.2.2.2.2.2.2.2.2.2.2.2.2.2.2.2.2.2.2.2.2.2.2.2.2.2.2.2.2.1),(World.cell?_alloc_lt _ _ _ (World.block_lt_of_cell? _ _ (hHeld.2.2.2.2.2.2.2.2.2.2.2.2.2.2.2.2.2.2.2.2.2.2.2.2.2.2.2.2.2.2.2.2.2.2.2.2.2.2.2.2.2.1))).trans (hHeld.2.2.2.2.2.2.2.2.2.2.2.2.2.2.2.2.2.2.2.2.2.2.2.2.2.2.2.2.2.2.2.2.2.2.2.2.2.2.2.2.2.1),(World.cell?_alloc_lt _ _ _ (World.block_lt_of_cell? _ _ (hHeld.2.2.2.2.2.2.2.2.2.2.2.2.2.2.2.2.2.2.2.2.2.2.2.2.2.2.2.2.2.2.2.2.2.2.2.2.2.2.2.2.2.2.1))).trans (hHeld.2.2.2.2.2.2.2.2.2.2.2.2.2.2.2.2.2.2.2.2.2.2.2.2.2.2.2.2.2.2.2.2.2.2.2.2.2.2.2.2.2.2.1),(World.cell?_alloc_lt _ _ _ (World.block_lt_of_cell? _ _ (hHeld.2.2.2.2.2.2.2.2.2.2.2.2.2.2.2.2.2.2.2.2.2.2.2.2.2.2.2.2.2.2.2.2.2.2.2.2.2.2.2.2.2.2.2.1))).trans (hHeld.2.2.2.2.2.2.2.2.2.2.2.2.2.2.2.2.2.2.2.2.2.2.2.2.2.2.2.2.2.2.2.2.2.2.2.2.2.2.2.2.2.2.2.1),(World.cell?_alloc_lt _ _ _ (World.block_lt_of_cell? _ _ (hHeld.2.2.2.2.2.2.2.2.2.2.2.2.2.2.2.2.2.2.2.2.2.2.2.2.2.2.2.2.2.2.2.2.2.2.2.2.2.2.2.2.2.2.2.2.1))).trans (hHeld.2.2.2.2.2.2.2.2.2.2.2.2.2.2.2.2.2.2.2.2.2.2.2.2.2.2.2.2.2.2.2.2.2.2.2.2.2.2.2.2.2.2.2.2.1),(World.cell?_alloc_lt _ _ _ (World.block_lt_of_cell? _ _ (hHeld.2.2.2.2.2.2.2.2.2.2.2.2.2.2.2.2.2.2.2.2.2.2.2.2.2.2.2.2.2.2.2.2.2.2.2.2.2.2.2.2.2.2.2.2.2.1))).trans (hHeld.2.2.2.2.2.2.2.2.2.2.2.2.2.2.2.2.2.2.2.2.2.2.2.2.2.2.2.2.2.2.2.2.2.2.2.2.2.2.2.2.2.2.2.2.2.1),(World.cell?_alloc_lt _ _ _ (World.block_lt_of_cell? _ _ (hHeld.2.2.2.2.2.2.2.2.2.2.2.2.2.2.2.2.2.2.2.2.2.2.2.2.2.2.2.2.2.2.2.2.2.2.2.2.2.2.2.2.2.2.2.2.2.2.1))).trans (hHeld.2.2.2.2.2.2.2.2.2.2.2.2.2.2.2.2.2.2.2.2.2.2.2.2.2.2.2.2.2.2.2.2.2.2.2.2.2.2.2.2.2.2.2.2.2.2.1),(World.cell?_alloc_lt _ _ _ (World.block_lt_of_cell? _ _ (hHeld.2.2.2.2.2.2.2.2.2.2.2.2.2.2.2.2.2.2.2.2.2.2.2.2.2.2.2.2.2.2.2.2.2.2.2.2.2.2.2.2.2.2.2.2.2.2.2.1))).trans (hHeld.2.2.2.2.2.2.2.2.2.2.2.2.2.2.2.2.2.2.2.2.2.2.2.2.2.2.2.2.2.2.2.2.2.2.2.2.2.2.2.2.2.2.2.2.2.2.2.1),(World.cell?_alloc_lt _ _ _ (World.block_lt_of_cell? _ _ (hHeld.2.2.2.2.2.2.2.2.2.2.2.2.2.2.2.2.2.2.2.2.2.2.2.2.2.2.2.2.2.2.2.2.2.2.2.2.2.2.2.2.2.2.2.2.2.2.2.2.1))).trans (hHeld.2.2.2.2.2.2.2.2.2.2.2.2.2.2.2.2.2.2.2.2.2.2.2.2.2.2.2.2.2.2.2.2.2.2.2.2.2.2.2.2.2.2.2.2.2.2.2.2.1),(World.cell?_alloc_lt _ _ _ (World.block_lt_of_cell? _ _ (hHeld.2.2.2.2.2.2.2.2.2.2.2.2.2.2.2.2.2.2.2.2.2.2.2.2.2.2.2.2.2.2.2.2.2.2.2.2.2.2.2.2.2.2.2.2.2.2.2.2.2.1))).trans (hHeld.2.2.2.2.2.2.2.2.2.2.2.2.2.2.2.2.2.2.2.2.2.2.2.2.2.2.2.2.2.2.2.2.2.2.2.2.2.2.2.2.2.2.2.2.2.2.2.2.2.1),(World.cell?_alloc_lt _ _ _ (World.block_lt_of_cell? _ _ (hHeld.2.2.2.2.2.2.2.2.2.2.2.2.2.2.2.2.2.2.2.2.2.2.2.2.2.2.2.2.2.2.2.2.2.2.2.2.2.2.2.2.2.2.2.2.2.2.2.2.2.2))).trans (hHeld.2.2.2.2.2.2.2.2.2.2.2.2.2.2.2.2.2.2.2.2.2.2.2.2.2.2.2.2.2.2.2.2.2.2.2.2.2.2.2.2.2.2.2.2.2.2.2.2.2.2)⟩ (fun hHeld=> ?_)
    clear hK K
    refine no_ (N:=some 42) ?_
    refine last_ (i:=24) (N:=some 43) (bt_ 27 33554431) rfl rfl (one_of HT_.out (by kernel_rfl)) (by decide) (fun K hK=> ?_)
    refine Kd.R_append_step k54 (w0:=w) w.heap.size (by rfl) (.tmp 20) (.tmp 42) 35 54 (.agg #[(.string ⟨#[]⟩),(.string ⟨#[]⟩),(.int .i64 0),(.int .i64 0),(.int .i64 0),(.int .i64 0)]) 64 rfl Try.underlying35 info54 rfl (by decide) (by omega) u3000 x3000_1 (⟨(rd_T31 t3 x9_1).f0,(rd_T31 t3 x9_1).f1,(⟨(rd_T31 t3 x9_1).f2.f0,(rd_T31 t3 x9_1).f2.f1,(rd_T31 t3 x9_1).f2.f2⟩:S27),(rd_T31 t3 x9_1).f5⟩:S54) [.string ((rd_T31 t3 x9_1).f0), .string ((rd_T31 t3 x9_1).f1), .int .i64 ((rd_T31 t3 x9_1).f2.f0), .int .i64 ((rd_T31 t3 x9_1).f2.f1), .int .i64 ((rd_T31 t3 x9_1).f2.f2), .int .i64 ((rd_T31 t3 x9_1).f5)] (fun _=>True) (fun _=>False) rfl rfl ?aP (fun _ hk=>hk.elim) ?aF ?aO ?aB ?aS ?aL ?_
    (case aP=>exact k54_mkM _ _ _ (⟨(rd_T31 t3 x9_1).f0,(rd_T31 t3 x9_1).f1,(⟨(rd_T31 t3 x9_1).f2.f0,(rd_T31 t3 x9_1).f2.f1,(rd_T31 t3 x9_1).f2.f2⟩:S27),(rd_T31 t3 x9_1).f5⟩:S54))
    (case aB=>exact (zl2_ HB GE1 GE2))
    (case aF=>exact (fun _ _=>trivial))
    (case aO=>exact (zr_ HO_3000))
    (case aS=>exact (below_size (zl2_ HB GE1 GE2)))
    (case aL=>have:=LMc10.out;omega)
    intro v11 w13 ho hb hg hat
    rw [←Ny10.out] at ho
    have n0_:=am_ (Kd.R_over' (zr_ HO_8) (Kd.R_typed (zr_ HO_3000)) (by decide) hg)
    have n1_:=am_ (blk_grown (zb_ BK1) hg (Kd.R_ne HO_3000.out BK1.out (by decide)))
    have n2_:=am_ (blk_grown (zb_ BK2) hg (Kd.R_ne HO_3000.out BK2.out (by decide)))
    have n3_:=am_ (hb)
    have n4_:=am_ (ho)
    clear HO_8
    clear BK1
    clear BK2
    clear HB
    clear HO_3000
    have HO_8:=n0_
    have BK1:=n1_
    have BK2:=n2_
    have HB:=n3_
    have HO12:=n4_
    clear n0_ n1_ n2_ n3_ n4_
    clear ho hb hg hat
    obtain ⟨Ao14,co14,eo14⟩:=Kd.R_slice HO12.out
    (first|subst eo14|(injection eo14 with f1_ f2_ f3_;have f4_:=f1_.symm;have f5_:=f3_.symm;clear f1_ f2_ f3_;subst f4_;subst f5_))
    refine hK.out _ _ ?_
    clear hK K
    refine no_ (N:=some 43) ?_
    refine pu_ (i:=25) (N:=some 44) (bt_ 27 67108863) HT_ ?_
    refine last_ (i:=26) (N:=none) (bt_ 27 134217727) rfl rfl (one_of HT_.out (by kernel_rfl)) (by decide) (fun K hK=> ?_)
    have hs15:w13.cell? ⟨gb2,0,none⟩=some (u3000):=(blk_cell BK2.out 0).trans rfl
    have hfs15:=blk_frozen BK2.out 0
    have hns15_0:=NB1_2.out
    have hms15_0:=NB2_1.out
    refine skip_ (w1:= ?_) (by rfl) rfl ?_ ?_
    rotate_left
    ·go_simp
     rfl
    refine hK.out _ _ ?_
    clear hK K
    refine done_ (done_of HT_.out (by kernel_rfl)) ?_
    try go_wp2
    go_roundg k1
    case measure=>have:=HK1.out;omega
    case rel=>exact ⟨(wrap64 (x9_1+1)),(y10),(.slice Ao14 y10.length co14),(by first|rfl|(simp;done)|(simp [*];done)),H',⟨by have:=HK1.out;omega⟩,⟨zy_ HO_8 BK2⟩,⟨zy_ HO12 BK2⟩,⟨zw_ BK1⟩,⟨zw_ BK2⟩,⟨zl2_ HB GE1 GE2⟩⟩
   rw [if_neg c8] at H
   have c8b0:decide (x9_1<(t3.length:Int))=false:=decide_eq_false c8
   clear c8
   have H':=Aside0.mk H
   clear H
   obtain ⟨Ao16,co16,eo16⟩:=Kd.R_slice HO_8.out
   subst eo16
   go_wp2
   go_loopg [10] k1 (fun kq v10 w'=> ∃(x10_2:Int) (x3001_2:List (S58)) (u3001:Value),v10= .int .i64 x10_2∧Aside0 (law16_Make.l1 kq l1 a2 x10_2 x3000_1 x3001_2 0=some (r1,r2,r3))∧Aside0 (kq≤k1)∧Aside0 (Kd.R k54 54 w' w.heap.size (fun _=>True) u3000 x3000_1)∧Aside0 (Kd.R k58 58 w' w.heap.size (fun _=>True) u3001 x3001_2)∧Aside0 (w'.heap[gb1]?=some (.cells #[(.slice none 0 0),(.slice none 0 0), .int .i64 0] 42 (0,0)))∧Aside0 (w'.heap[gb2]?=some (.cells #[u3000,u3001, .int .i64 0] 42 (0,0)))∧Aside0 (Below w.heap.size w w'))
   case atStart=>exact ⟨(0),(([]:List (S58))),(.slice none 0 0),(by first|rfl|(simp;done)|(simp [*];done)),H',⟨Nat.le_refl _⟩,⟨by (with_reducible repeat (first|apply Kd.R_alloc|apply Kd.R_drewN|apply Kd.R_drew));exact HO_3000.out⟩,⟨by first|exact Kd.R_nil _ _ _ _ _|exact Kd.N_nil _ _ _ _ _|exact Kd.V_nil _ _ _ _ _|exact Kd.Q_nil _ _ _ _ _|exact Kd.S_nil _ _ _ _ _⟩,⟨by refine zk_ ?_;exact BK1.out⟩,⟨by refine zk_ ?_;exact BK2.out⟩,⟨zl2_ HB GE1 GE2⟩⟩
   case round=>
    clear H'
    try clear c1
    try clear p2
    try clear c3
    try clear c4
    try clear p6
    try clear q6
    try clear hx6
    try clear p7
    try clear q7
    try clear hx7
    try clear c8
    try clear c8b0
    try clear p8
    try clear q8
    try clear hx8
    try clear c9
    try clear c9b0
    try clear p9
    try clear q9
    try clear hx9
    try clear c10
    try clear hx6_0
    try clear hx6_1
    try clear hx6_10
    try clear hx6_11
    try clear hx6_2
    try clear hx6_3
    try clear hx6_4
    try clear hx6_5
    try clear hx6_6
    try clear hx6_7
    try clear hx6_8
    try clear hx6_9
    try clear hx7_0
    try clear hx7_1
    try clear hx7_10
    try clear hx7_11
    try clear hx7_2
    try clear hx7_3
    try clear hx7_4
    try clear hx7_5
    try clear hx7_6
    try clear hx7_7
    try clear hx7_8
    try clear hx7_9
    try clear hx8_0
    try clear hx8_1
    try clear hx8_10
    try clear hx8_11
    try clear hx8_2
    try clear hx8_3
    try clear hx8_4
    try clear hx8_5
    try clear hx8_6
    try clear hx8_7
    try clear hx8_8
    try clear hx8_9
    try clear hx9_0
    try clear hx9_1
    try clear hx9_10
    try clear hx9_11
    try clear hx9_2
    try clear hx9_3
    try clear hx9_4
    try clear hx9_5
    try clear hx9_6
    try clear hx9_7
    try clear hx9_8
    try clear hx9_9
    try clear p2
    try clear p6
    try clear p7
    try clear p8
    try clear p9
    try clear q6
    try clear q7
    try clear q8
    try clear q9
    obtain ⟨x10_2,x3001_2,u3001,rfl,HA,HK2,HO_3000,HO_3001,BK1,BK2,HB⟩:=hrel
    cases gk with
    |zero=>exact absurd HA.out (by simp [law16_Make.l1])
    |succ k2=>
     have H:=HA.out
     clear HA
     simp only [law16_Make.l1] at H
     by_cases c17:(wrap64 (x10_2+2))<(l1.length:Int)
     rotate_left
     ·rw [if_neg c17] at H
      have c17b0:decide ((wrap64 (x10_2+2))<(l1.length:Int))=false:=decide_eq_false c17
      clear c17
      by_cases c45:(x3001_2.length:Int)>0
      rotate_left
      ·rw [if_neg c45] at H
       have c45b0:decide (0<(x3001_2.length:Int))=false:=decide_eq_false c45
       have c45b1:decide (0<x3001_2.length)=false:=decide_eq_false (by omega)
       clear c45
       simp only [Option.some.injEq,Prod.mk.injEq] at H
       obtain ⟨rfl,rfl,rfl⟩:=H
       have hnb52:=NB2_1.out
       have hnc52:=NB1_2.out
       obtain ⟨hcz53_0,hcz53_1,hcz53_2,hfz53_0,hfz53_1,hfz53_2⟩:=y3_ BK2
       obtain ⟨Ao54,co54,eo54⟩:=Kd.R_slice HO_3001.out
       subst eo54
       obtain ⟨Ao55,co55,eo55⟩:=Kd.R_slice HO_3000.out
       subst eo55
       obtain ⟨hcz56_0,hcz56_1,hcz56_2,hfz56_0,hfz56_1,hfz56_2⟩:=y3_ BK1
       go_wp2
       refine bodyPost_ret (results_cell_row rfl _ _ gb1 42 #[.slice Ao55 x3000_1.length co55, .slice Ao54 x3001_2.length co54, .int .i64 0] (0,0) _ rfl (zw_ BK1) Try.underlying42 rfl (by kernel_rfl)) rfl ?_
       exact ⟨_,_,by first|rfl|(simp [errW_none,errW_some]<;>rfl)|(simp [*,errW_none,errW_some]<;>rfl),zy_ HO_3000 BK1,zy_ HO_3001 BK1,zl2_ HB GE1 GE2⟩

      rw [if_pos c45] at H
      have c45b0:decide (0<(x3001_2.length:Int))=true:=decide_eq_true c45
      have c45b1:decide (0<x3001_2.length)=true:=decide_eq_true (by omega)
      clear c45
      by_cases c46:(x3001_2.length:Int)=0
      ·rw [if_pos c46] at H
       exact absurd H (by simp)
      rw [if_neg c46] at H
      have c46b0:((x3001_2.length:Int)==0)=false:=beq_eq_false_iff_ne.mpr c46
      have c46b1:((x3001_2.length:Int) !=0)=true:=bne_iff_ne.mpr c46
      have c46b2: ¬(x3001_2=[]):=fun h_=>c46 (by rw [h_];rfl)
      simp only [Option.some.injEq,Prod.mk.injEq] at H
      obtain ⟨rfl,rfl,rfl⟩:=H
      have hnb47:=NB2_1.out
      have hnc47:=NB1_2.out
      obtain ⟨hcz48_0,hcz48_1,hcz48_2,hfz48_0,hfz48_1,hfz48_2⟩:=y3_ BK2
      obtain ⟨Ao49,co49,eo49⟩:=Kd.R_slice HO_3001.out
      subst eo49
      obtain ⟨Ao50,co50,eo50⟩:=Kd.R_slice HO_3000.out
      subst eo50
      obtain ⟨hcz51_0,hcz51_1,hcz51_2,hfz51_0,hfz51_1,hfz51_2⟩:=y3_ BK1
      go_wp2
      refine bodyPost_ret (results_cell_row rfl _ _ gb1 42 #[.slice Ao50 x3000_1.length co50, .slice Ao49 x3001_2.length co49, .int .i64 (Int.tmod (wrap64 (a2)) (x3001_2.length:Int))] (0,0) _ rfl (zw_ BK1) Try.underlying42 rfl (by kernel_rfl)) rfl ?_
      exact ⟨_,_,by first|rfl|(simp [errW_none,errW_some]<;>rfl)|(simp [*,errW_none,errW_some]<;>rfl),by (with_reducible repeat (first|apply Kd.R_alloc|apply Kd.R_drewN|apply Kd.R_drew));exact Kd.R_mono (Kd.R_far (p:=⟨gb1,2,none⟩) (Kd.R_far (p:=⟨gb1,1,none⟩) (Kd.R_far (p:=⟨gb1,0,none⟩) (Kd.R_far (p:=⟨gb2,2,none⟩) (Kd.R_types (Kd.R_types HO_3000.out BK2.out (by decide)) BK1.out (by decide)) (fun _ hk=>hk.1.2) (.int .i64 (Int.tmod (wrap64 (a2)) (x3001_2.length:Int)))) (fun _ hk=>hk.2) (.slice Ao50 x3000_1.length co50)) (fun _ hk=>hk.2) (.slice Ao49 x3001_2.length co49)) (fun _ hk=>hk.2) (.int .i64 (Int.tmod (wrap64 (a2)) (x3001_2.length:Int)))) (fun _ hk=>trivial),by (with_reducible repeat (first|apply Kd.R_alloc|apply Kd.R_drewN|apply Kd.R_drew));exact Kd.R_mono (Kd.R_far (p:=⟨gb1,2,none⟩) (Kd.R_far (p:=⟨gb1,1,none⟩) (Kd.R_far (p:=⟨gb1,0,none⟩) (Kd.R_far (p:=⟨gb2,2,none⟩) (Kd.R_types (Kd.R_types HO_3001.out BK2.out (by decide)) BK1.out (by decide)) (fun _ hk=>hk.1.2) (.int .i64 (Int.tmod (wrap64 (a2)) (x3001_2.length:Int)))) (fun _ hk=>hk.2) (.slice Ao50 x3000_1.length co50)) (fun _ hk=>hk.2) (.slice Ao49 x3001_2.length co49)) (fun _ hk=>hk.2) (.int .i64 (Int.tmod (wrap64 (a2)) (x3001_2.length:Int)))) (fun _ hk=>trivial),zl2_ HB GE1 GE2⟩
     rw [if_pos c17] at H
     have c17b0:decide ((wrap64 (x10_2+2))<(l1.length:Int))=true:=decide_eq_true c17
     clear c17
     by_cases c18:x10_2<60
     rotate_left
     ·rw [if_neg c18] at H
      have c18b0:decide (x10_2<60)=false:=decide_eq_false c18
      clear c18
      by_cases c33:(x3001_2.length:Int)>0
      rotate_left
      ·rw [if_neg c33] at H
       have c33b0:decide (0<(x3001_2.length:Int))=false:=decide_eq_false c33
       have c33b1:decide (0<x3001_2.length)=false:=decide_eq_false (by omega)
       clear c33
       simp only [Option.some.injEq,Prod.mk.injEq] at H
       obtain ⟨rfl,rfl,rfl⟩:=H
       have hnb40:=NB2_1.out
       have hnc40:=NB1_2.out
       obtain ⟨hcz41_0,hcz41_1,hcz41_2,hfz41_0,hfz41_1,hfz41_2⟩:=y3_ BK2
       obtain ⟨Ao42,co42,eo42⟩:=Kd.R_slice HO_3001.out
       subst eo42
       obtain ⟨Ao43,co43,eo43⟩:=Kd.R_slice HO_3000.out
       subst eo43
       obtain ⟨hcz44_0,hcz44_1,hcz44_2,hfz44_0,hfz44_1,hfz44_2⟩:=y3_ BK1
       go_wp2
       refine bodyPost_ret (results_cell_row rfl _ _ gb1 42 #[.slice Ao43 x3000_1.length co43, .slice Ao42 x3001_2.length co42, .int .i64 0] (0,0) _ rfl (zw_ BK1) Try.underlying42 rfl (by kernel_rfl)) rfl ?_
       exact ⟨_,_,by first|rfl|(simp [errW_none,errW_some]<;>rfl)|(simp [*,errW_none,errW_some]<;>rfl),zy_ HO_3000 BK1,zy_ HO_3001 BK1,zl2_ HB GE1 GE2⟩
      rw [if_pos c33] at H
      have c33b0:decide (0<(x3001_2.length:Int))=true:=decide_eq_true c33
      have c33b1:decide (0<x3001_2.length)=true:=decide_eq_true (by omega)
      clear c33
      by_cases c34:(x3001_2.length:Int)=0
      ·rw [if_pos c34] at H
       exact absurd H (by simp)
      rw [if_neg c34] at H
      have c34b0:((x3001_2.length:Int)==0)=false:=beq_eq_false_iff_ne.mpr c34
      have c34b1:((x3001_2.length:Int) !=0)=true:=bne_iff_ne.mpr c34
      have c34b2: ¬(x3001_2=[]):=fun h_=>c34 (by rw [h_];rfl)
      simp only [Option.some.injEq,Prod.mk.injEq] at H
      obtain ⟨rfl,rfl,rfl⟩:=H
      have hnb35:=NB2_1.out
      have hnc35:=NB1_2.out
      obtain ⟨hcz36_0,hcz36_1,hcz36_2,hfz36_0,hfz36_1,hfz36_2⟩:=y3_ BK2
      obtain ⟨Ao37,co37,eo37⟩:=Kd.R_slice HO_3001.out
      subst eo37
      obtain ⟨Ao38,co38,eo38⟩:=Kd.R_slice HO_3000.out
      subst eo38
      obtain ⟨hcz39_0,hcz39_1,hcz39_2,hfz39_0,hfz39_1,hfz39_2⟩:=y3_ BK1
      go_wp2
      refine bodyPost_ret (results_cell_row rfl _ _ gb1 42 #[.slice Ao38 x3000_1.length co38, .slice Ao37 x3001_2.length co37, .int .i64 (Int.tmod (wrap64 (a2)) (x3001_2.length:Int))] (0,0) _ rfl (zw_ BK1) Try.underlying42 rfl (by kernel_rfl)) rfl ?_
      exact ⟨_,_,by first|rfl|(simp [errW_none,errW_some]<;>rfl)|(simp [*,errW_none,errW_some]<;>rfl),by (with_reducible repeat (first|apply Kd.R_alloc|apply Kd.R_drewN|apply Kd.R_drew));exact Kd.R_mono (Kd.R_far (p:=⟨gb1,2,none⟩) (Kd.R_far (p:=⟨gb1,1,none⟩) (Kd.R_far (p:=⟨gb1,0,none⟩) (Kd.R_far (p:=⟨gb2,2,none⟩) (Kd.R_types (Kd.R_types HO_3000.out BK2.out (by decide)) BK1.out (by decide)) (fun _ hk=>hk.1.2) (.int .i64 (Int.tmod (wrap64 (a2)) (x3001_2.length:Int)))) (fun _ hk=>hk.2) (.slice Ao38 x3000_1.length co38)) (fun _ hk=>hk.2) (.slice Ao37 x3001_2.length co37)) (fun _ hk=>hk.2) (.int .i64 (Int.tmod (wrap64 (a2)) (x3001_2.length:Int)))) (fun _ hk=>trivial),by (with_reducible repeat (first|apply Kd.R_alloc|apply Kd.R_drewN|apply Kd.R_drew));exact Kd.R_mono (Kd.R_far (p:=⟨gb1,2,none⟩) (Kd.R_far (p:=⟨gb1,1,none⟩) (Kd.R_far (p:=⟨gb1,0,none⟩) (Kd.R_far (p:=⟨gb2,2,none⟩) (Kd.R_types (Kd.R_types HO_3001.out BK2.out (by decide)) BK1.out (by decide)) (fun _ hk=>hk.1.2) (.int .i64 (Int.tmod (wrap64 (a2)) (x3001_2.length:Int)))) (fun _ hk=>hk.2) (.slice Ao38 x3000_1.length co38)) (fun _ hk=>hk.2) (.slice Ao37 x3001_2.length co37)) (fun _ hk=>hk.2) (.int .i64 (Int.tmod (wrap64 (a2)) (x3001_2.length:Int)))) (fun _ hk=>trivial),zl2_ HB GE1 GE2⟩
     rw [if_pos c18] at H
     have c18b0:decide (x10_2<60)=true:=decide_eq_true c18
     clear c18
     by_cases c19:0≤x10_2
     rotate_left
     ·rw [if_neg c19] at H
      exact absurd H (by simp)
     rw [if_pos c19] at H
     have c19b0:decide (0≤x10_2)=true:=decide_eq_true c19
     clear c19
     by_cases c20:x10_2<(l1.length:Int)
     rotate_left
     ·rw [if_neg c20] at H
      exact absurd H (by simp)
     rw [if_pos c20] at H
     have c20b0:decide (x10_2<(l1.length:Int))=true:=decide_eq_true c20
     clear c20
     obtain ⟨ji21,hji21⟩: ∃j_:Int,(wrap64 (x10_2+1))=j_:=⟨_,rfl⟩
     replace H:(if 0≤(ji21) then (if (ji21)<(l1.length:Int) then (if 0≤(wrap64 (x10_2+2)) then ((law15_Step.f k2 (rd l1 x10_2) (rd l1 (ji21)) (rd l1 (wrap64 (x10_2+2)))).bind fun bt16=>(if x3001_2.length<2199023255552 then (law16_Make.l1 k2 l1 a2 (wrap64 (x10_2+3)) x3000_1 (x3001_2++ [(⟨bt16.1,bt16.2.1,bt16.2.2.1,(⟨bt16.2.2.2.1,bt16.2.2.2.2.1,bt16.2.2.2.2.2⟩:S27)⟩:S58)]) 0) else (none))) else (none)) else (none)) else (none))=some (r1,r2,r3):=by first|(rw [hji21] at H;exact H)|(simp only [hji21] at H ⊢;exact H)
     have hji21w:(IntKind.i64.wrap (x10_2+1))=ji21:=(i64_w _).trans hji21
     by_cases c22:0≤(ji21)
     rotate_left
     ·rw [if_neg c22] at H
      exact absurd H (by simp)
     rw [if_pos c22] at H
     have c22b0:decide (0≤(ji21))=true:=decide_eq_true c22
     clear c22
     by_cases c23:(ji21)<(l1.length:Int)
     rotate_left
     ·rw [if_neg c23] at H
      exact absurd H (by simp)
     rw [if_pos c23] at H
     have c23b0:decide ((ji21)<(l1.length:Int))=true:=decide_eq_true c23
     clear c23
     obtain ⟨ji24,hji24⟩: ∃j_:Int,(wrap64 (x10_2+2))=j_:=⟨_,rfl⟩
     replace H:(if 0≤(ji24) then ((law15_Step.f k2 (rd l1 x10_2) (rd l1 (ji21)) (rd l1 (ji24))).bind fun bt16=>(if x3001_2.length<2199023255552 then (law16_Make.l1 k2 l1 a2 (wrap64 (x10_2+3)) x3000_1 (x3001_2++ [(⟨bt16.1,bt16.2.1,bt16.2.2.1,(⟨bt16.2.2.2.1,bt16.2.2.2.2.1,bt16.2.2.2.2.2⟩:S27)⟩:S58)]) 0) else (none))) else (none))=some (r1,r2,r3):=by first|(rw [hji24] at H;exact H)|(simp only [hji24] at H ⊢;exact H)
     (try rw [hji24] at c17b0)
     have hji24w:(IntKind.i64.wrap (x10_2+2))=ji24:=(i64_w _).trans hji24
     by_cases c25:0≤(ji24)
     rotate_left
     ·rw [if_neg c25] at H
      exact absurd H (by simp)
     rw [if_pos c25] at H
     have c25b0:decide (0≤(ji24))=true:=decide_eq_true c25
     clear c25
     replace H:=Option.bind_eq_some_iff.mp H
     obtain ⟨⟨t16,t17,t18,t19,t20,t21⟩,A260,H⟩:=H
     try dsimp only at H
     have A26:=Aside0.mk A260
     clear A260
     by_cases c27:x3001_2.length<2199023255552
     rotate_left
     ·rw [if_neg c27] at H
      exact absurd H (by simp)
     rw [if_pos c27] at H
     have LMc27:=Aside0.mk c27
     clear c27
     obtain ⟨y22,hy22⟩: ∃y_:List (S58),y_=(x3001_2++ [(⟨t16,t17,t18,(⟨t19,t20,t21⟩:S27)⟩:S58)]):=⟨_,rfl⟩
     replace H:(law16_Make.l1 k2 l1 a2 (wrap64 (x10_2+3)) x3000_1 y22 0)=some (r1,r2,r3):=by first|(rw [hy22];with_reducible exact H)|(have H2_:=(Option.bind_some _ _).symm.trans H;rw [hy22];with_reducible exact H2_)|(have H2_:=(Option.bind_some _ _).symm.trans H;with_reducible exact H2_)|with_reducible exact H|(rw [hy22];exact H)|exact H
     have Ny22:=Aside0.mk hy22
     clear hy22
     have H':=Aside0.mk H
     clear H
     try go_wp2
     replace HO_3000:=am_ (Kd.R_drew HO_3000.out)
     replace HO_3001:=am_ (Kd.R_drew HO_3001.out)
     replace BK1:=am_ (blk_drew BK1.out)
     replace BK2:=am_ (blk_drew BK2.out)
     replace HB:=am_ (below_drew1 HB.out)
     have p13:0≤(x10_2:Int):=of_decide_eq_true zq_
     have q13:x10_2<(l1.length:Int):=of_decide_eq_true zq_
     obtain ⟨ad13,e13,hx13_0⟩:=Kd.at_int HR1.out x10_2 p13 q13
     have hw13_0:=hx13_0
     cases e13
     replace hx13_0:=zx_ HB hx13_0
     replace p13:=eq_true p13
     replace q13:=eq_true q13
     have p14:0≤((ji21):Int):=of_decide_eq_true zq_
     have q14:(ji21)<(l1.length:Int):=of_decide_eq_true zq_
     obtain ⟨ad14,e14,hx14_0⟩:=Kd.at_int HR1.out (ji21) p14 q14
     have hw14_0:=hx14_0
     obtain rfl:ad13=ad14:=(by injection e14)
     replace hx14_0:=zx_ HB hx14_0
     replace p14:=eq_true p14
     replace q14:=eq_true q14
     have p15:0≤((ji24):Int):=of_decide_eq_true zq_
     have q15:(ji24)<(l1.length:Int):=of_decide_eq_true zq_
     obtain ⟨ad15,e15,hx15_0⟩:=Kd.at_int HR1.out (ji24) p15 q15
     have hw15_0:=hx15_0
     obtain rfl:ad13=ad15:=(by injection e15)
     replace hx15_0:=zx_ HB hx15_0
     replace p15:=eq_true p15
     replace q15:=eq_true q15
     refine start_ (n:=21) (S:=fun w'=>w'.cell? ⟨gb2,0,none⟩=some (u3000)∧w'.cell? ⟨gb2,1,none⟩=some (u3001)∧w'.cell? ⟨gb2,2,none⟩=some (.int .i64 0)∧w'.cell? (ad13.add (x10_2).toNat)=some (.int .u8 (rd l1 x10_2))∧w'.cell? (ad13.add ((ji21)).toNat)=some (.int .u8 (rd l1 (ji21)))∧w'.cell? (ad13.add ((ji24)).toNat)=some (.int .u8 (rd l1 (ji24)))) (ds:=[20]) (bt_ 21 0) (by kernel_rfl) rfl rfl ⟨(blk_cell BK2.out 0).trans rfl,(blk_cell BK2.out 1).trans rfl,(blk_cell BK2.out 2).trans rfl,(zx_ HB hw13_0),(zx_ HB hw14_0),(zx_ HB hw15_0)⟩ (fun hHeld=> ?_);refine with_tabW law16_Make.tab10 law16_Make.bits10 (fun HT_ HW_=> ?_)
     generalize wr.drew=w28 at HO_3000 HO_3001 BK1 BK2 HB hx13_0 hx14_0 hx15_0 hHeld ⊢
     refine pu_ (i:=0) (N:=some 56) (bt_ 21 1) HT_ ?_
     refine pu_ (i:=2) (N:=some 58) (bt_ 21 5) HT_ ?_
     refine pu_ (i:=3) (N:=some 59) (bt_ 21 13) HT_ ?_
     refine pu_ (i:=4) (N:=some 60) (bt_ 21 29) HT_ ?_
     refine pu_ (i:=6) (N:=some 62) (bt_ 21 93) HT_ ?_
     refine pu_ (i:=7) (N:=some 63) (bt_ 21 221) HT_ ?_
     refine pu_ (i:=8) (N:=some 64) (bt_ 21 477) HT_ ?_
     refine pu_ (i:=9) (N:=some 65) (bt_ 21 989) HT_ ?_
     refine pu_ (i:=11) (N:=some 67) (bt_ 21 3037) HT_ ?_
     refine pu_ (i:=12) (N:=some 68) (bt_ 21 7133) HT_ ?_
     refine pu_ (i:=13) (N:=some 69) (bt_ 21 15325) HT_ ?_
     refine pu_ (i:=14) (N:=some 70) (bt_ 21 31709) HT_ ?_
     refine tk_ (i:=1) (N:=some 57) (bt_ 21 31711) HT_ HW_ hHeld ?_
     refine tk_ (i:=5) (N:=some 61) (bt_ 21 31743) HT_ HW_ hHeld ?_
     refine tk_ (i:=10) (N:=some 66) (bt_ 21 32767) HT_ HW_ hHeld ?_
     refine tk_ (i:=15) (N:=some 71) (bt_ 21 65535) HT_ HW_ hHeld ?_
     refine on_ (i:=16) (N:=some 72) (bt_ 21 131071) HT_ (fun K hK=> ?_)
     refine goes_ Try.func57 (by kernel_rfl) rfl #[.int .u8 (rd l1 x10_2), .int .u8 (rd l1 (ji21)), .int .u8 (rd l1 (ji24))] (by rfl) rfl rfl (by (try simp only [List.map_toArray,List.map_cons,List.map_nil]);first|done|(simp only [hji21,hji24];rfl)|rfl|(simp only [List.length_drop,List.length_take];rfl)) ?_
     with_reducible refine (law15_Step.calls k2 (rd l1 x10_2) (rd l1 (ji21)) (rd l1 (ji24)) t16 t17 t18 t19 t20 t21 _ A26.out).mono ?_
     rintro e w29 ⟨rfl,hb⟩
     refine ⟨_,rfl, ?_⟩
     replace HO_3000:=am_ (Kd.R_below (zr_ HO_3000) hb)
     replace HO_3001:=am_ (Kd.R_below (zr_ HO_3001) hb)
     replace BK1:=am_ (blk_below (zb_ BK1) hb)
     replace BK2:=am_ (blk_below (zb_ BK2) hb)
     replace HB:=am_ (below_step (zl2_ HB GE1 GE2) hb)
     (try clear hb)
     (try clear hb2)
     (try clear hk)
     (try clear hi)
     refine hK.out _ _ ⟨(blk_cell BK2.out 0).trans rfl,(blk_cell BK2.out 1).trans rfl,(blk_cell BK2.out 2).trans rfl,(zx_ HB hw13_0),(zx_ HB hw14_0),(zx_ HB hw15_0)⟩ (fun hHeld=> ?_)
     clear hK K
     refine no_ (N:=some 72) ?_
     refine on_ (i:=17) (N:=some 73) (bt_ 21 262143) HT_ (fun K hK=> ?_)
     refine value_ (w1:= ?_) (v:= ?_) (by rfl) rfl ?_ ?_
     rotate_left 2
     ·go_simp
      constructor
      ·rfl
      rfl
     refine hK.out _ _ ⟨(blk_cell (blk_alloc BK2.out _) 0).trans rfl,(blk_cell (blk_alloc BK2.out _) 1).trans rfl,(blk_cell (blk_alloc BK2.out _) 2).trans rfl,(World.cell?_alloc_lt _ _ _ (World.block_lt_of_cell? _ _ ((zx_ HB hw13_0)))).trans ((zx_ HB hw13_0)),(World.cell?_alloc_lt _ _ _ (World.block_lt_of_cell? _ _ ((zx_ HB hw14_0)))).trans ((zx_ HB hw14_0)),(World.cell?_alloc_lt _ _ _ (World.block_lt_of_cell? _ _ ((zx_ HB hw15_0)))).trans ((zx_ HB hw15_0))⟩ (fun hHeld=> ?_)
     clear hK K
     refine no_ (N:=some 73) ?_
     refine on_ (i:=18) (N:=some 74) (bt_ 21 524287) HT_ (fun K hK=> ?_)
     refine Kd.R_append_step k58 (w0:=w) w.heap.size (by rfl) (.tmp 57) (.tmp 73) 40 58 (.agg #[(.int .i64 0),(.string ⟨#[]⟩),(.string ⟨#[]⟩),(.int .i64 0),(.int .i64 0),(.int .i64 0)]) 64 rfl Try.underlying40 info58 rfl (by decide) (by omega) u3001 x3001_2 (⟨t16,t17,t18,(⟨t19,t20,t21⟩:S27)⟩:S58) [.int .i64 t16, .string t17, .string t18, .int .i64 t19, .int .i64 t20, .int .i64 t21] (fun _=>True) (fun _=>False) rfl rfl ?aP (fun _ hk=>hk.elim) ?aF ?aO ?aB ?aS ?aL ?_
     (case aP=>exact k58_mkM _ _ _ (⟨t16,t17,t18,(⟨t19,t20,t21⟩:S27)⟩:S58))
     (case aB=>exact (zl2_ HB GE1 GE2))
     (case aF=>exact (fun _ _=>trivial))
     (case aO=>exact (zr_ HO_3001))
     (case aS=>exact (below_size (zl2_ HB GE1 GE2)))
     (case aL=>have:=LMc27.out;omega)
     intro v23 w30 ho hb hg hat
     rw [←Ny22.out] at ho
     have n0_:=am_ (Kd.R_over' (zr_ HO_3000) (Kd.R_typed (zr_ HO_3001)) (by decide) hg)
     have n1_:=am_ (blk_grown (zb_ BK1) hg (Kd.R_ne HO_3001.out BK1.out (by decide)))
     have n2_:=am_ (blk_grown (zb_ BK2) hg (Kd.R_ne HO_3001.out BK2.out (by decide)))
     have n3_:=am_ (hb)
     have n4_:=am_ (ho)
     clear HO_3000
     clear BK1
     clear BK2
     clear HB
     clear HO_3001
     have HO_3000:=n0_
     have BK1:=n1_
     have BK2:=n2_
     have HB:=n3_
     have HO24:=n4_
     clear n0_ n1_ n2_ n3_ n4_
     clear ho hb hg hat
     obtain ⟨Ao31,co31,eo31⟩:=Kd.R_slice HO24.out
     (first|subst eo31|(injection eo31 with f1_ f2_ f3_;have f4_:=f1_.symm;have f5_:=f3_.symm;clear f1_ f2_ f3_;subst f4_;subst f5_))
     refine hK.out _ _ ⟨(blk_cell BK2.out 0).trans rfl,(blk_cell BK2.out 1).trans rfl,(blk_cell BK2.out 2).trans rfl,(zx_ HB hw13_0),(zx_ HB hw14_0),(zx_ HB hw15_0)⟩ (fun hHeld=> ?_)
     clear hK K
     refine no_ (N:=some 74) ?_
     refine pu_ (i:=19) (N:=some 75) (bt_ 21 1048575) HT_ ?_
     refine last_ (i:=20) (N:=none) (bt_ 21 2097151) rfl rfl (one_of HT_.out (by kernel_rfl)) (by decide) (fun K hK=> ?_)
     have hs32:w30.cell? ⟨gb2,1,none⟩=some (u3001):=(blk_cell BK2.out 1).trans rfl
     have hfs32:=blk_frozen BK2.out 1
     have hns32_0:=NB1_2.out
     have hms32_0:=NB2_1.out
     refine skip_ (w1:= ?_) (by rfl) rfl ?_ ?_
     rotate_left
     ·go_simp
      rfl
     refine hK.out _ _ ?_
     clear hK K
     refine done_ (done_of HT_.out (by kernel_rfl)) ?_
     try go_wp2
     go_roundg k2
     case measure=>have:=HK1.out;have:=HK2.out;omega
     case rel=>exact ⟨(wrap64 (x10_2+3)),(y22),(.slice Ao31 y22.length co31),(by first|rfl|(simp;done)|(simp [*];done)),H',⟨by have:=HK1.out;have:=HK2.out;omega⟩,⟨zy_ HO_3000 BK2⟩,⟨zy_ HO24 BK2⟩,⟨zw_ BK1⟩,⟨zw_ BK2⟩,⟨zl2_ HB GE1 GE2⟩⟩
def r10_old.f (k:Nat) (l0:List (S31)) (a1:ByteArray) (a2:Int):Option (Int):=(r10_Find.f k l0 a1).bind fun t1=>(if t1<0 then (some 2) else (if a2≥0 then (if 0≤t1 then (if t1<(l0.length:Int) then (if ((rd_T31 l0 t1).f5)=a2 then (some 0) else (some 14)) else (none)) else (none)) else (some 0)))
theorem r10_old.mono: ∀a0 a1 a2 k,LeO (r10_old.f k a0 a1 a2) (r10_old.f (k+1) a0 a1 a2):=by
 intro a0 a1 a2 k
 unfold r10_old.f
 repeat' first
  |(with_reducible exact r10_Find.mono _ _ _)
  |(with_reducible exact LeO.refl _)
  |(with_reducible exact LeO.none _)
  |(with_reducible refine LeO.ite ?_ ?_)
  |(with_reducible refine LeO.bind ?_ (fun _=> ?_))
  |exact r10_Find.mono _ _ _
  |exact LeO.none _
  |refine LeO.ite ?_ ?_
  |refine LeO.bind ?_ (fun _=> ?_)
set_option maxHeartbeats 8000000 in
set_option maxRecDepth 100000 in
theorem r10_old.calls (k:Nat) (A0:Option Addr) (c0:Nat) (l0:List (S31)) (a1:ByteArray) (a2:Int) (r:Int) (w:World) (hr0:Kd.C k31 w A0 l0.length l0) (hc0:l0.length≤c0) (h:r10_old.f k l0 a1 a2=some r):
  Calls Try.prog 147 #[.slice A0 l0.length c0, .string a1, .int .i64 a2] w fun e w'=>e= .returned (.int .i64 r)∧Drawn0 w w':=by
 have HR0:=Aside0.mk hr0
 have HC0:=Aside0.mk hc0
 clear hr0 hc0
 have H:((r10_Find.f k l0 a1).bind fun t1=>(if t1<0 then (some 2) else (if a2≥0 then (if 0≤t1 then (if t1<(l0.length:Int) then (if ((rd_T31 l0 t1).f5)=a2 then (some 0) else (some 14)) else (none)) else (none)) else (some 0))))=some r:=h
 clear h
 replace H:=Option.bind_eq_some_iff.mp H
 obtain ⟨t1,A40,H⟩:=H
 try dsimp only at H
 have A4:=Aside0.mk A40
 clear A40
 by_cases c5:t1<0
 ·rw [if_pos c5] at H
  have c5b0:decide (t1<0)=true:=decide_eq_true c5
  clear c5
  obtain rfl:=Option.some.inj H
  go_enter Try.func147,Try.ntmps147
  go_wp2_with (first|((with_reducible refine gate_callee (f:=50) rfl ?_);refine gl_ (some 10) Try.func50 #[.slice A0 l0.length c0, .string a1] ?_;(with_reducible refine (r10_Find.calls k _ _ l0 a1 t1 _ ?side1 ?side2 A4.out).mono ?_);(case side1=>repeat (first|exact HR0.out|(with_reducible refine Kd.C_alloc ?_ _)|(with_reducible refine Kd.C_drewN ?_ _)|(with_reducible refine Kd.C_drew ?_)));(case side2=>exact HC0.out);rintro e w' ⟨rfl,⟨nd,rfl⟩⟩;refine ⟨_,rfl, ?_⟩))
  go_ret
  exact ⟨by first|rfl|(simp;done)|(simp [*];done),by repeat (first|exact Drawn0.refl _|apply Drawn0.step)⟩
 rw [if_neg c5] at H
 have c5b0:decide (t1<0)=false:=decide_eq_false c5
 clear c5
 by_cases c6:a2≥0
 rotate_left
 ·rw [if_neg c6] at H
  have c6b0:decide (0≤a2)=false:=decide_eq_false c6
  clear c6
  obtain rfl:=Option.some.inj H
  go_enter Try.func147,Try.ntmps147
  go_wp2_with (first|((with_reducible refine gate_callee (f:=50) rfl ?_);refine gl_ (some 10) Try.func50 #[.slice A0 l0.length c0, .string a1] ?_;(with_reducible refine (r10_Find.calls k _ _ l0 a1 t1 _ ?side1 ?side2 A4.out).mono ?_);(case side1=>repeat (first|exact HR0.out|(with_reducible refine Kd.C_alloc ?_ _)|(with_reducible refine Kd.C_drewN ?_ _)|(with_reducible refine Kd.C_drew ?_)));(case side2=>exact HC0.out);rintro e w' ⟨rfl,⟨nd,rfl⟩⟩;refine ⟨_,rfl, ?_⟩))
  go_ret
  exact ⟨by first|rfl|(simp;done)|(simp [*];done),by repeat (first|exact Drawn0.refl _|apply Drawn0.step)⟩

 rw [if_pos c6] at H
 have c6b0:decide (0≤a2)=true:=decide_eq_true c6
 clear c6
 by_cases c7:0≤t1
 rotate_left
 ·rw [if_neg c7] at H
  exact absurd H (by simp)
 rw [if_pos c7] at H
 have c7b0:decide (0≤t1)=true:=decide_eq_true c7
 clear c7
 by_cases c8:t1<(l0.length:Int)
 rotate_left
 ·rw [if_neg c8] at H
  exact absurd H (by simp)
 rw [if_pos c8] at H
 have c8b0:decide (t1<(l0.length:Int))=true:=decide_eq_true c8
 clear c8
 by_cases c9:((rd_T31 l0 t1).f5)=a2
 ·rw [if_pos c9] at H
  have c9b0:(((rd_T31 l0 t1).f5)==a2)=true:=beq_iff_eq.mpr c9
  have c9b1:(((rd_T31 l0 t1).f5) !=a2)=false:=bne_eq_false_iff_eq.mpr c9
  clear c9
  obtain rfl:=Option.some.inj H
  go_enter Try.func147,Try.ntmps147
  go_wp2_with (first|((with_reducible refine gate_callee (f:=50) rfl ?_);refine gl_ (some 10) Try.func50 #[.slice A0 l0.length c0, .string a1] ?_;(with_reducible refine (r10_Find.calls k _ _ l0 a1 t1 _ ?side1 ?side2 A4.out).mono ?_);(case side1=>repeat (first|exact HR0.out|(with_reducible refine Kd.C_alloc ?_ _)|(with_reducible refine Kd.C_drewN ?_ _)|(with_reducible refine Kd.C_drew ?_)));(case side2=>exact HC0.out);rintro e w' ⟨rfl,⟨nd,rfl⟩⟩;refine ⟨_,rfl, ?_⟩;have p2:0≤(t1:Int):=of_decide_eq_true zq_;have q2:t1<(l0.length:Int):=of_decide_eq_true zq_;obtain ⟨ad2,e2,hx2_0,hx2_1,hx2_2,hx2_3,hx2_4,hx2_5,hx2_6,hx2_7,hx2_8,hx2_9,hx2_10,hx2_11⟩:=at_T31 HR0.out t1 p2 q2;cases e2;replace p2:=eq_true p2;replace q2:=eq_true q2))
  go_ret
  exact ⟨by first|rfl|(simp;done)|(simp [*];done),by repeat (first|exact Drawn0.refl _|apply Drawn0.step)⟩
 rw [if_neg c9] at H
 have c9b0:(((rd_T31 l0 t1).f5)==a2)=false:=beq_eq_false_iff_ne.mpr c9
 have c9b1:(((rd_T31 l0 t1).f5) !=a2)=true:=bne_iff_ne.mpr c9
 obtain rfl:=Option.some.inj H
 go_enter Try.func147,Try.ntmps147
 go_wp2_with (first|((with_reducible refine gate_callee (f:=50) rfl ?_);refine gl_ (some 10) Try.func50 #[.slice A0 l0.length c0, .string a1] ?_;(with_reducible refine (r10_Find.calls k _ _ l0 a1 t1 _ ?side1 ?side2 A4.out).mono ?_);(case side1=>repeat (first|exact HR0.out|(with_reducible refine Kd.C_alloc ?_ _)|(with_reducible refine Kd.C_drewN ?_ _)|(with_reducible refine Kd.C_drew ?_)));(case side2=>exact HC0.out);rintro e w' ⟨rfl,⟨nd,rfl⟩⟩;refine ⟨_,rfl, ?_⟩;have p2:0≤(t1:Int):=of_decide_eq_true zq_;have q2:t1<(l0.length:Int):=of_decide_eq_true zq_;obtain ⟨ad2,e2,hx2_0,hx2_1,hx2_2,hx2_3,hx2_4,hx2_5,hx2_6,hx2_7,hx2_8,hx2_9,hx2_10,hx2_11⟩:=at_T31 HR0.out t1 p2 q2;cases e2;replace p2:=eq_true p2;replace q2:=eq_true q2))
 go_ret
 exact ⟨by first|rfl|(simp;done)|(simp [*];done),by repeat (first|exact Drawn0.refl _|apply Drawn0.step)⟩
def r10_Limit.f (k:Nat) (l0:List (S31)) (a1:ByteArray) (a2_0:Int) (a2_1:Int) (a2_2:Int) (a3:Int):Option ((List (S31))×Int):=(r10_MayVec.f a2_0 a2_1 a2_2).bind fun t3=>(if t3=true then ((r10_old.f k l0 a1 a3).bind fun t8=>(if t8=0 then ((r10_copied.f l0).bind fun t13=>((r10_Find.f k t13 a1).bind fun t16=>(if 0≤t16 then (if t16<(t13.length:Int) then (if ((rd_T31 t13 t16).f5)≥9007199254740992 then ((r10_no.f 4).bind fun bt18=>(some (bt18.1,bt18.2))) else ((r10_Le.f ((rd_T31 t13 t16).f4.f0) ((rd_T31 t13 t16).f4.f1) ((rd_T31 t13 t16).f4.f2) a2_0 a2_1 a2_2).bind fun t23=>(if t23=true then ((some (t13.set (t16:Int).toNat (⟨(rd_T31 t13 t16).f0,(rd_T31 t13 t16).f1,(⟨a2_0,a2_1,a2_2⟩:S27),(⟨(rd_T31 t13 t16).f3.f0,(rd_T31 t13 t16).f3.f1,(rd_T31 t13 t16).f3.f2⟩:S27),(⟨(rd_T31 t13 t16).f4.f0,(rd_T31 t13 t16).f4.f1,(rd_T31 t13 t16).f4.f2⟩:S27),(rd_T31 t13 t16).f5⟩:S31):List (S31))).bind fun y24=>(some ((y24.set (t16:Int).toNat (⟨(rd_T31 y24 t16).f0,(rd_T31 y24 t16).f1,(⟨(rd_T31 y24 t16).f2.f0,(rd_T31 y24 t16).f2.f1,(rd_T31 y24 t16).f2.f2⟩:S27),(⟨(rd_T31 y24 t16).f3.f0,(rd_T31 y24 t16).f3.f1,(rd_T31 y24 t16).f3.f2⟩:S27),(⟨(rd_T31 y24 t16).f4.f0,(rd_T31 y24 t16).f4.f1,(rd_T31 y24 t16).f4.f2⟩:S27),wrap64 (((rd_T31 y24 t16).f5)+1)⟩:S31)),0))) else ((r10_no.f 12).bind fun bt27=>(some (bt27.1,bt27.2)))))) else (none)) else (none)))) else ((r10_no.f t8).bind fun bt9=>(some (bt9.1,bt9.2))))) else ((r10_no.f 1).bind fun bt4=>(some (bt4.1,bt4.2))))
theorem r10_Limit.mono: ∀a0 a1 a2 a3 a4 a5 k,LeO (r10_Limit.f k a0 a1 a2 a3 a4 a5) (r10_Limit.f (k+1) a0 a1 a2 a3 a4 a5):=by
 intro a0 a1 a2 a3 a4 a5 k
 unfold r10_Limit.f
 repeat' first
  |(with_reducible exact r10_Find.mono _ _ _)
  |(with_reducible exact r10_old.mono _ _ _ _)
  |(with_reducible exact LeO.refl _)
  |(with_reducible exact LeO.none _)
  |(with_reducible refine LeO.ite ?_ ?_)
  |(with_reducible refine LeO.bind ?_ (fun _=> ?_))
  |exact r10_Find.mono _ _ _
  |exact r10_old.mono _ _ _ _
  |exact LeO.none _
  |refine LeO.ite ?_ ?_
  |refine LeO.bind ?_ (fun _=> ?_)
def r10_Limit.T10:Bool×List (List Nat×List Nat):=(true,[([],[]),([],[]),([0,1],[0,1]),([2],[2]),([3],[3]),([],[]),([4,5],[4,5]),([6],[6]),([7,6],[7])])
def r10_Limit.B10:List Nat:=[0,0,3,7,15,0,63,127,255]
theorem r10_Limit.tab10:rtab .any (opsOf Try.f91 10)=r10_Limit.T10:=by kernel_rfl
theorem r10_Limit.bits10:waitsOk r10_Limit.T10.2 r10_Limit.B10=true:=by kernel_rfl
set_option maxHeartbeats 8000000 in
set_option maxRecDepth 100000 in
theorem r10_Limit.calls (k:Nat) (A0:Option Addr) (c0:Nat) (l0:List (S31)) (a1:ByteArray) (a2_0:Int) (a2_1:Int) (a2_2:Int) (a3:Int) (r1:List (S31)) (r2:Int) (w:World) (hr0:Kd.C k31 w A0 l0.length l0) (hc0:l0.length≤c0) (h:r10_Limit.f k l0 a1 a2_0 a2_1 a2_2 a3=some (r1,r2)):
  Calls Try.prog 91 #[.slice A0 l0.length c0, .string a1, .agg #[.int .i64 a2_0, .int .i64 a2_1, .int .i64 a2_2], .int .i64 a3] w fun e w'=> ∃v0_:Value,e= .returned (.agg #[v0_, .int .i64 r2])∧Kd.R k31 31 w' w.heap.size (fun _=>True) v0_ r1∧Below w.heap.size w w':=by
 have HR0:=Aside0.mk hr0
 have HC0:=Aside0.mk hc0
 clear hr0 hc0
 have HB:=am_ (Below.refl w.heap.size w)
 have H:((r10_MayVec.f a2_0 a2_1 a2_2).bind fun t3=>(if t3=true then ((r10_old.f k l0 a1 a3).bind fun t8=>(if t8=0 then ((r10_copied.f l0).bind fun t13=>((r10_Find.f k t13 a1).bind fun t16=>(if 0≤t16 then (if t16<(t13.length:Int) then (if ((rd_T31 t13 t16).f5)≥9007199254740992 then ((r10_no.f 4).bind fun bt18=>(some (bt18.1,bt18.2))) else ((r10_Le.f ((rd_T31 t13 t16).f4.f0) ((rd_T31 t13 t16).f4.f1) ((rd_T31 t13 t16).f4.f2) a2_0 a2_1 a2_2).bind fun t23=>(if t23=true then ((some (t13.set (t16:Int).toNat (⟨(rd_T31 t13 t16).f0,(rd_T31 t13 t16).f1,(⟨a2_0,a2_1,a2_2⟩:S27),(⟨(rd_T31 t13 t16).f3.f0,(rd_T31 t13 t16).f3.f1,(rd_T31 t13 t16).f3.f2⟩:S27),(⟨(rd_T31 t13 t16).f4.f0,(rd_T31 t13 t16).f4.f1,(rd_T31 t13 t16).f4.f2⟩:S27),(rd_T31 t13 t16).f5⟩:S31):List (S31))).bind fun y24=>(some ((y24.set (t16:Int).toNat (⟨(rd_T31 y24 t16).f0,(rd_T31 y24 t16).f1,(⟨(rd_T31 y24 t16).f2.f0,(rd_T31 y24 t16).f2.f1,(rd_T31 y24 t16).f2.f2⟩:S27),(⟨(rd_T31 y24 t16).f3.f0,(rd_T31 y24 t16).f3.f1,(rd_T31 y24 t16).f3.f2⟩:S27),(⟨(rd_T31 y24 t16).f4.f0,(rd_T31 y24 t16).f4.f1,(rd_T31 y24 t16).f4.f2⟩:S27),wrap64 (((rd_T31 y24 t16).f5)+1)⟩:S31)),0))) else ((r10_no.f 12).bind fun bt27=>(some (bt27.1,bt27.2)))))) else (none)) else (none)))) else ((r10_no.f t8).bind fun bt9=>(some (bt9.1,bt9.2))))) else ((r10_no.f 1).bind fun bt4=>(some (bt4.1,bt4.2)))))=some (r1,r2):=h
 clear h
 replace H:=Option.bind_eq_some_iff.mp H
 obtain ⟨t3,A50,H⟩:=H
 try dsimp only at H
 have A5:=Aside0.mk A50
 clear A50
 by_cases c6:t3=true
 rotate_left
 ·replace c6:=Bool.eq_false_iff.mpr c6
  subst c6
  have H1:((r10_no.f 1).bind fun bt4=>(some (bt4.1,bt4.2)))=some (r1,r2):=by rw [if_neg (show¬(false=true) by decide)] at H;exact H
  clear H
  have H:=H1
  clear H1
  replace H:=Option.bind_eq_some_iff.mp H
  obtain ⟨⟨t4,t7⟩,A660,H⟩:=H
  try dsimp only at H
  have A66:=Aside0.mk A660
  clear A660
  simp only [Option.some.injEq,Prod.mk.injEq] at H
  obtain ⟨rfl,rfl⟩:=H
  go_enter Try.func91,Try.ntmps91
  go_wp2_with (first|((with_reducible refine gate_dst (N:=6) rfl ?_);refine bx_ (N:=6) (cs:=#[.int .i64 a2_0, .int .i64 a2_1, .int .i64 a2_2]) (t:=27) ?_;intro gb1 hg w67 hbox hb;have n0_:=am_ (below_step (zl0_ HB) hb);have n1_:=am_ (hbox);have n2_:=am_ ((zg0_ HB hg:w.heap.size≤gb1));have n3_:=am_ ((zg0_ HB hg:w.heap.size≤gb1));clear HB;have HB:=n0_;have BK1:=n1_;have GE1:=n3_;clear n0_ n1_ n2_ n3_;clear hb hbox hg)|((with_reducible refine gate_dst (N:=8) rfl ?_);refine bx_ (N:=8) (cs:=#[.slice none 0 0, .int .i64 0]) (t:=67) ?_;intro gb2 hg w68 hbox hb;have n0_:=am_ (blk_below (zb_ BK1) hb);have n1_:=am_ (below_step (zl1_ HB GE1) hb);have n2_:=am_ (hbox);have n3_:=am_ ((zg1_ HB GE1 hg:w.heap.size≤gb2));have n4_:=am_ ((zg1_ HB GE1 hg:w.heap.size≤gb2));have n5_:=am_ ((zn_ BK1 hg:gb1≠gb2));have n6_:=am_ ((zm_ BK1 hg:gb2≠gb1));clear BK1;clear HB;have BK1:=n0_;have HB:=n1_;have BK2:=n2_;have GE2:=n4_;clear n0_ n1_ n2_ n3_ n4_ n5_ n6_;clear hb hbox hg;obtain ⟨hcz70_0,hcz70_1,hcz70_2⟩:=x3_ BK1)|((with_reducible refine gate_callee (f:=65) rfl ?_);refine gl_ (some 13) Try.func65 #[.agg #[.int .i64 a2_0, .int .i64 a2_1, .int .i64 a2_2]] ?_;(with_reducible refine (r10_MayVec.calls a2_0 a2_1 a2_2 false _ A5.out).mono ?_);rintro e w71 ⟨rfl,hb⟩;refine ⟨_,rfl, ?_⟩;replace BK1:=am_ (blk_below (zb_ BK1) hb);replace BK2:=am_ (blk_below (zb_ BK2) hb);replace HB:=am_ (below_step (zl2_ HB GE1 GE2) hb);(try clear hb);(try clear hb2);(try clear hk);(try clear hi))|((with_reducible refine gate_callee (f:=113) rfl ?_);refine gl_ (some 15) Try.func113 #[.int .i64 1] ?_;(with_reducible refine (r10_no.calls 1 t4 t7 _ A66.out).mono ?_);rintro e w72 ⟨v5,rfl,ho0,hb⟩;refine ⟨_,rfl, ?_⟩;have HO6:=am_ (Kd.R_lower ho0 (below_size (zl2_ HB GE1 GE2)));replace BK1:=am_ (blk_below (zb_ BK1) hb);replace BK2:=am_ (blk_below (zb_ BK2) hb);replace HB:=am_ (below_step (zl2_ HB GE1 GE2) hb);(try clear hb);(try clear hb2);(try clear hk);(try clear hi);(try clear ho0);obtain ⟨Ao73,co73,eo73⟩:=Kd.R_slice HO6.out;subst eo73;obtain ⟨hcz74_0,hcz74_1⟩:=x2_ BK2;have hfz74_0:=blk_frozen BK2.out 0;have hfz74_1:=blk_frozen BK2.out 1))
  refine bodyPost_ret (results_cell_row rfl _ _ gb2 67 #[.slice Ao73 t4.length co73, .int .i64 t7] (0,0) _ rfl (zw_ BK2) Try.underlying67 rfl (by kernel_rfl)) rfl ?_
  exact ⟨_,by first|rfl|(simp [errW_none,errW_some]<;>rfl)|(simp [*,errW_none,errW_some]<;>rfl),zy_ HO6 BK2,zl2_ HB GE1 GE2⟩

 subst c6
 have H1:((r10_old.f k l0 a1 a3).bind fun t8=>(if t8=0 then ((r10_copied.f l0).bind fun t13=>((r10_Find.f k t13 a1).bind fun t16=>(if 0≤t16 then (if t16<(t13.length:Int) then (if ((rd_T31 t13 t16).f5)≥9007199254740992 then ((r10_no.f 4).bind fun bt18=>(some (bt18.1,bt18.2))) else ((r10_Le.f ((rd_T31 t13 t16).f4.f0) ((rd_T31 t13 t16).f4.f1) ((rd_T31 t13 t16).f4.f2) a2_0 a2_1 a2_2).bind fun t23=>(if t23=true then ((some (t13.set (t16:Int).toNat (⟨(rd_T31 t13 t16).f0,(rd_T31 t13 t16).f1,(⟨a2_0,a2_1,a2_2⟩:S27),(⟨(rd_T31 t13 t16).f3.f0,(rd_T31 t13 t16).f3.f1,(rd_T31 t13 t16).f3.f2⟩:S27),(⟨(rd_T31 t13 t16).f4.f0,(rd_T31 t13 t16).f4.f1,(rd_T31 t13 t16).f4.f2⟩:S27),(rd_T31 t13 t16).f5⟩:S31):List (S31))).bind fun y24=>(some ((y24.set (t16:Int).toNat (⟨(rd_T31 y24 t16).f0,(rd_T31 y24 t16).f1,(⟨(rd_T31 y24 t16).f2.f0,(rd_T31 y24 t16).f2.f1,(rd_T31 y24 t16).f2.f2⟩:S27),(⟨(rd_T31 y24 t16).f3.f0,(rd_T31 y24 t16).f3.f1,(rd_T31 y24 t16).f3.f2⟩:S27),(⟨(rd_T31 y24 t16).f4.f0,(rd_T31 y24 t16).f4.f1,(rd_T31 y24 t16).f4.f2⟩:S27),wrap64 (((rd_T31 y24 t16).f5)+1)⟩:S31)),0))) else ((r10_no.f 12).bind fun bt27=>(some (bt27.1,bt27.2)))))) else (none)) else (none)))) else ((r10_no.f t8).bind fun bt9=>(some (bt9.1,bt9.2)))))=some (r1,r2):=by rw [if_pos rfl] at H;exact H
 clear H
 have H:=H1
 clear H1
 replace H:=Option.bind_eq_some_iff.mp H
 obtain ⟨t8,A70,H⟩:=H
 try dsimp only at H
 have A7:=Aside0.mk A70
 clear A70
 by_cases c8:t8=0
 rotate_left
 ·rw [if_neg c8] at H
  have c8b1:(t8 !=0)=true:=bne_iff_ne.mpr c8
  replace H:=Option.bind_eq_some_iff.mp H
  obtain ⟨⟨t9,t12⟩,A570,H⟩:=H
  try dsimp only at H
  have A57:=Aside0.mk A570
  clear A570
  simp only [Option.some.injEq,Prod.mk.injEq] at H
  obtain ⟨rfl,rfl⟩:=H
  go_enter Try.func91,Try.ntmps91
  go_wp2_with (first|((with_reducible refine gate_dst (N:=6) rfl ?_);refine bx_ (N:=6) (cs:=#[.int .i64 a2_0, .int .i64 a2_1, .int .i64 a2_2]) (t:=27) ?_;intro gb1 hg w58 hbox hb;have n0_:=am_ (below_step (zl0_ HB) hb);have n1_:=am_ (hbox);have n2_:=am_ ((zg0_ HB hg:w.heap.size≤gb1));have n3_:=am_ ((zg0_ HB hg:w.heap.size≤gb1));clear HB;have HB:=n0_;have BK1:=n1_;have GE1:=n3_;clear n0_ n1_ n2_ n3_;clear hb hbox hg)|((with_reducible refine gate_dst (N:=8) rfl ?_);refine bx_ (N:=8) (cs:=#[.slice none 0 0, .int .i64 0]) (t:=67) ?_;intro gb2 hg w59 hbox hb;have n0_:=am_ (blk_below (zb_ BK1) hb);have n1_:=am_ (below_step (zl1_ HB GE1) hb);have n2_:=am_ (hbox);have n3_:=am_ ((zg1_ HB GE1 hg:w.heap.size≤gb2));have n4_:=am_ ((zg1_ HB GE1 hg:w.heap.size≤gb2));have n5_:=am_ ((zn_ BK1 hg:gb1≠gb2));have n6_:=am_ ((zm_ BK1 hg:gb2≠gb1));clear BK1;clear HB;have BK1:=n0_;have HB:=n1_;have BK2:=n2_;have GE2:=n4_;clear n0_ n1_ n2_ n3_ n4_ n5_ n6_;clear hb hbox hg;obtain ⟨hcz61_0,hcz61_1,hcz61_2⟩:=x3_ BK1)|((with_reducible refine gate_callee (f:=65) rfl ?_);refine gl_ (some 13) Try.func65 #[.agg #[.int .i64 a2_0, .int .i64 a2_1, .int .i64 a2_2]] ?_;(with_reducible refine (r10_MayVec.calls a2_0 a2_1 a2_2 true _ A5.out).mono ?_);rintro e w62 ⟨rfl,hb⟩;refine ⟨_,rfl, ?_⟩;replace BK1:=am_ (blk_below (zb_ BK1) hb);replace BK2:=am_ (blk_below (zb_ BK2) hb);replace HB:=am_ (below_step (zl2_ HB GE1 GE2) hb);(try clear hb);(try clear hb2);(try clear hk);(try clear hi))|((with_reducible refine gate_callee (f:=147) rfl ?_);refine gl_ (some 19) Try.func147 #[.slice A0 l0.length c0, .string a1, .int .i64 a3] ?_;(with_reducible refine (r10_old.calls k _ _ l0 a1 a3 t8 _ ?side1 ?side2 A7.out).mono ?_);(case side1=>exact zc_ (Kd.C_below HR0.out HB.out));(case side2=>exact HC0.out);rintro e w' ⟨rfl,⟨nd,rfl⟩⟩;refine ⟨_,rfl, ?_⟩;(try (rw [drewN_self w62];generalize hq_:World.drewN w62 _=w62;have n0_:Aside0 (w62.heap[gb1]?=some (.cells #[.int .i64 a2_0, .int .i64 a2_1, .int .i64 a2_2] 27 (0,0))):=⟨by rw [←hq_];exact (zb_ BK1)⟩;have n1_:Aside0 (w62.heap[gb2]?=some (.cells #[.slice none 0 0, .int .i64 0] 67 (0,0))):=⟨by rw [←hq_];exact (zb_ BK2)⟩;have n2_:Aside0 (Below w.heap.size w w62):=⟨by rw [←hq_];exact (zl2_ HB GE1 GE2)⟩;clear BK1 BK2 HB hq_;have BK1:=n0_;have BK2:=n1_;have HB:=n2_;clear n0_ n1_ n2_)))|((with_reducible refine gate_callee (f:=113) rfl ?_);refine gl_ (some 23) Try.func113 #[.int .i64 t8] ?_;(with_reducible refine (r10_no.calls t8 t9 t12 _ A57.out).mono ?_);rintro e w63 ⟨v10,rfl,ho0,hb⟩;refine ⟨_,rfl, ?_⟩;have HO11:=am_ (Kd.R_lower ho0 (below_size (zl2_ HB GE1 GE2)));replace BK1:=am_ (blk_below (zb_ BK1) hb);replace BK2:=am_ (blk_below (zb_ BK2) hb);replace HB:=am_ (below_step (zl2_ HB GE1 GE2) hb);(try clear hb);(try clear hb2);(try clear hk);(try clear hi);(try clear ho0);obtain ⟨Ao64,co64,eo64⟩:=Kd.R_slice HO11.out;subst eo64;obtain ⟨hcz65_0,hcz65_1⟩:=x2_ BK2;have hfz65_0:=blk_frozen BK2.out 0;have hfz65_1:=blk_frozen BK2.out 1))
  refine bodyPost_ret (results_cell_row rfl _ _ gb2 67 #[.slice Ao64 t9.length co64, .int .i64 t12] (0,0) _ rfl (zw_ BK2) Try.underlying67 rfl (by kernel_rfl)) rfl ?_
  exact ⟨_,by first|rfl|(simp [errW_none,errW_some]<;>rfl)|(simp [*,errW_none,errW_some]<;>rfl),zy_ HO11 BK2,zl2_ HB GE1 GE2⟩
 rw [if_pos c8] at H
 have c8b1:(t8 !=0)=false:=bne_eq_false_iff_eq.mpr c8
 clear c8
 replace H:=Option.bind_eq_some_iff.mp H
 obtain ⟨t13,A90,H⟩:=H
 try dsimp only at H
 have A9:=Aside0.mk A90
 clear A90
 replace H:=Option.bind_eq_some_iff.mp H
 obtain ⟨t16,A100,H⟩:=H
 try dsimp only at H
 have A10:=Aside0.mk A100
 clear A100
 by_cases c11:0≤t16
 rotate_left
 ·rw [if_neg c11] at H
  exact absurd H (by simp)
 rw [if_pos c11] at H
 have c11b0:decide (0≤t16)=true:=decide_eq_true c11
 clear c11
 by_cases c12:t16<(t13.length:Int)
 rotate_left
 ·rw [if_neg c12] at H
  exact absurd H (by simp)
 rw [if_pos c12] at H
 have c12b0:decide (t16<(t13.length:Int))=true:=decide_eq_true c12
 clear c12
 by_cases c13:((rd_T31 t13 t16).f5)≥9007199254740992
 ·rw [if_pos c13] at H
  have c13b0:decide (9007199254740992≤((rd_T31 t13 t16).f5))=true:=decide_eq_true c13
  clear c13
  replace H:=Option.bind_eq_some_iff.mp H
  obtain ⟨⟨t18,t21⟩,A140,H⟩:=H
  try dsimp only at H
  have A14:=Aside0.mk A140
  clear A140
  simp only [Option.some.injEq,Prod.mk.injEq] at H
  obtain ⟨rfl,rfl⟩:=H
  go_enter Try.func91,Try.ntmps91
  go_wp2_with (first|((with_reducible refine gate_dst (N:=6) rfl ?_);refine bx_ (N:=6) (cs:=#[.int .i64 a2_0, .int .i64 a2_1, .int .i64 a2_2]) (t:=27) ?_;intro gb1 hg w15 hbox hb;have n0_:=am_ (below_step (zl0_ HB) hb);have n1_:=am_ (hbox);have n2_:=am_ ((zg0_ HB hg:w.heap.size≤gb1));have n3_:=am_ ((zg0_ HB hg:w.heap.size≤gb1));clear HB;have HB:=n0_;have BK1:=n1_;have GE1:=n3_;clear n0_ n1_ n2_ n3_;clear hb hbox hg)|((with_reducible refine gate_dst (N:=8) rfl ?_);refine bx_ (N:=8) (cs:=#[.slice none 0 0, .int .i64 0]) (t:=67) ?_;intro gb2 hg w16 hbox hb;have n0_:=am_ (blk_below (zb_ BK1) hb);have n1_:=am_ (below_step (zl1_ HB GE1) hb);have n2_:=am_ (hbox);have n3_:=am_ ((zg1_ HB GE1 hg:w.heap.size≤gb2));have n4_:=am_ ((zg1_ HB GE1 hg:w.heap.size≤gb2));have n5_:=am_ ((zn_ BK1 hg:gb1≠gb2));have n6_:=am_ ((zm_ BK1 hg:gb2≠gb1));clear BK1;clear HB;have BK1:=n0_;have HB:=n1_;have BK2:=n2_;have GE2:=n4_;clear n0_ n1_ n2_ n3_ n4_ n5_ n6_;clear hb hbox hg;obtain ⟨hcz18_0,hcz18_1,hcz18_2⟩:=x3_ BK1)|((with_reducible refine gate_callee (f:=65) rfl ?_);refine gl_ (some 13) Try.func65 #[.agg #[.int .i64 a2_0, .int .i64 a2_1, .int .i64 a2_2]] ?_;(with_reducible refine (r10_MayVec.calls a2_0 a2_1 a2_2 true _ A5.out).mono ?_);rintro e w19 ⟨rfl,hb⟩;refine ⟨_,rfl, ?_⟩;replace BK1:=am_ (blk_below (zb_ BK1) hb);replace BK2:=am_ (blk_below (zb_ BK2) hb);replace HB:=am_ (below_step (zl2_ HB GE1 GE2) hb);(try clear hb);(try clear hb2);(try clear hk);(try clear hi))|((with_reducible refine gate_callee (f:=147) rfl ?_);refine gl_ (some 19) Try.func147 #[.slice A0 l0.length c0, .string a1, .int .i64 a3] ?_;(with_reducible refine (r10_old.calls k _ _ l0 a1 a3 t8 _ ?side1 ?side2 A7.out).mono ?_);(case side1=>exact zc_ (Kd.C_below HR0.out HB.out));(case side2=>exact HC0.out);rintro e w' ⟨rfl,⟨nd,rfl⟩⟩;refine ⟨_,rfl, ?_⟩;(try (rw [drewN_self w19];generalize hq_:World.drewN w19 _=w19;have n0_:Aside0 (w19.heap[gb1]?=some (.cells #[.int .i64 a2_0, .int .i64 a2_1, .int .i64 a2_2] 27 (0,0))):=⟨by rw [←hq_];exact (zb_ BK1)⟩;have n1_:Aside0 (w19.heap[gb2]?=some (.cells #[.slice none 0 0, .int .i64 0] 67 (0,0))):=⟨by rw [←hq_];exact (zb_ BK2)⟩;have n2_:Aside0 (Below w.heap.size w w19):=⟨by rw [←hq_];exact (zl2_ HB GE1 GE2)⟩;clear BK1 BK2 HB hq_;have BK1:=n0_;have BK2:=n1_;have HB:=n2_;clear n0_ n1_ n2_)))|((with_reducible refine gate_callee (f:=124) rfl ?_);refine gl_ (some 25) Try.func124 #[.slice A0 l0.length c0] ?_;(with_reducible refine (r10_copied.calls _ _ l0 t13 _ ?side1 ?side2 A9.out).mono ?_);(case side1=>exact zc_ (Kd.C_below HR0.out HB.out));(case side2=>exact HC0.out);rintro e w20 ⟨v14,rfl,ho0,hb⟩;refine ⟨_,rfl, ?_⟩;have HO15:=am_ (Kd.R_lower ho0 (below_size (zl2_ HB GE1 GE2)));replace BK1:=am_ (blk_below (zb_ BK1) hb);replace BK2:=am_ (blk_below (zb_ BK2) hb);replace HB:=am_ (below_step (zl2_ HB GE1 GE2) hb);(try clear hb);(try clear hb2);(try clear hk);(try clear hi);(try clear ho0);obtain ⟨Ao21,co21,eo21⟩:=Kd.R_slice HO15.out;subst eo21)|((with_reducible refine gate_callee (f:=50) rfl ?_);refine gl_ (some 28) Try.func50 #[.slice Ao21 t13.length co21, .string a1] ?_;(with_reducible refine (r10_Find.calls k _ _ t13 a1 t16 _ ?side1 ?side2 A10.out).mono ?_);(case side1=>exact zc_ (Kd.R_reads' HO15.out).2.2);(case side2=>exact (Kd.R_reads' HO15.out).2.1);rintro e w' ⟨rfl,⟨nd,rfl⟩⟩;refine ⟨_,rfl, ?_⟩;(try (rw [drewN_self w20];generalize hq_:World.drewN w20 _=w20;have n0_:Aside0 (Kd.R k31 31 w20 w.heap.size (fun _=>True) (.slice Ao21 t13.length co21) t13):=⟨by rw [←hq_];exact (zr_ HO15)⟩;have n1_:Aside0 (w20.heap[gb1]?=some (.cells #[.int .i64 a2_0, .int .i64 a2_1, .int .i64 a2_2] 27 (0,0))):=⟨by rw [←hq_];exact (zb_ BK1)⟩;have n2_:Aside0 (w20.heap[gb2]?=some (.cells #[.slice none 0 0, .int .i64 0] 67 (0,0))):=⟨by rw [←hq_];exact (zb_ BK2)⟩;have n3_:Aside0 (Below w.heap.size w w20):=⟨by rw [←hq_];exact (zl2_ HB GE1 GE2)⟩;clear HO15 BK1 BK2 HB hq_;have HO15:=n0_;have BK1:=n1_;have BK2:=n2_;have HB:=n3_;clear n0_ n1_ n2_ n3_));have p17:0≤(t16:Int):=of_decide_eq_true zq_;have q17:t16<(t13.length:Int):=of_decide_eq_true zq_;obtain ⟨ad17,e17,hx17_0,hx17_1,hx17_2,hx17_3,hx17_4,hx17_5,hx17_6,hx17_7,hx17_8,hx17_9,hx17_10,hx17_11⟩:=at_T31 (Kd.R_reads' HO15.out).2.2 t16 p17 q17;cases e17;replace p17:=eq_true p17;replace q17:=eq_true q17)|((with_reducible refine gate_callee (f:=113) rfl ?_);refine gl_ (some 36) Try.func113 #[.int .i64 4] ?_;(with_reducible refine (r10_no.calls 4 t18 t21 _ A14.out).mono ?_);rintro e w22 ⟨v19,rfl,ho0,hb⟩;refine ⟨_,rfl, ?_⟩;have HO20:=am_ (Kd.R_lower (Kd.R_new' ho0 (Kd.R_lt (zr_ HO15))) (below_size (zl2_ HB GE1 GE2)));replace HO15:=am_ (Kd.R_elder' (zr_ HO15) (Kd.R_base ho0) hb);replace BK1:=am_ (blk_below (zb_ BK1) hb);replace BK2:=am_ (blk_below (zb_ BK2) hb);replace HB:=am_ (below_step (zl2_ HB GE1 GE2) hb);(try clear hb);(try clear hb2);(try clear hk);(try clear hi);(try clear ho0);obtain ⟨Ao23,co23,eo23⟩:=Kd.R_slice HO20.out;subst eo23;obtain ⟨hcz24_0,hcz24_1⟩:=x2_ BK2;have hfz24_0:=blk_frozen BK2.out 0;have hfz24_1:=blk_frozen BK2.out 1))
  refine bodyPost_ret (results_cell_row rfl _ _ gb2 67 #[.slice Ao23 t18.length co23, .int .i64 t21] (0,0) _ rfl (zw_ BK2) Try.underlying67 rfl (by kernel_rfl)) rfl ?_
  exact ⟨_,by first|rfl|(simp [errW_none,errW_some]<;>rfl)|(simp [*,errW_none,errW_some]<;>rfl),zy_ HO20 BK2,zl2_ HB GE1 GE2⟩
 rw [if_neg c13] at H
 have c13b0:decide (9007199254740992≤((rd_T31 t13 t16).f5))=false:=decide_eq_false c13
 clear c13
 replace H:=Option.bind_eq_some_iff.mp H
 obtain ⟨t23,A250,H⟩:=H
 try dsimp only at H
 have A25:=Aside0.mk A250
 clear A250
 by_cases c26:t23=true
 rotate_left
 ·replace c26:=Bool.eq_false_iff.mpr c26
  subst c26
  have H1:((r10_no.f 12).bind fun bt27=>(some (bt27.1,bt27.2)))=some (r1,r2):=by rw [if_neg (show¬(false=true) by decide)] at H;exact H
  clear H
  have H:=H1
  clear H1
  replace H:=Option.bind_eq_some_iff.mp H
  obtain ⟨⟨t27,t30⟩,A440,H⟩:=H
  try dsimp only at H
  have A44:=Aside0.mk A440
  clear A440
  simp only [Option.some.injEq,Prod.mk.injEq] at H
  obtain ⟨rfl,rfl⟩:=H
  go_enter Try.func91,Try.ntmps91
  try go_wp2_with (first|((with_reducible refine gate_dst (N:=6) rfl ?_);refine bx_ (N:=6) (cs:=#[.int .i64 a2_0, .int .i64 a2_1, .int .i64 a2_2]) (t:=27) ?_;intro gb1 hg w45 hbox hb;have n0_:=am_ (below_step (zl0_ HB) hb);have n1_:=am_ (hbox);have n2_:=am_ ((zg0_ HB hg:w.heap.size≤gb1));have n3_:=am_ ((zg0_ HB hg:w.heap.size≤gb1));clear HB;have HB:=n0_;have BK1:=n1_;have GE1:=n3_;clear n0_ n1_ n2_ n3_;clear hb hbox hg)|((with_reducible refine gate_dst (N:=8) rfl ?_);refine bx_ (N:=8) (cs:=#[.slice none 0 0, .int .i64 0]) (t:=67) ?_;intro gb2 hg w46 hbox hb;have n0_:=am_ (blk_below (zb_ BK1) hb);have n1_:=am_ (below_step (zl1_ HB GE1) hb);have n2_:=am_ (hbox);have n3_:=am_ ((zg1_ HB GE1 hg:w.heap.size≤gb2));have n4_:=am_ ((zg1_ HB GE1 hg:w.heap.size≤gb2));have n5_:=am_ ((zn_ BK1 hg:gb1≠gb2));have n6_:=am_ ((zm_ BK1 hg:gb2≠gb1));clear BK1;clear HB;have BK1:=n0_;have HB:=n1_;have BK2:=n2_;have GE2:=n4_;clear n0_ n1_ n2_ n3_ n4_ n5_ n6_;clear hb hbox hg;obtain ⟨hcz48_0,hcz48_1,hcz48_2⟩:=x3_ BK1)|((with_reducible refine gate_callee (f:=65) rfl ?_);refine gl_ (some 13) Try.func65 #[.agg #[.int .i64 a2_0, .int .i64 a2_1, .int .i64 a2_2]] ?_;(with_reducible refine (r10_MayVec.calls a2_0 a2_1 a2_2 true _ A5.out).mono ?_);rintro e w49 ⟨rfl,hb⟩;refine ⟨_,rfl, ?_⟩;replace BK1:=am_ (blk_below (zb_ BK1) hb);replace BK2:=am_ (blk_below (zb_ BK2) hb);replace HB:=am_ (below_step (zl2_ HB GE1 GE2) hb);(try clear hb);(try clear hb2);(try clear hk);(try clear hi))|((with_reducible refine gate_callee (f:=147) rfl ?_);refine gl_ (some 19) Try.func147 #[.slice A0 l0.length c0, .string a1, .int .i64 a3] ?_;(with_reducible refine (r10_old.calls k _ _ l0 a1 a3 t8 _ ?side1 ?side2 A7.out).mono ?_);(case side1=>exact zc_ (Kd.C_below HR0.out HB.out));(case side2=>exact HC0.out);rintro e w' ⟨rfl,⟨nd,rfl⟩⟩;refine ⟨_,rfl, ?_⟩;(try (rw [drewN_self w49];generalize hq_:World.drewN w49 _=w49;have n0_:Aside0 (w49.heap[gb1]?=some (.cells #[.int .i64 a2_0, .int .i64 a2_1, .int .i64 a2_2] 27 (0,0))):=⟨by rw [←hq_];exact (zb_ BK1)⟩;have n1_:Aside0 (w49.heap[gb2]?=some (.cells #[.slice none 0 0, .int .i64 0] 67 (0,0))):=⟨by rw [←hq_];exact (zb_ BK2)⟩;have n2_:Aside0 (Below w.heap.size w w49):=⟨by rw [←hq_];exact (zl2_ HB GE1 GE2)⟩;clear BK1 BK2 HB hq_;have BK1:=n0_;have BK2:=n1_;have HB:=n2_;clear n0_ n1_ n2_)))|((with_reducible refine gate_callee (f:=124) rfl ?_);refine gl_ (some 25) Try.func124 #[.slice A0 l0.length c0] ?_;(with_reducible refine (r10_copied.calls _ _ l0 t13 _ ?side1 ?side2 A9.out).mono ?_);(case side1=>exact zc_ (Kd.C_below HR0.out HB.out));(case side2=>exact HC0.out);rintro e w50 ⟨v14,rfl,ho0,hb⟩;refine ⟨_,rfl, ?_⟩;have HO15:=am_ (Kd.R_lower ho0 (below_size (zl2_ HB GE1 GE2)));replace BK1:=am_ (blk_below (zb_ BK1) hb);replace BK2:=am_ (blk_below (zb_ BK2) hb);replace HB:=am_ (below_step (zl2_ HB GE1 GE2) hb);(try clear hb);(try clear hb2);(try clear hk);(try clear hi);(try clear ho0);obtain ⟨Ao51,co51,eo51⟩:=Kd.R_slice HO15.out;subst eo51)|((with_reducible refine gate_callee (f:=50) rfl ?_);refine gl_ (some 28) Try.func50 #[.slice Ao51 t13.length co51, .string a1] ?_;(with_reducible refine (r10_Find.calls k _ _ t13 a1 t16 _ ?side1 ?side2 A10.out).mono ?_);(case side1=>exact zc_ (Kd.R_reads' HO15.out).2.2);(case side2=>exact (Kd.R_reads' HO15.out).2.1);rintro e w' ⟨rfl,⟨nd,rfl⟩⟩;refine ⟨_,rfl, ?_⟩;(try (rw [drewN_self w50];generalize hq_:World.drewN w50 _=w50;have n0_:Aside0 (Kd.R k31 31 w50 w.heap.size (fun _=>True) (.slice Ao51 t13.length co51) t13):=⟨by rw [←hq_];exact (zr_ HO15)⟩;have n1_:Aside0 (w50.heap[gb1]?=some (.cells #[.int .i64 a2_0, .int .i64 a2_1, .int .i64 a2_2] 27 (0,0))):=⟨by rw [←hq_];exact (zb_ BK1)⟩;have n2_:Aside0 (w50.heap[gb2]?=some (.cells #[.slice none 0 0, .int .i64 0] 67 (0,0))):=⟨by rw [←hq_];exact (zb_ BK2)⟩;have n3_:Aside0 (Below w.heap.size w w50):=⟨by rw [←hq_];exact (zl2_ HB GE1 GE2)⟩;clear HO15 BK1 BK2 HB hq_;have HO15:=n0_;have BK1:=n1_;have BK2:=n2_;have HB:=n3_;clear n0_ n1_ n2_ n3_));have p17:0≤(t16:Int):=of_decide_eq_true zq_;have q17:t16<(t13.length:Int):=of_decide_eq_true zq_;obtain ⟨ad17,e17,hx17_0,hx17_1,hx17_2,hx17_3,hx17_4,hx17_5,hx17_6,hx17_7,hx17_8,hx17_9,hx17_10,hx17_11⟩:=at_T31 (Kd.R_reads' HO15.out).2.2 t16 p17 q17;cases e17;replace p17:=eq_true p17;replace q17:=eq_true q17))
  replace HO15:=am_ (Kd.R_drew HO15.out)
  replace BK1:=am_ (blk_drew BK1.out)
  replace BK2:=am_ (blk_drew BK2.out)
  replace HB:=am_ (below_drew1 HB.out)
  have p22:0≤(t16:Int):=of_decide_eq_true zq_
  have q22:t16<(t13.length:Int):=of_decide_eq_true zq_
  obtain ⟨ad22,e22,hx22_0,hx22_1,hx22_2,hx22_3,hx22_4,hx22_5,hx22_6,hx22_7,hx22_8,hx22_9,hx22_10,hx22_11⟩:=at_T31 (Kd.R_reads' HO15.out).2.2 t16 p22 q22
  obtain rfl:ad17=ad22:=(by injection e22)
  replace p22:=eq_true p22
  replace q22:=eq_true q22
  refine start_ (n:=9) (S:=fun w'=>w'.cell? ⟨gb1,0,none⟩=some (.int .i64 a2_0)∧w'.cell? ⟨gb1,1,none⟩=some (.int .i64 a2_1)∧w'.cell? ⟨gb1,2,none⟩=some (.int .i64 a2_2)∧w'.cell? (ad17.add ((t16).toNat*12))=some (.string ((rd_T31 t13 t16).f0))∧w'.cell? ⟨(ad17.add ((t16).toNat*12)).block,(ad17.add ((t16).toNat*12)).off+1,none⟩=some (.string ((rd_T31 t13 t16).f1))∧w'.cell? ⟨(ad17.add ((t16).toNat*12)).block,(ad17.add ((t16).toNat*12)).off+2,none⟩=some (.int .i64 ((rd_T31 t13 t16).f2.f0))∧w'.cell? ⟨(ad17.add ((t16).toNat*12)).block,(ad17.add ((t16).toNat*12)).off+3,none⟩=some (.int .i64 ((rd_T31 t13 t16).f2.f1))∧w'.cell? ⟨(ad17.add ((t16).toNat*12)).block,(ad17.add ((t16).toNat*12)).off+4,none⟩=some (.int .i64 ((rd_T31 t13 t16).f2.f2))∧w'.cell? ⟨(ad17.add ((t16).toNat*12)).block,(ad17.add ((t16).toNat*12)).off+5,none⟩=some (.int .i64 ((rd_T31 t13 t16).f3.f0))∧w'.cell? ⟨(ad17.add ((t16).toNat*12)).block,(ad17.add ((t16).toNat*12)).off+6,none⟩=some (.int .i64 ((rd_T31 t13 t16).f3.f1))∧w'.cell? ⟨(ad17.add ((t16).toNat*12)).block,(ad17.add ((t16).toNat*12)).off+7,none⟩=some (.int .i64 ((rd_T31 t13 t16).f3.f2))∧w'.cell? ⟨(ad17.add ((t16).toNat*12)).block,(ad17.add ((t16).toNat*12)).off+8,none⟩=some (.int .i64 ((rd_T31 t13 t16).f4.f0))∧w'.cell? ⟨(ad17.add ((t16).toNat*12)).block,(ad17.add ((t16).toNat*12)).off+9,none⟩=some (.int .i64 ((rd_T31 t13 t16).f4.f1))∧w'.cell? ⟨(ad17.add ((t16).toNat*12)).block,(ad17.add ((t16).toNat*12)).off+10,none⟩=some (.int .i64 ((rd_T31 t13 t16).f4.f2))∧w'.cell? ⟨(ad17.add ((t16).toNat*12)).block,(ad17.add ((t16).toNat*12)).off+11,none⟩=some (.int .i64 ((rd_T31 t13 t16).f5))) (ds:=[]) (bt_ 9 0) (by kernel_rfl) rfl rfl ⟨(blk_cell BK1.out 0).trans rfl,(blk_cell BK1.out 1).trans rfl,(blk_cell BK1.out 2).trans rfl,hx22_0,hx22_1,hx22_2,hx22_3,hx22_4,hx22_5,hx22_6,hx22_7,hx22_8,hx22_9,hx22_10,hx22_11⟩ (fun hHeld=> ?_);refine with_tabW r10_Limit.tab10 r10_Limit.bits10 (fun HT_ HW_=> ?_)
  generalize w50.drew=w52 at HO15 BK1 BK2 HB hx22_0 hx22_1 hx22_10 hx22_11 hx22_2 hx22_3 hx22_4 hx22_5 hx22_6 hx22_7 hx22_8 hx22_9 hHeld ⊢
  refine pu_ (i:=0) (N:=some 38) (bt_ 9 1) HT_ ?_
  refine pu_ (i:=1) (N:=some 39) (bt_ 9 3) HT_ ?_
  refine pu_ (i:=2) (N:=some 40) (bt_ 9 7) HT_ ?_
  refine pu_ (i:=3) (N:=some 41) (bt_ 9 15) HT_ ?_
  refine tk_ (i:=4) (N:=some 42) (bt_ 9 31) HT_ HW_ hHeld ?_
  refine tk_ (i:=5) (N:=some 43) (bt_ 9 63) HT_ HW_ hHeld ?_
  refine on_ (i:=6) (N:=some 44) (bt_ 9 127) HT_ (fun K hK=> ?_)
  refine gs_ Try.func34 #[.agg #[.int .i64 ((rd_T31 t13 t16).f4.f0), .int .i64 ((rd_T31 t13 t16).f4.f1), .int .i64 ((rd_T31 t13 t16).f4.f2)], .agg #[.int .i64 a2_0, .int .i64 a2_1, .int .i64 a2_2]] ?_
  with_reducible refine (r10_Le.calls ((rd_T31 t13 t16).f4.f0) ((rd_T31 t13 t16).f4.f1) ((rd_T31 t13 t16).f4.f2) a2_0 a2_1 a2_2 false _ A25.out).mono ?_
  rintro e w53 ⟨rfl,hb⟩
  have HS3_:=zh_ hb (hHeld.2.2.2.1)
  have HS4_:=zh_ hb (hHeld.2.2.2.2.1)
  have HS5_:=zh_ hb (hHeld.2.2.2.2.2.1)
  have HS6_:=zh_ hb (hHeld.2.2.2.2.2.2.1)
  have HS7_:=zh_ hb (hHeld.2.2.2.2.2.2.2.1)
  have HS8_:=zh_ hb (hHeld.2.2.2.2.2.2.2.2.1)
  have HS9_:=zh_ hb (hHeld.2.2.2.2.2.2.2.2.2.1)
  have HS10_:=zh_ hb (hHeld.2.2.2.2.2.2.2.2.2.2.1)
  have HS11_:=zh_ hb (hHeld.2.2.2.2.2.2.2.2.2.2.2.1)
  have HS12_:=zh_ hb (hHeld.2.2.2.2.2.2.2.2.2.2.2.2.1)
  have HS13_:=zh_ hb (hHeld.2.2.2.2.2.2.2.2.2.2.2.2.2.1)
  have HS14_:=zh_ hb (hHeld.2.2.2.2.2.2.2.2.2.2.2.2.2.2)
  refine ⟨_,rfl, ?_⟩
  replace HO15:=am_ (Kd.R_below (zr_ HO15) hb)
  replace BK1:=am_ (blk_below (zb_ BK1) hb)
  replace BK2:=am_ (blk_below (zb_ BK2) hb)
  replace HB:=am_ (below_step (zl2_ HB GE1 GE2) hb)
  (try clear hb)
  (try clear hb2)
  (try clear hk)
  (try clear hi)
  refine hK.out _ _ ⟨(blk_cell BK1.out 0).trans rfl,(blk_cell BK1.out 1).trans rfl,(blk_cell BK1.out 2).trans rfl,HS3_,HS4_,HS5_,HS6_,HS7_,HS8_,HS9_,HS10_,HS11_,HS12_,HS13_,HS14_⟩ (fun hHeld=> ?_)
  clear hK K
  refine no_ (N:=some 44) ?_
  refine pu_ (i:=7) (N:=some 45) (bt_ 9 255) HT_ ?_
  refine pu_ (i:=8) (N:=some 37) (bt_ 9 511) HT_ ?_
  refine done_ (done_of HT_.out (by kernel_rfl)) ?_
  try go_wp2_with (first|((with_reducible refine gate_callee (f:=113) rfl ?_);refine gl_ (some 46) Try.func113 #[.int .i64 12] ?_;(with_reducible refine (r10_no.calls 12 t27 t30 _ A44.out).mono ?_);rintro e w54 ⟨v28,rfl,ho0,hb⟩;refine ⟨_,rfl, ?_⟩;have HO29:=am_ (Kd.R_lower (Kd.R_new' ho0 (Kd.R_lt (zr_ HO15))) (below_size (zl2_ HB GE1 GE2)));replace HO15:=am_ (Kd.R_elder' (zr_ HO15) (Kd.R_base ho0) hb);replace BK1:=am_ (blk_below (zb_ BK1) hb);replace BK2:=am_ (blk_below (zb_ BK2) hb);replace HB:=am_ (below_step (zl2_ HB GE1 GE2) hb);(try clear hb);(try clear hb2);(try clear hk);(try clear hi);(try clear ho0);obtain ⟨Ao55,co55,eo55⟩:=Kd.R_slice HO29.out;subst eo55;obtain ⟨hcz56_0,hcz56_1⟩:=x2_ BK2;have hfz56_0:=blk_frozen BK2.out 0;have hfz56_1:=blk_frozen BK2.out 1))
  refine bodyPost_ret (results_cell_row rfl _ _ gb2 67 #[.slice Ao55 t27.length co55, .int .i64 t30] (0,0) _ rfl (zw_ BK2) Try.underlying67 rfl (by kernel_rfl)) rfl ?_
  exact ⟨_,by first|rfl|(simp [errW_none,errW_some]<;>rfl)|(simp [*,errW_none,errW_some]<;>rfl),zy_ HO29 BK2,zl2_ HB GE1 GE2⟩
 subst c26
 have H1:((some (t13.set (t16:Int).toNat (⟨(rd_T31 t13 t16).f0,(rd_T31 t13 t16).f1,(⟨a2_0,a2_1,a2_2⟩:S27),(⟨(rd_T31 t13 t16).f3.f0,(rd_T31 t13 t16).f3.f1,(rd_T31 t13 t16).f3.f2⟩:S27),(⟨(rd_T31 t13 t16).f4.f0,(rd_T31 t13 t16).f4.f1,(rd_T31 t13 t16).f4.f2⟩:S27),(rd_T31 t13 t16).f5⟩:S31):List (S31))).bind fun y24=>(some ((y24.set (t16:Int).toNat (⟨(rd_T31 y24 t16).f0,(rd_T31 y24 t16).f1,(⟨(rd_T31 y24 t16).f2.f0,(rd_T31 y24 t16).f2.f1,(rd_T31 y24 t16).f2.f2⟩:S27),(⟨(rd_T31 y24 t16).f3.f0,(rd_T31 y24 t16).f3.f1,(rd_T31 y24 t16).f3.f2⟩:S27),(⟨(rd_T31 y24 t16).f4.f0,(rd_T31 y24 t16).f4.f1,(rd_T31 y24 t16).f4.f2⟩:S27),wrap64 (((rd_T31 y24 t16).f5)+1)⟩:S31)),0)))=some (r1,r2):=by rw [if_pos rfl] at H;exact H
 clear H
 have H:=H1
 clear H1
 obtain ⟨y24,hy24⟩: ∃y_:List (S31),y_=(t13.set (t16:Int).toNat (⟨(rd_T31 t13 t16).f0,(rd_T31 t13 t16).f1,(⟨a2_0,a2_1,a2_2⟩:S27),(⟨(rd_T31 t13 t16).f3.f0,(rd_T31 t13 t16).f3.f1,(rd_T31 t13 t16).f3.f2⟩:S27),(⟨(rd_T31 t13 t16).f4.f0,(rd_T31 t13 t16).f4.f1,(rd_T31 t13 t16).f4.f2⟩:S27),(rd_T31 t13 t16).f5⟩:S31)):=⟨_,rfl⟩
 replace H:(some ((y24.set (t16:Int).toNat (⟨(rd_T31 y24 t16).f0,(rd_T31 y24 t16).f1,(⟨(rd_T31 y24 t16).f2.f0,(rd_T31 y24 t16).f2.f1,(rd_T31 y24 t16).f2.f2⟩:S27),(⟨(rd_T31 y24 t16).f3.f0,(rd_T31 y24 t16).f3.f1,(rd_T31 y24 t16).f3.f2⟩:S27),(⟨(rd_T31 y24 t16).f4.f0,(rd_T31 y24 t16).f4.f1,(rd_T31 y24 t16).f4.f2⟩:S27),wrap64 (((rd_T31 y24 t16).f5)+1)⟩:S31)),0))=some (r1,r2):=by first|(rw [hy24];with_reducible exact H)|(have H2_:=(Option.bind_some _ _).symm.trans H;rw [hy24];with_reducible exact H2_)|(have H2_:=(Option.bind_some _ _).symm.trans H;with_reducible exact H2_)|with_reducible exact H|(rw [hy24];exact H)|exact H
 have Ny24:=Aside0.mk hy24
 clear hy24
 obtain ⟨y26,hy26⟩: ∃y_:List (S31),y_=(y24.set (t16:Int).toNat (⟨(rd_T31 y24 t16).f0,(rd_T31 y24 t16).f1,(⟨(rd_T31 y24 t16).f2.f0,(rd_T31 y24 t16).f2.f1,(rd_T31 y24 t16).f2.f2⟩:S27),(⟨(rd_T31 y24 t16).f3.f0,(rd_T31 y24 t16).f3.f1,(rd_T31 y24 t16).f3.f2⟩:S27),(⟨(rd_T31 y24 t16).f4.f0,(rd_T31 y24 t16).f4.f1,(rd_T31 y24 t16).f4.f2⟩:S27),wrap64 (((rd_T31 y24 t16).f5)+1)⟩:S31)):=⟨_,rfl⟩
 replace H:(some (y26,0))=some (r1,r2):=by first|(rw [hy26];with_reducible exact H)|(have H2_:=(Option.bind_some _ _).symm.trans H;rw [hy26];with_reducible exact H2_)|(have H2_:=(Option.bind_some _ _).symm.trans H;with_reducible exact H2_)|with_reducible exact H|(rw [hy26];exact H)|exact H
 have Ny26:=Aside0.mk hy26
 clear hy26
 simp only [Option.some.injEq,Prod.mk.injEq] at H
 obtain ⟨rfl,rfl⟩:=H
 go_enter Try.func91,Try.ntmps91
 try go_wp2_with (first|((with_reducible refine gate_dst (N:=6) rfl ?_);refine bx_ (N:=6) (cs:=#[.int .i64 a2_0, .int .i64 a2_1, .int .i64 a2_2]) (t:=27) ?_;intro gb1 hg w29 hbox hb;have n0_:=am_ (below_step (zl0_ HB) hb);have n1_:=am_ (hbox);have n2_:=am_ ((zg0_ HB hg:w.heap.size≤gb1));have n3_:=am_ ((zg0_ HB hg:w.heap.size≤gb1));clear HB;have HB:=n0_;have BK1:=n1_;have GE1:=n3_;clear n0_ n1_ n2_ n3_;clear hb hbox hg)|((with_reducible refine gate_dst (N:=8) rfl ?_);refine bx_ (N:=8) (cs:=#[.slice none 0 0, .int .i64 0]) (t:=67) ?_;intro gb2 hg w30 hbox hb;have n0_:=am_ (blk_below (zb_ BK1) hb);have n1_:=am_ (below_step (zl1_ HB GE1) hb);have n2_:=am_ (hbox);have n3_:=am_ ((zg1_ HB GE1 hg:w.heap.size≤gb2));have n4_:=am_ ((zg1_ HB GE1 hg:w.heap.size≤gb2));have n5_:=am_ ((zn_ BK1 hg:gb1≠gb2));have n6_:=am_ ((zm_ BK1 hg:gb2≠gb1));clear BK1;clear HB;have BK1:=n0_;have HB:=n1_;have BK2:=n2_;have GE2:=n4_;clear n0_ n1_ n2_ n3_ n4_ n5_ n6_;clear hb hbox hg;obtain ⟨hcz32_0,hcz32_1,hcz32_2⟩:=x3_ BK1)|((with_reducible refine gate_callee (f:=65) rfl ?_);refine gl_ (some 13) Try.func65 #[.agg #[.int .i64 a2_0, .int .i64 a2_1, .int .i64 a2_2]] ?_;(with_reducible refine (r10_MayVec.calls a2_0 a2_1 a2_2 true _ A5.out).mono ?_);rintro e w33 ⟨rfl,hb⟩;refine ⟨_,rfl, ?_⟩;replace BK1:=am_ (blk_below (zb_ BK1) hb);replace BK2:=am_ (blk_below (zb_ BK2) hb);replace HB:=am_ (below_step (zl2_ HB GE1 GE2) hb);(try clear hb);(try clear hb2);(try clear hk);(try clear hi))|((with_reducible refine gate_callee (f:=147) rfl ?_);refine gl_ (some 19) Try.func147 #[.slice A0 l0.length c0, .string a1, .int .i64 a3] ?_;(with_reducible refine (r10_old.calls k _ _ l0 a1 a3 t8 _ ?side1 ?side2 A7.out).mono ?_);(case side1=>exact zc_ (Kd.C_below HR0.out HB.out));(case side2=>exact HC0.out);rintro e w' ⟨rfl,⟨nd,rfl⟩⟩;refine ⟨_,rfl, ?_⟩;(try (rw [drewN_self w33];generalize hq_:World.drewN w33 _=w33;have n0_:Aside0 (w33.heap[gb1]?=some (.cells #[.int .i64 a2_0, .int .i64 a2_1, .int .i64 a2_2] 27 (0,0))):=⟨by rw [←hq_];exact (zb_ BK1)⟩;have n1_:Aside0 (w33.heap[gb2]?=some (.cells #[.slice none 0 0, .int .i64 0] 67 (0,0))):=⟨by rw [←hq_];exact (zb_ BK2)⟩;have n2_:Aside0 (Below w.heap.size w w33):=⟨by rw [←hq_];exact (zl2_ HB GE1 GE2)⟩;clear BK1 BK2 HB hq_;have BK1:=n0_;have BK2:=n1_;have HB:=n2_;clear n0_ n1_ n2_)))|((with_reducible refine gate_callee (f:=124) rfl ?_);refine gl_ (some 25) Try.func124 #[.slice A0 l0.length c0] ?_;(with_reducible refine (r10_copied.calls _ _ l0 t13 _ ?side1 ?side2 A9.out).mono ?_);(case side1=>exact zc_ (Kd.C_below HR0.out HB.out));(case side2=>exact HC0.out);rintro e w34 ⟨v14,rfl,ho0,hb⟩;refine ⟨_,rfl, ?_⟩;have HO15:=am_ (Kd.R_lower ho0 (below_size (zl2_ HB GE1 GE2)));replace BK1:=am_ (blk_below (zb_ BK1) hb);replace BK2:=am_ (blk_below (zb_ BK2) hb);replace HB:=am_ (below_step (zl2_ HB GE1 GE2) hb);(try clear hb);(try clear hb2);(try clear hk);(try clear hi);(try clear ho0);obtain ⟨Ao35,co35,eo35⟩:=Kd.R_slice HO15.out;subst eo35)|((with_reducible refine gate_callee (f:=50) rfl ?_);refine gl_ (some 28) Try.func50 #[.slice Ao35 t13.length co35, .string a1] ?_;(with_reducible refine (r10_Find.calls k _ _ t13 a1 t16 _ ?side1 ?side2 A10.out).mono ?_);(case side1=>exact zc_ (Kd.R_reads' HO15.out).2.2);(case side2=>exact (Kd.R_reads' HO15.out).2.1);rintro e w' ⟨rfl,⟨nd,rfl⟩⟩;refine ⟨_,rfl, ?_⟩;(try (rw [drewN_self w34];generalize hq_:World.drewN w34 _=w34;have n0_:Aside0 (Kd.R k31 31 w34 w.heap.size (fun _=>True) (.slice Ao35 t13.length co35) t13):=⟨by rw [←hq_];exact (zr_ HO15)⟩;have n1_:Aside0 (w34.heap[gb1]?=some (.cells #[.int .i64 a2_0, .int .i64 a2_1, .int .i64 a2_2] 27 (0,0))):=⟨by rw [←hq_];exact (zb_ BK1)⟩;have n2_:Aside0 (w34.heap[gb2]?=some (.cells #[.slice none 0 0, .int .i64 0] 67 (0,0))):=⟨by rw [←hq_];exact (zb_ BK2)⟩;have n3_:Aside0 (Below w.heap.size w w34):=⟨by rw [←hq_];exact (zl2_ HB GE1 GE2)⟩;clear HO15 BK1 BK2 HB hq_;have HO15:=n0_;have BK1:=n1_;have BK2:=n2_;have HB:=n3_;clear n0_ n1_ n2_ n3_));have p17:0≤(t16:Int):=of_decide_eq_true zq_;have q17:t16<(t13.length:Int):=of_decide_eq_true zq_;obtain ⟨ad17,e17,hx17_0,hx17_1,hx17_2,hx17_3,hx17_4,hx17_5,hx17_6,hx17_7,hx17_8,hx17_9,hx17_10,hx17_11⟩:=at_T31 (Kd.R_reads' HO15.out).2.2 t16 p17 q17;cases e17;replace p17:=eq_true p17;replace q17:=eq_true q17))
 replace HO15:=am_ (Kd.R_drew HO15.out)
 replace BK1:=am_ (blk_drew BK1.out)
 replace BK2:=am_ (blk_drew BK2.out)
 replace HB:=am_ (below_drew1 HB.out)
 have p22:0≤(t16:Int):=of_decide_eq_true zq_
 have q22:t16<(t13.length:Int):=of_decide_eq_true zq_
 obtain ⟨ad22,e22,hx22_0,hx22_1,hx22_2,hx22_3,hx22_4,hx22_5,hx22_6,hx22_7,hx22_8,hx22_9,hx22_10,hx22_11⟩:=at_T31 (Kd.R_reads' HO15.out).2.2 t16 p22 q22
 obtain rfl:ad17=ad22:=(by injection e22)
 replace p22:=eq_true p22
 replace q22:=eq_true q22
 refine start_ (n:=9) (S:=fun w'=>w'.cell? ⟨gb1,0,none⟩=some (.int .i64 a2_0)∧w'.cell? ⟨gb1,1,none⟩=some (.int .i64 a2_1)∧w'.cell? ⟨gb1,2,none⟩=some (.int .i64 a2_2)∧w'.cell? (ad17.add ((t16).toNat*12))=some (.string ((rd_T31 t13 t16).f0))∧w'.cell? ⟨(ad17.add ((t16).toNat*12)).block,(ad17.add ((t16).toNat*12)).off+1,none⟩=some (.string ((rd_T31 t13 t16).f1))∧w'.cell? ⟨(ad17.add ((t16).toNat*12)).block,(ad17.add ((t16).toNat*12)).off+2,none⟩=some (.int .i64 ((rd_T31 t13 t16).f2.f0))∧w'.cell? ⟨(ad17.add ((t16).toNat*12)).block,(ad17.add ((t16).toNat*12)).off+3,none⟩=some (.int .i64 ((rd_T31 t13 t16).f2.f1))∧w'.cell? ⟨(ad17.add ((t16).toNat*12)).block,(ad17.add ((t16).toNat*12)).off+4,none⟩=some (.int .i64 ((rd_T31 t13 t16).f2.f2))∧w'.cell? ⟨(ad17.add ((t16).toNat*12)).block,(ad17.add ((t16).toNat*12)).off+5,none⟩=some (.int .i64 ((rd_T31 t13 t16).f3.f0))∧w'.cell? ⟨(ad17.add ((t16).toNat*12)).block,(ad17.add ((t16).toNat*12)).off+6,none⟩=some (.int .i64 ((rd_T31 t13 t16).f3.f1))∧w'.cell? ⟨(ad17.add ((t16).toNat*12)).block,(ad17.add ((t16).toNat*12)).off+7,none⟩=some (.int .i64 ((rd_T31 t13 t16).f3.f2))∧w'.cell? ⟨(ad17.add ((t16).toNat*12)).block,(ad17.add ((t16).toNat*12)).off+8,none⟩=some (.int .i64 ((rd_T31 t13 t16).f4.f0))∧w'.cell? ⟨(ad17.add ((t16).toNat*12)).block,(ad17.add ((t16).toNat*12)).off+9,none⟩=some (.int .i64 ((rd_T31 t13 t16).f4.f1))∧w'.cell? ⟨(ad17.add ((t16).toNat*12)).block,(ad17.add ((t16).toNat*12)).off+10,none⟩=some (.int .i64 ((rd_T31 t13 t16).f4.f2))∧w'.cell? ⟨(ad17.add ((t16).toNat*12)).block,(ad17.add ((t16).toNat*12)).off+11,none⟩=some (.int .i64 ((rd_T31 t13 t16).f5))) (ds:=[]) (bt_ 9 0) (by kernel_rfl) rfl rfl ⟨(blk_cell BK1.out 0).trans rfl,(blk_cell BK1.out 1).trans rfl,(blk_cell BK1.out 2).trans rfl,hx22_0,hx22_1,hx22_2,hx22_3,hx22_4,hx22_5,hx22_6,hx22_7,hx22_8,hx22_9,hx22_10,hx22_11⟩ (fun hHeld=> ?_);refine with_tabW r10_Limit.tab10 r10_Limit.bits10 (fun HT_ HW_=> ?_)
 generalize w34.drew=w36 at HO15 BK1 BK2 HB hx22_0 hx22_1 hx22_10 hx22_11 hx22_2 hx22_3 hx22_4 hx22_5 hx22_6 hx22_7 hx22_8 hx22_9 hHeld ⊢
 refine pu_ (i:=0) (N:=some 38) (bt_ 9 1) HT_ ?_
 refine pu_ (i:=1) (N:=some 39) (bt_ 9 3) HT_ ?_
 refine pu_ (i:=2) (N:=some 40) (bt_ 9 7) HT_ ?_
 refine pu_ (i:=3) (N:=some 41) (bt_ 9 15) HT_ ?_
 refine tk_ (i:=4) (N:=some 42) (bt_ 9 31) HT_ HW_ hHeld ?_
 refine tk_ (i:=5) (N:=some 43) (bt_ 9 63) HT_ HW_ hHeld ?_
 refine on_ (i:=6) (N:=some 44) (bt_ 9 127) HT_ (fun K hK=> ?_)
 refine gs_ Try.func34 #[.agg #[.int .i64 ((rd_T31 t13 t16).f4.f0), .int .i64 ((rd_T31 t13 t16).f4.f1), .int .i64 ((rd_T31 t13 t16).f4.f2)], .agg #[.int .i64 a2_0, .int .i64 a2_1, .int .i64 a2_2]] ?_
 with_reducible refine (r10_Le.calls ((rd_T31 t13 t16).f4.f0) ((rd_T31 t13 t16).f4.f1) ((rd_T31 t13 t16).f4.f2) a2_0 a2_1 a2_2 true _ A25.out).mono ?_
 rintro e w37 ⟨rfl,hb⟩
 have HS3_:=zh_ hb (hHeld.2.2.2.1)
 have HS4_:=zh_ hb (hHeld.2.2.2.2.1)
 have HS5_:=zh_ hb (hHeld.2.2.2.2.2.1)
 have HS6_:=zh_ hb (hHeld.2.2.2.2.2.2.1)
 have HS7_:=zh_ hb (hHeld.2.2.2.2.2.2.2.1)
 have HS8_:=zh_ hb (hHeld.2.2.2.2.2.2.2.2.1)
 have HS9_:=zh_ hb (hHeld.2.2.2.2.2.2.2.2.2.1)
 have HS10_:=zh_ hb (hHeld.2.2.2.2.2.2.2.2.2.2.1)
 have HS11_:=zh_ hb (hHeld.2.2.2.2.2.2.2.2.2.2.2.1)
 have HS12_:=zh_ hb (hHeld.2.2.2.2.2.2.2.2.2.2.2.2.1)
 have HS13_:=zh_ hb (hHeld.2.2.2.2.2.2.2.2.2.2.2.2.2.1)
 have HS14_:=zh_ hb (hHeld.2.2.2.2.2.2.2.2.2.2.2.2.2.2)
 refine ⟨_,rfl, ?_⟩
 replace HO15:=am_ (Kd.R_below (zr_ HO15) hb)
 replace BK1:=am_ (blk_below (zb_ BK1) hb)
 replace BK2:=am_ (blk_below (zb_ BK2) hb)
 replace HB:=am_ (below_step (zl2_ HB GE1 GE2) hb)
 (try clear hb)
 (try clear hb2)
 (try clear hk)
 (try clear hi)
 refine hK.out _ _ ⟨(blk_cell BK1.out 0).trans rfl,(blk_cell BK1.out 1).trans rfl,(blk_cell BK1.out 2).trans rfl,HS3_,HS4_,HS5_,HS6_,HS7_,HS8_,HS9_,HS10_,HS11_,HS12_,HS13_,HS14_⟩ (fun hHeld=> ?_)
 clear hK K
 refine no_ (N:=some 44) ?_
 refine pu_ (i:=7) (N:=some 45) (bt_ 9 255) HT_ ?_
 refine pu_ (i:=8) (N:=some 37) (bt_ 9 511) HT_ ?_
 refine done_ (done_of HT_.out (by kernel_rfl)) ?_
 obtain ⟨hcz38_0,hcz38_1,hcz38_2⟩:=x3_ BK1
 have p27:0≤(t16:Int):=of_decide_eq_true zq_
 have q27:(t16:Int)<((t13.length:Int):Int):=of_decide_eq_true zq_
 obtain ⟨go27,co27,eo27,gb27,gl27,cl27,HG27⟩:=Kd.R_form HO15.out (by omega)
 (first|cases eo27|(injection eo27 with ea_ en_ ec_;(first|subst ea_|(injection ea_ with ea_;subst ea_));subst ec_;clear en_))
 have GB27:=Aside0.mk gb27
 clear gb27 gl27 HG27
 replace hx17_0:=zv_ hx17_0
 replace hx17_1:=zv_ hx17_1
 replace hx17_2:=zv_ hx17_2
 replace hx17_3:=zv_ hx17_3
 replace hx17_4:=zv_ hx17_4
 replace hx17_5:=zv_ hx17_5
 replace hx17_6:=zv_ hx17_6
 replace hx17_7:=zv_ hx17_7
 replace hx17_8:=zv_ hx17_8
 replace hx17_9:=zv_ hx17_9
 replace hx17_10:=zv_ hx17_10
 replace hx17_11:=zv_ hx17_11
 replace hx22_0:=zv_ hx22_0
 replace hx22_1:=zv_ hx22_1
 replace hx22_2:=zv_ hx22_2
 replace hx22_3:=zv_ hx22_3
 replace hx22_4:=zv_ hx22_4
 replace hx22_5:=zv_ hx22_5
 replace hx22_6:=zv_ hx22_6
 replace hx22_7:=zv_ hx22_7
 replace hx22_8:=zv_ hx22_8
 replace hx22_9:=zv_ hx22_9
 replace hx22_10:=zv_ hx22_10
 replace hx22_11:=zv_ hx22_11
 obtain ⟨ce27,hcl27,hM27,hcc27,hfr27⟩:=Kd.R_elem HO15.out z31 (t16:Int) p27 q27
 obtain rfl:=k31_openM hM27
 have hx27_2:w37.cell? ⟨go27,(t16:Int).toNat*12+2,none⟩=some (.int .i64 ((rd_T31 t13 t16).f2.f0)):=hcc27 2 _ rfl
 have hx27_3:w37.cell? ⟨go27,(t16:Int).toNat*12+3,none⟩=some (.int .i64 ((rd_T31 t13 t16).f2.f1)):=hcc27 3 _ rfl
 have hx27_4:w37.cell? ⟨go27,(t16:Int).toNat*12+4,none⟩=some (.int .i64 ((rd_T31 t13 t16).f2.f2)):=hcc27 4 _ rfl
 have hf27_2:w37.frozen? ⟨go27,(t16:Int).toNat*12+2,none⟩=false:=hfr27 2
 have hf27_3:w37.frozen? ⟨go27,(t16:Int).toNat*12+3,none⟩=false:=hfr27 3
 have hf27_4:w37.frozen? ⟨go27,(t16:Int).toNat*12+4,none⟩=false:=hfr27 4
 clear hcl27 hcc27 hfr27 hM27
 replace p27:=eq_true p27
 replace q27:=eq_true q27
 have HX39:=am_ (show Kd.R k31 31 w37 w.heap.size (fun _=>True) (.slice (some ⟨go27,0,none⟩) t13.length co35) t13 from (zr_ HO15))
 obtain ⟨ce39,hcl39,hM39,hcc39,hfr39⟩:=Kd.R_elem HX39.out z31 (t16:Int) (of_decide_eq_true zq_) (by have h_:(t16:Int)<((t13.length:Int):Int):=of_decide_eq_true zq_;first|exact h_|(have e_:=(Kd.R_reads' HO15.out).1;omega)|simpa using h_)
 obtain rfl:=k31_openM hM39
 have HP39:=Kd.R_seg HX39.out (t16:Int) (of_decide_eq_true zq_) (by have h_:(t16:Int)<((t13.length:Int):Int):=of_decide_eq_true zq_;first|exact h_|(have e_:=(Kd.R_reads' HO15.out).1;omega)|simpa using h_) (seg:=[.int .i64 a2_0, .int .i64 a2_1, .int .i64 a2_2]) (j:=2) hcl39 hcc39 (show 5≤12 from by decide) (x':=(⟨(rd_T31 t13 t16).f0,(rd_T31 t13 t16).f1,(⟨a2_0,a2_1,a2_2⟩:S27),(⟨(rd_T31 t13 t16).f3.f0,(rd_T31 t13 t16).f3.f1,(rd_T31 t13 t16).f3.f2⟩:S27),(⟨(rd_T31 t13 t16).f4.f0,(rd_T31 t13 t16).f4.f1,(rd_T31 t13 t16).f4.f2⟩:S27),(rd_T31 t13 t16).f5⟩:S31)) (k31_mkM _ _ _ (⟨(rd_T31 t13 t16).f0,(rd_T31 t13 t16).f1,(⟨a2_0,a2_1,a2_2⟩:S27),(⟨(rd_T31 t13 t16).f3.f0,(rd_T31 t13 t16).f3.f1,(rd_T31 t13 t16).f3.f2⟩:S27),(⟨(rd_T31 t13 t16).f4.f0,(rd_T31 t13 t16).f4.f1,(rd_T31 t13 t16).f4.f2⟩:S27),(rd_T31 t13 t16).f5⟩:S31)) (fun _ hk=>hk)
 have hx39_2:=hcc39 2 _ rfl
 (try simp only [show (k31).sz=12 from rfl,Nat.mul_one,Nat.add_zero] at hx39_2)
 have hf39_2:=hfr39 2
 (try simp only [show (k31).sz=12 from rfl,Nat.mul_one,Nat.add_zero] at hf39_2)
 have hx39_3:=hcc39 3 _ rfl
 (try simp only [show (k31).sz=12 from rfl,Nat.mul_one,Nat.add_zero] at hx39_3)
 have hf39_3:=hfr39 3
 (try simp only [show (k31).sz=12 from rfl,Nat.mul_one,Nat.add_zero] at hf39_3)
 have hx39_4:=hcc39 4 _ rfl
 (try simp only [show (k31).sz=12 from rfl,Nat.mul_one,Nat.add_zero] at hx39_4)
 have hf39_4:=hfr39 4
 (try simp only [show (k31).sz=12 from rfl,Nat.mul_one,Nat.add_zero] at hf39_4)
 clear hcl39 hcc39 hfr39 hM39
 try go_wp2_with (first|((with_reducible refine gate_store (t:=27) (p:=51) rfl ?_);refine store_event (t:=27) (p:=51) (v:= ?vo_w40) (w1:=(((w37.setCell ⟨go27,(t16:Int).toNat*12+2,none⟩ (.int .i64 a2_0)).setCell ⟨go27,(t16:Int).toNat*12+3,none⟩ (.int .i64 a2_1)).setCell ⟨go27,(t16:Int).toNat*12+4,none⟩ (.int .i64 a2_2))) ?hg ?ho ?hn ?hr ?_;(case ho=>rfl);(case hg=>rfl);(case hn=>rfl);(case hr=>first|(go_simp;done)|(go_simp;rfl));intro w40 hw;have hg:w37.grownBy w40 (some go27):=(by rw [hw];exact HP39.2);have hp_:Kd.R k31 31 w40 w.heap.size (fun _=>True) (.slice (some ⟨go27,0,none⟩) t13.length co35) y24:=(by rw [hw,Ny24.out];exact HP39.1);clear HP39;replace BK1:=am_ (blk_grown (zb_ BK1) hg (Kd.R_ne HO15.out BK1.out (by decide)));replace BK2:=am_ (blk_grown (zb_ BK2) hg (Kd.R_ne HO15.out BK2.out (by decide)));replace HO15:=am_ (hp_);replace HB:=am_ ((by rw [hw];exact below_set (below_set (below_set (HB.out) GB27.out) GB27.out) GB27.out:Below w.heap.size w w40));clear hg hw hp_;have p25:0≤(t16:Int):=of_decide_eq_true zq_;have q25:t16<(y24.length:Int):=(by have h_:(t16:Int)<((t13.length:Int):Int):=of_decide_eq_true zq_;first|(have e_:=(Kd.R_reads' HO15.out).1;omega)|simpa only [Ny24.out,List.length_set] using h_);obtain ⟨ad25,e25,hx25_0,hx25_1,hx25_2,hx25_3,hx25_4,hx25_5,hx25_6,hx25_7,hx25_8,hx25_9,hx25_10,hx25_11⟩:=at_T31 (Kd.R_reads' HO15.out).2.2 t16 p25 q25;obtain rfl:(⟨go27,0,none⟩:Addr)=ad25:=(by injection e25);replace hx25_0:=za_ hx25_0;replace hx25_1:=za_ hx25_1;replace hx25_2:=za_ hx25_2;replace hx25_3:=za_ hx25_3;replace hx25_4:=za_ hx25_4;replace hx25_5:=za_ hx25_5;replace hx25_6:=za_ hx25_6;replace hx25_7:=za_ hx25_7;replace hx25_8:=za_ hx25_8;replace hx25_9:=za_ hx25_9;replace hx25_10:=za_ hx25_10;replace hx25_11:=za_ hx25_11;replace p25:=eq_true p25;replace q25:=eq_true q25;have p28:0≤(t16:Int):=of_decide_eq_true zq_;have q28:(t16:Int)<((t13.length:Int):Int):=of_decide_eq_true zq_;obtain ⟨ce28,hcl28,hM28,hcc28,hfr28⟩:=Kd.R_elem HO15.out z31 (t16:Int) p28 q28;obtain rfl:=k31_openM hM28;have hf28_11:w40.frozen? ⟨go27,(t16:Int).toNat*12+11,none⟩=false:=hfr28 11;clear hcl28 hcc28 hfr28 hM28;replace p28:=eq_true p28;replace q28:=eq_true q28;have HX41:=am_ (show Kd.R k31 31 w40 w.heap.size (fun _=>True) (.slice (some ⟨go27,0,none⟩) t13.length co35) y24 from (zr_ HO15));obtain ⟨ce41,hcl41,hM41,hcc41,hfr41⟩:=Kd.R_elem HX41.out z31 (t16:Int) (of_decide_eq_true zq_) (by have h_:(t16:Int)<((t13.length:Int):Int):=of_decide_eq_true zq_;first|exact h_|(have e_:=(Kd.R_reads' HO15.out).1;omega)|simpa using h_);obtain rfl:=k31_openM hM41;have HP41:=Kd.R_seg HX41.out (t16:Int) (of_decide_eq_true zq_) (by have h_:(t16:Int)<((t13.length:Int):Int):=of_decide_eq_true zq_;first|exact h_|(have e_:=(Kd.R_reads' HO15.out).1;omega)|simpa using h_) (seg:=[.int .i64 (wrap64 (((rd_T31 y24 t16).f5)+1))]) (j:=11) hcl41 hcc41 (show 12≤12 from by decide) (x':=(⟨(rd_T31 y24 t16).f0,(rd_T31 y24 t16).f1,(⟨(rd_T31 y24 t16).f2.f0,(rd_T31 y24 t16).f2.f1,(rd_T31 y24 t16).f2.f2⟩:S27),(⟨(rd_T31 y24 t16).f3.f0,(rd_T31 y24 t16).f3.f1,(rd_T31 y24 t16).f3.f2⟩:S27),(⟨(rd_T31 y24 t16).f4.f0,(rd_T31 y24 t16).f4.f1,(rd_T31 y24 t16).f4.f2⟩:S27),wrap64 (((rd_T31 y24 t16).f5)+1)⟩:S31)) (k31_mkM _ _ _ (⟨(rd_T31 y24 t16).f0,(rd_T31 y24 t16).f1,(⟨(rd_T31 y24 t16).f2.f0,(rd_T31 y24 t16).f2.f1,(rd_T31 y24 t16).f2.f2⟩:S27),(⟨(rd_T31 y24 t16).f3.f0,(rd_T31 y24 t16).f3.f1,(rd_T31 y24 t16).f3.f2⟩:S27),(⟨(rd_T31 y24 t16).f4.f0,(rd_T31 y24 t16).f4.f1,(rd_T31 y24 t16).f4.f2⟩:S27),wrap64 (((rd_T31 y24 t16).f5)+1)⟩:S31)) (fun _ hk=>hk);have hx41_11:=hcc41 11 _ rfl;(try simp only [show (k31).sz=12 from rfl,Nat.mul_one,Nat.add_zero] at hx41_11);have hf41_11:=hfr41 11;(try simp only [show (k31).sz=12 from rfl,Nat.mul_one,Nat.add_zero] at hf41_11);clear hcl41 hcc41 hfr41 hM41)|((with_reducible refine gate_store (t:=3) (p:=59) rfl ?_);refine store_event (t:=3) (p:=59) (v:= ?vo_w42) (w1:=(w40.setCell ⟨go27,(t16:Int).toNat*12+11,none⟩ (.int .i64 (wrap64 (((rd_T31 y24 t16).f5)+1))))) ?hg ?ho ?hn ?hr ?_;(case ho=>rfl);(case hg=>rfl);(case hn=>rfl);(case hr=>first|(go_simp;done)|(go_simp;rfl));intro w42 hw;have hg:w40.grownBy w42 (some go27):=(by rw [hw];exact HP41.2);have hp_:Kd.R k31 31 w42 w.heap.size (fun _=>True) (.slice (some ⟨go27,0,none⟩) t13.length co35) y26:=(by rw [hw,Ny26.out];exact HP41.1);clear HP41;replace BK1:=am_ (blk_grown (zb_ BK1) hg (Kd.R_ne HO15.out BK1.out (by decide)));replace BK2:=am_ (blk_grown (zb_ BK2) hg (Kd.R_ne HO15.out BK2.out (by decide)));replace HO15:=am_ (hp_);replace HB:=am_ ((by rw [hw];exact below_set (HB.out) GB27.out:Below w.heap.size w w42));clear hg hw hp_;obtain ⟨hcz43_0,hcz43_1⟩:=x2_ BK2;have hfz43_0:=blk_frozen BK2.out 0;have hfz43_1:=blk_frozen BK2.out 1))
 refine bodyPost_ret (results_cell_row rfl _ _ gb2 67 #[.slice (some ⟨go27,0,none⟩) t13.length co35, .int .i64 0] (0,0) _ rfl (zw_ BK2) Try.underlying67 rfl (by kernel_rfl)) rfl ?_
 exact ⟨_,by first|rfl|(simp [errW_none,errW_some]<;>rfl)|(simp [*,errW_none,errW_some]<;>rfl),zy_ HO15 BK2,zl2_ HB GE1 GE2⟩
def r10_Sub.f (a0_0:Int) (a0_1:Int) (a0_2:Int) (a1_0:Int) (a1_1:Int) (a1_2:Int):Option (Int×Int×Int):=some (wrap64 (a0_0 - a1_0),wrap64 (a0_1 - a1_1),wrap64 (a0_2 - a1_2))
set_option maxHeartbeats 8000000 in
set_option maxRecDepth 100000 in
theorem r10_Sub.calls (a0_0:Int) (a0_1:Int) (a0_2:Int) (a1_0:Int) (a1_1:Int) (a1_2:Int) (r1:Int) (r2:Int) (r3:Int) (w:World) (h:r10_Sub.f a0_0 a0_1 a0_2 a1_0 a1_1 a1_2=some (r1,r2,r3)):
  Calls Try.prog 35 #[.agg #[.int .i64 a0_0, .int .i64 a0_1, .int .i64 a0_2], .agg #[.int .i64 a1_0, .int .i64 a1_1, .int .i64 a1_2]] w fun e w'=>e= .returned (.agg #[.int .i64 r1, .int .i64 r2, .int .i64 r3])∧Below w.heap.size w w':=by
 have hu27:=Try.underlying27
 have HB:=am_ (Below.refl w.heap.size w)
 have H:(some (wrap64 (a0_0 - a1_0),wrap64 (a0_1 - a1_1),wrap64 (a0_2 - a1_2)))=some (r1,r2,r3):=h
 clear h
 simp only [Option.some.injEq,Prod.mk.injEq] at H
 obtain ⟨rfl,rfl,rfl⟩:=H
 go_enter Try.func35,Try.ntmps35
 go_wp2_with (first|((with_reducible refine gate_dst (N:=2) rfl ?_);refine bx_ (N:=2) (cs:=#[.int .i64 a0_0, .int .i64 a0_1, .int .i64 a0_2]) (t:=27) ?_;intro gb1 hg w3 hbox hb;have BK1:=am_ (hbox);have GW1:=am_ ((zg0_ HB hg:w.heap.size≤gb1));have GE1:=am_ ((zg0_ HB hg:w.heap.size≤gb1));replace HB:=am_ (below_step (zl0_ HB) hb);clear hb hbox hg)|((with_reducible refine gate_dst (N:=3) rfl ?_);refine bx_ (N:=3) (cs:=#[.int .i64 a1_0, .int .i64 a1_1, .int .i64 a1_2]) (t:=27) ?_;intro gb2 hg w4 hbox hb;have BK2:=am_ (hbox);have GW2:=am_ ((zg1_ HB GE1 hg:w.heap.size≤gb2));have GE2:=am_ ((zg1_ HB GE1 hg:w.heap.size≤gb2));replace HB:=am_ (below_step (zl1_ HB GE1) hb);have NB1_2:=am_ ((zn_ BK1 hg:gb1≠gb2));have NB2_1:=am_ ((zm_ BK1 hg:gb2≠gb1));replace BK1:=am_ (blk_below (zb_ BK1) hb);clear hb hbox hg)|((with_reducible refine gate_dst (N:=4) rfl ?_);refine bx_ (N:=4) (cs:=#[.int .i64 0, .int .i64 0, .int .i64 0]) (t:=27) ?_;intro gb3 hg w5 hbox hb;have BK3:=am_ (hbox);have GW3:=am_ ((zg2_ HB GE1 GE2 hg:w.heap.size≤gb3));have GE3:=am_ ((zg2_ HB GE1 GE2 hg:w.heap.size≤gb3));replace HB:=am_ (below_step (zl2_ HB GE1 GE2) hb);have NB1_3:=am_ ((zn_ BK1 hg:gb1≠gb3));have NB3_1:=am_ ((zm_ BK1 hg:gb3≠gb1));replace BK1:=am_ (blk_below (zb_ BK1) hb);have NB2_3:=am_ ((zn_ BK2 hg:gb2≠gb3));have NB3_2:=am_ ((zm_ BK2 hg:gb3≠gb2));replace BK2:=am_ (blk_below (zb_ BK2) hb);clear hb hbox hg;have hnb6:=NB1_2.out;have hnc6:=NB2_1.out;have hnb7:=NB1_3.out;have hnc7:=NB3_1.out;obtain ⟨hcz8_0,hcz8_1,hcz8_2,hfz8_0,hfz8_1,hfz8_2⟩:=y3_ BK1;have hnb9:=NB2_3.out;have hnc9:=NB3_2.out;obtain ⟨hcz10_0,hcz10_1,hcz10_2,hfz10_0,hfz10_1,hfz10_2⟩:=y3_ BK2;obtain ⟨hcz11_0,hcz11_1,hcz11_2⟩:=x3_ BK3;have hfz11_0:=blk_frozen BK3.out 0;have hfz11_1:=blk_frozen BK3.out 1;have hfz11_2:=blk_frozen BK3.out 2))
 refine bodyPost_ret (results_cell_row rfl _ _ gb3 27 #[.int .i64 (wrap64 (a0_0 - a1_0)), .int .i64 (wrap64 (a0_1 - a1_1)), .int .i64 (wrap64 (a0_2 - a1_2))] (0,0) _ rfl (zw_ BK3) Try.underlying27 rfl (by kernel_rfl)) rfl ?_
 exact ⟨by first|rfl|(simp [errW_none,errW_some]<;>rfl)|(simp [*,errW_none,errW_some]<;>rfl),zl3_ HB GE1 GE2 GE3⟩

def r10_in.l0:Nat→List ByteArray→ByteArray→Int→Option (Bool)
 |0,_,_,_=>none
 |k+1,x0,x1,x5=>if x5<(x0.length:Int) then (if 0≤x5 then (if (rdOf ByteArray.empty x0 x5).toList=x1.toList then (some true) else (r10_in.l0 k x0 x1 (wrap64 (x5+1)))) else (none)) else (some false)
def r10_in.f (k:Nat) (l0:List ByteArray) (a1:ByteArray):Option (Bool):=r10_in.l0 k l0 a1 0
theorem r10_in.mono_l: ∀k,(∀y0 y1 y2,LeO (r10_in.l0 k y0 y1 y2) (r10_in.l0 (k+1) y0 y1 y2))
 |0=>fun _ _ _ r h=>by simp [r10_in.l0] at h
 |k+1=>by
  have ih0:=r10_in.mono_l k
  intro y0 y1 y2
  unfold r10_in.l0
  repeat' first
  |(with_reducible exact ih0 _ _ _)
  |(with_reducible exact LeO.refl _)
  |(with_reducible exact LeO.none _)
  |(with_reducible refine LeO.ite ?_ ?_)
  |(with_reducible refine LeO.bind ?_ (fun _=> ?_))
  |exact ih0 _ _ _
  |exact LeO.none _
  |refine LeO.ite ?_ ?_
  |refine LeO.bind ?_ (fun _=> ?_)
theorem r10_in.mono: ∀a0 a1 k,LeO (r10_in.f k a0 a1) (r10_in.f (k+1) a0 a1):=by
 intro a0 a1 k
 have ih0:=r10_in.mono_l k
 unfold r10_in.f
 repeat' first
  |(with_reducible exact ih0 _ _ _)
  |(with_reducible exact LeO.refl _)
  |(with_reducible exact LeO.none _)
  |(with_reducible refine LeO.ite ?_ ?_)
  |(with_reducible refine LeO.bind ?_ (fun _=> ?_))
  |exact ih0 _ _ _
  |exact LeO.none _
  |refine LeO.ite ?_ ?_
  |refine LeO.bind ?_ (fun _=> ?_)
set_option maxHeartbeats 8000000 in
set_option maxRecDepth 100000 in
theorem r10_in.calls (k:Nat) (A0:Option Addr) (c0:Nat) (l0:List ByteArray) (a1:ByteArray) (r:Bool) (w:World) (hr0:Kd.C Kd.string w A0 l0.length l0) (hc0:l0.length≤c0) (h:r10_in.f k l0 a1=some r):
  Calls Try.prog 136 #[.slice A0 l0.length c0, .string a1] w fun e w'=>e= .returned (.bool r)∧Drawn0 w w':=by
 have HR0:=Aside0.mk hr0
 have HC0:=Aside0.mk hc0
 clear hr0 hc0
 have H:(r10_in.l0 k l0 a1 0)=some r:=h
 clear h
 have H':=Aside0.mk H
 clear H
 go_enter Try.func136,Try.ntmps136
 go_wp2
 go_loopg [5] k (fun kq v5 w'=> ∃(x5_1:Int),v5= .int .i64 x5_1∧Aside0 (r10_in.l0 kq l0 a1 x5_1=some r)∧Aside0 (kq≤k)∧Drawn0 w w')
 case atStart=>exact ⟨(0),(by first|rfl|(simp;done)|(simp [*];done)),H',⟨Nat.le_refl _⟩,by repeat (first|exact Drawn0.refl _|apply Drawn0.step)⟩
 case round=>
  clear H'
  try clear c1
  try clear p2
  obtain ⟨x5_1,rfl,HA,HK1,⟨m1,rfl⟩⟩:=hrel
  cases gk with
  |zero=>exact absurd HA.out (by simp [r10_in.l0])
  |succ k1=>
   have H:=HA.out
   clear HA
   simp only [r10_in.l0] at H
   by_cases c3:x5_1<(l0.length:Int)
   rotate_left
   ·rw [if_neg c3] at H
    have c3b0:decide (x5_1<(l0.length:Int))=false:=decide_eq_false c3
    clear c3
    obtain rfl:=Option.some.inj H
    go_wp2
    go_ret
    exact ⟨by first|rfl|(simp;done)|(simp [*];done),by repeat (first|exact Drawn0.refl _|apply Drawn0.step)⟩

   rw [if_pos c3] at H
   have c3b0:decide (x5_1<(l0.length:Int))=true:=decide_eq_true c3
   clear c3
   by_cases c4:0≤x5_1
   rotate_left
   ·rw [if_neg c4] at H
    exact absurd H (by simp)
   rw [if_pos c4] at H
   have c4b0:decide (0≤x5_1)=true:=decide_eq_true c4
   clear c4
   by_cases c5:(rdOf ByteArray.empty l0 x5_1).toList=a1.toList
   ·rw [if_pos c5] at H
    have c5b0:((rdOf ByteArray.empty l0 x5_1).toList==a1.toList)=true:=beq_iff_eq.mpr c5
    have c5b1:((rdOf ByteArray.empty l0 x5_1).toList !=a1.toList)=false:=bne_eq_false_iff_eq.mpr c5
    clear c5
    obtain rfl:=Option.some.inj H
    have p1:0≤(x5_1:Int):=of_decide_eq_true zq_
    have q1:x5_1<(l0.length:Int):=of_decide_eq_true zq_
    obtain ⟨ad1,e1,hx1_0⟩:=Kd.at_string HR0.out x5_1 p1 q1
    cases e1
    replace p1:=eq_true p1
    replace q1:=eq_true q1
    go_wp2
    go_ret
    exact ⟨by first|rfl|(simp;done)|(simp [*];done),by repeat (first|exact Drawn0.refl _|apply Drawn0.step)⟩
   rw [if_neg c5] at H
   have c5b0:((rdOf ByteArray.empty l0 x5_1).toList==a1.toList)=false:=beq_eq_false_iff_ne.mpr c5
   have c5b1:((rdOf ByteArray.empty l0 x5_1).toList !=a1.toList)=true:=bne_iff_ne.mpr c5
   have H':=Aside0.mk H
   clear H
   have p1:0≤(x5_1:Int):=of_decide_eq_true zq_
   have q1:x5_1<(l0.length:Int):=of_decide_eq_true zq_
   obtain ⟨ad1,e1,hx1_0⟩:=Kd.at_string HR0.out x5_1 p1 q1
   cases e1
   replace p1:=eq_true p1
   replace q1:=eq_true q1
   go_wp2
   go_roundg k1
   case measure=>have:=HK1.out;omega
   case rel=>exact ⟨(wrap64 (x5_1+1)),(by first|rfl|(simp;done)|(simp [*];done)),H',⟨by have:=HK1.out;omega⟩,by repeat (first|exact Drawn0.refl _|apply Drawn0.step)⟩
end Go.Proofs.Ytcgefpklljclgaa.Print
