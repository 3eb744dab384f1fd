/- A part of the proof of TreeSums: the machine's side by the kit's print, contracts and lemmas by this session. -/
import Derived.Test.YtcgefpklljclgaaBTreeSums1
import Derived.Test.YtcgefpklljclgaaBTreeSums2
import Derived.Test.YtcgefpklljclgaaBTreeSums3
namespace Go.Proofs.Ytcgefpklljclgaa.Print
open Go.RowKit Go.Proofs.YtcgefpklljclgaaW.PrintWords Go.Proofs.YtcgefpklljclgaaW.PrintLast Go.Proofs.YtcgefpklljclgaaW.PrintMore
attribute [local go_sem] max2_int min2_int max_two min_two max_three min_three max_four min_four   -- for this text's walks alone
set_option linter.unusedVariables false
set_option linter.unusedSimpArgs false
mutual
def law12_Make.l0 : Nat → List Int → List (S31) → Int → Option ((List (S31)))
 | 0, _, _, _ => none
 | k + 1, x0, x3, x4 => if (wrap64 (x4 + 2)) < (x0.length : Int) then (law12_Make.j1 k x0 x3 x4 (decide ((x3.length : Int) < 24))) else (law12_Make.j1 k x0 x3 x4 false)
def law12_Make.j1 : Nat → List Int → List (S31) → Int → Bool → Option ((List (S31)))
 | 0, _, _, _, _ => none
 | k + 1, x0, x3, x4, x21 => if x21 = true then (if 0 ≤ x4 then (if x4 < (x0.length : Int) then (if (x3.length : Int) > 0 then (law12_Make.j2 k x0 x3 x4 (wrap64 (rd x0 x4)) (⟨#[]⟩ : ByteArray) (decide ((Int.tmod (wrap64 (rd x0 x4)) 3) > 0))) else (law12_Make.j2 k x0 x3 x4 (wrap64 (rd x0 x4)) (⟨#[]⟩ : ByteArray) false)) else (none)) else (none)) else (some x3)
def law12_Make.j2 : Nat → List Int → List (S31) → Int → Int → ByteArray → Bool → Option ((List (S31)))
 | 0, _, _, _, _, _, _ => none
 | k + 1, x0, x3, x4, x5, x6, x36 => if x36 = true then (if (x3.length : Int) = 0 then (none) else (if 0 ≤ (Int.tmod (wrap64 (Int.tdiv x5 3)) (x3.length : Int)) then (if (Int.tmod (wrap64 (Int.tdiv x5 3)) (x3.length : Int)) < (x3.length : Int) then (law12_Make.j3 k x0 x3 x4 ((rd_T31 x3 (Int.tmod (wrap64 (Int.tdiv x5 3)) (x3.length : Int))).f0)) else (none)) else (none))) else (law12_Make.j3 k x0 x3 x4 x6)
def law12_Make.j3 : Nat → List Int → List (S31) → Int → ByteArray → Option ((List (S31)))
 | 0, _, _, _, _ => none
 | k + 1, x0, x3, x4, x6 => if 0 ≤ (wrap64 (x4 + 1)) then (if (wrap64 (x4 + 1)) < (x0.length : Int) then ((r10_Create.f k x3 (strOfNums (([(wrap64 (97 + (Int.tmod (wrap64 ((x3.length : Int) * 5)) 24))) % 256] : List Int))) x6 (wrap64 (20 + (wrap64 (rd x0 (wrap64 (x4 + 1)))))) (wrap64 (20 + (wrap64 (rd x0 (wrap64 (x4 + 1)))))) (wrap64 (20 + (wrap64 (rd x0 (wrap64 (x4 + 1))))))).bind fun bt7 => (if bt7.2 = 0 then (if 0 ≤ (wrap64 (x4 + 2)) then (if (wrap64 (x4 + 2)) < (x0.length : Int) then (if (bt7.1.length : Int) = 0 then (none) else (if 0 ≤ (Int.tmod (wrap64 (Int.tdiv (wrap64 (rd x0 (wrap64 (x4 + 2)))) 16)) (bt7.1.length : Int)) then (if (Int.tmod (wrap64 (Int.tdiv (wrap64 (rd x0 (wrap64 (x4 + 2)))) 16)) (bt7.1.length : Int)) < (bt7.1.length : Int) then ((r10_Admit.f k bt7.1 ((rd_T31 bt7.1 (Int.tmod (wrap64 (Int.tdiv (wrap64 (rd x0 (wrap64 (x4 + 2)))) 16)) (bt7.1.length : Int))).f0) (Int.tmod (wrap64 (rd x0 (wrap64 (x4 + 2)))) 16) (wrap64 (Int.tdiv (Int.tmod (wrap64 (rd x0 (wrap64 (x4 + 2)))) 16) 2)) (Int.tmod (Int.tmod (wrap64 (rd x0 (wrap64 (x4 + 2)))) 16) 3)).bind fun bt15 => (if bt15.2 = 0 then (law12_Make.l0 k x0 bt15.1 (wrap64 (x4 + 3))) else (law12_Make.l0 k x0 bt7.1 (wrap64 (x4 + 3))))) else (none)) else (none))) else (none)) else (none)) else (law12_Make.l0 k x0 x3 (wrap64 (x4 + 3))))) else (none)) else (none)
end
def law12_Make.f (k : Nat) (l0 : List Int) : Option ((List (S31))) := law12_Make.l0 k l0 ([] : List (S31)) 0
theorem law12_Make.mono_l : ∀ k, (∀ y0 y1 y2, LeO (law12_Make.l0 k y0 y1 y2) (law12_Make.l0 (k + 1) y0 y1 y2)) ∧ (∀ y0 y1 y2 y3, LeO (law12_Make.j1 k y0 y1 y2 y3) (law12_Make.j1 (k + 1) y0 y1 y2 y3)) ∧ (∀ y0 y1 y2 y3 y4 y5, LeO (law12_Make.j2 k y0 y1 y2 y3 y4 y5) (law12_Make.j2 (k + 1) y0 y1 y2 y3 y4 y5)) ∧ (∀ y0 y1 y2 y3, LeO (law12_Make.j3 k y0 y1 y2 y3) (law12_Make.j3 (k + 1) y0 y1 y2 y3))
 | 0 => ⟨fun _ _ _ r h => by simp [law12_Make.l0] at h, fun _ _ _ _ r h => by simp [law12_Make.j1] at h, fun _ _ _ _ _ _ r h => by simp [law12_Make.j2] at h, fun _ _ _ _ r h => by simp [law12_Make.j3] at h⟩
 | k + 1 => by
  obtain ⟨ih0, ih1, ih2, ih3⟩ := law12_Make.mono_l k
  refine ⟨?_, ?_, ?_, ?_⟩
  ·intro y0 y1 y2
   unfold law12_Make.l0
   repeat' first
   | (with_reducible exact ih0 _ _ _)
   | (with_reducible exact ih1 _ _ _ _)
   | (with_reducible exact ih2 _ _ _ _ _ _)
   | (with_reducible exact ih3 _ _ _ _)
   | (with_reducible exact r10_Admit.mono _ _ _ _ _ _)
   | (with_reducible exact r10_Create.mono _ _ _ _ _ _ _)
   | (with_reducible exact LeO.refl _)
   | (with_reducible exact LeO.none _)
   | (with_reducible refine LeO.ite ?_ ?_)
   | (with_reducible refine LeO.bind ?_ (fun _ => ?_))
   | exact ih0 _ _ _
   | exact ih1 _ _ _ _
   | exact ih2 _ _ _ _ _ _
   | exact ih3 _ _ _ _
   | exact r10_Admit.mono _ _ _ _ _ _
   | exact r10_Create.mono _ _ _ _ _ _ _
   | exact LeO.none _
   | refine LeO.ite ?_ ?_
   | refine LeO.bind ?_ (fun _ => ?_)
  ·intro y0 y1 y2 y3
   unfold law12_Make.j1
   repeat' first
   | (with_reducible exact ih0 _ _ _)
   | (with_reducible exact ih1 _ _ _ _)
   | (with_reducible exact ih2 _ _ _ _ _ _)
   | (with_reducible exact ih3 _ _ _ _)
   | (with_reducible exact r10_Admit.mono _ _ _ _ _ _)
   | (with_reducible exact r10_Create.mono _ _ _ _ _ _ _)
   | (with_reducible exact LeO.refl _)
   | (with_reducible exact LeO.none _)
   | (with_reducible refine LeO.ite ?_ ?_)
   | (with_reducible refine LeO.bind ?_ (fun _ => ?_))
   | exact ih0 _ _ _
   | exact ih1 _ _ _ _
   | exact ih2 _ _ _ _ _ _
   | exact ih3 _ _ _ _
   | exact r10_Admit.mono _ _ _ _ _ _
   | exact r10_Create.mono _ _ _ _ _ _ _
   | exact LeO.none _
   | refine LeO.ite ?_ ?_
   | refine LeO.bind ?_ (fun _ => ?_)
  ·intro y0 y1 y2 y3 y4 y5
   unfold law12_Make.j2
   repeat' first
   | (with_reducible exact ih0 _ _ _)
   | (with_reducible exact ih1 _ _ _ _)
   | (with_reducible exact ih2 _ _ _ _ _ _)
   | (with_reducible exact ih3 _ _ _ _)
   | (with_reducible exact r10_Admit.mono _ _ _ _ _ _)
   | (with_reducible exact r10_Create.mono _ _ _ _ _ _ _)
   | (with_reducible exact LeO.refl _)
   | (with_reducible exact LeO.none _)
   | (with_reducible refine LeO.ite ?_ ?_)
   | (with_reducible refine LeO.bind ?_ (fun _ => ?_))
   | exact ih0 _ _ _
   | exact ih1 _ _ _ _
   | exact ih2 _ _ _ _ _ _
   | exact ih3 _ _ _ _
   | exact r10_Admit.mono _ _ _ _ _ _
   | exact r10_Create.mono _ _ _ _ _ _ _
   | exact LeO.none _
   | refine LeO.ite ?_ ?_
   | refine LeO.bind ?_ (fun _ => ?_)
  ·intro y0 y1 y2 y3
   unfold law12_Make.j3
   repeat' first
   | (with_reducible exact ih0 _ _ _)
   | (with_reducible exact ih1 _ _ _ _)
   | (with_reducible exact ih2 _ _ _ _ _ _)
   | (with_reducible exact ih3 _ _ _ _)
   | (with_reducible exact r10_Admit.mono _ _ _ _ _ _)
   | (with_reducible exact r10_Create.mono _ _ _ _ _ _ _)
   | (with_reducible exact LeO.refl _)
   | (with_reducible exact LeO.none _)
   | (with_reducible refine LeO.ite ?_ ?_)
   | (with_reducible refine LeO.bind ?_ (fun _ => ?_))
   | exact ih0 _ _ _
   | exact ih1 _ _ _ _
   | exact ih2 _ _ _ _ _ _
   | exact ih3 _ _ _ _
   | exact r10_Admit.mono _ _ _ _ _ _
   | exact r10_Create.mono _ _ _ _ _ _ _
   | exact LeO.none _
   | refine LeO.ite ?_ ?_
   | refine LeO.bind ?_ (fun _ => ?_)
theorem law12_Make.mono : ∀ a0 k, LeO (law12_Make.f k a0) (law12_Make.f (k + 1) a0) := by
 intro a0 k
 obtain ⟨ih0, ih1, ih2, ih3⟩ := law12_Make.mono_l k
 unfold law12_Make.f
 repeat' first
   | (with_reducible exact ih0 _ _ _)
   | (with_reducible exact ih1 _ _ _ _)
   | (with_reducible exact ih2 _ _ _ _ _ _)
   | (with_reducible exact ih3 _ _ _ _)
   | (with_reducible exact r10_Admit.mono _ _ _ _ _ _)
   | (with_reducible exact r10_Create.mono _ _ _ _ _ _ _)
   | (with_reducible exact LeO.refl _)
   | (with_reducible exact LeO.none _)
   | (with_reducible refine LeO.ite ?_ ?_)
   | (with_reducible refine LeO.bind ?_ (fun _ => ?_))
   | exact ih0 _ _ _
   | exact ih1 _ _ _ _
   | exact ih2 _ _ _ _ _ _
   | exact ih3 _ _ _ _
   | exact r10_Admit.mono _ _ _ _ _ _
   | exact r10_Create.mono _ _ _ _ _ _ _
   | exact LeO.none _
   | refine LeO.ite ?_ ?_
   | refine LeO.bind ?_ (fun _ => ?_)
set_option maxHeartbeats 8000000 in
set_option maxRecDepth 100000 in
theorem law12_Make.calls (k : Nat) (A0 : Option Addr) (c0 : Nat) (l0 : List Int) (r : List (S31)) (w : World) (hr0 : Kd.C (Kd.int .u8) w A0 l0.length l0) (hc0 : l0.length ≤ c0) (h : law12_Make.f k l0 = some r) :
  Calls Try.prog 32 #[.slice A0 l0.length c0] w fun e w' => ∃ v0_ : Value, e = .returned (v0_) ∧ Kd.R k31 31 w' w.heap.size (fun _ => True) v0_ r ∧ Below w.heap.size w w' := by
 have hu27 := Try.underlying27
 have hu67 := Try.underlying67
 have HR0 := Aside0.mk hr0
 have HC0 := Aside0.mk hc0
 clear hr0 hc0
 have HB := Aside0.mk (Below.refl w.heap.size w)
 have H : (law12_Make.l0 k l0 ([] : List (S31)) 0) = some r := h
 clear h
 have H' := Aside0.mk H
 clear H
 go_enter Try.func32, Try.ntmps32
 go_wp2
 go_loopg [3, 4] k (fun kq v3 v4 w' => ∃ (x3_1 : List (S31)) (x4_1 : Int), v4 = .int .i64 x4_1 ∧ Aside0 (law12_Make.l0 kq l0 x3_1 x4_1 = some r) ∧ Aside0 (kq ≤ k) ∧ Aside0 (Kd.R k31 31 w' w.heap.size (fun _ => True) v3 x3_1) ∧ Aside0 (Below w.heap.size w w'))
 case atStart => exact ⟨(([] : List (S31))), (0), (by first|rfl|(simp;done)|(simp [*];done)), H', ⟨Nat.le_refl _⟩, ⟨by first|exact Kd.R_nil _ _ _ _ _|exact Kd.N_nil _ _ _ _ _|exact Kd.V_nil _ _ _ _ _|exact Kd.Q_nil _ _ _ _ _|exact Kd.S_nil _ _ _ _ _⟩, ⟨by repeat (first|(with_reducible first|exact HB.out|apply below_alloc|apply pw_below_drewN|apply below_drew1)|exact HB.out)⟩⟩
 case round =>
  clear H'
  obtain ⟨x3_1, x4_1, rfl, HA, HK1, HO_3, HB⟩ := hrel
  cases gk with
  | zero => exact absurd HA.out (by simp [law12_Make.l0])
  | succ k1 =>
   have H := HA.out
   clear HA
   simp only [law12_Make.l0] at H
   have HC2 := Aside0.mk H
   clear H
   go_upto_region 3 with (fail)
   go_cut [21] (fun v21 wc => ∃ (kq : Nat) (x21_1 : Bool), v21 = .bool x21_1 ∧ Aside0 (law12_Make.j1 kq l0 x3_1 x4_1 x21_1 = some r) ∧ Aside0 (kq ≤ k1) ∧ Aside0 (Kd.R k31 31 wc w.heap.size (fun _ => True) u3 x3_1) ∧ Aside0 (Below w.heap.size w wc))
   case first =>
    have H := HC2.out
    clear HC2
    by_cases c3 : (wrap64 (x4_1 + 2)) < (l0.length : Int)
    ·rw [if_pos c3] at H
     have c3b0 : decide ((wrap64 (x4_1 + 2)) < (l0.length : Int)) = true := decide_eq_true c3
     clear c3
     (first | rw [c3b0] | (simp only [i64_w, i32_w]; rw [c3b0]) | skip)
     have H' := Aside0.mk H
     clear H
     obtain ⟨Ao4, co4, eo4⟩ := Kd.R_slice HO_3.out
     subst eo4
     go_wp2
     go_meet
     case rel => exact ⟨_, (decide ((x3_1.length : Int) < 24)), (by first|rfl|(simp;done)|(simp [*];done)), H', ⟨by have := HK1.out;first|omega|exact Nat.le_refl _⟩, ⟨by (with_reducible repeat (first|apply Kd.R_alloc|apply Kd.R_drewN|apply Kd.R_drew));exact HO_3.out⟩, ⟨by repeat (first|(with_reducible first|exact HB.out|apply below_alloc|apply pw_below_drewN|apply below_drew1)|exact HB.out)⟩⟩
    ·rw [if_neg c3] at H
     have c3b0 : decide ((wrap64 (x4_1 + 2)) < (l0.length : Int)) = false := decide_eq_false c3
     clear c3
     (first | rw [c3b0] | (simp only [i64_w, i32_w]; rw [c3b0]) | skip)
     have H' := Aside0.mk H
     clear H
     go_wp2
     go_meet
     case rel => exact ⟨_, (false), (by first|rfl|(simp;done)|(simp [*];done)), H', ⟨by have := HK1.out;first|omega|exact Nat.le_refl _⟩, ⟨by (with_reducible repeat (first|apply Kd.R_alloc|apply Kd.R_drewN|apply Kd.R_drew));exact HO_3.out⟩, ⟨by repeat (first|(with_reducible first|exact HB.out|apply below_alloc|apply pw_below_drewN|apply below_drew1)|exact HB.out)⟩⟩
   case rest =>
    clear HC2
    try clear p2
    try clear c3
    try clear c3b0
    obtain ⟨kq, x21_1, rfl, HA, HJ1, HO_3, HB⟩ := hcut
    cases kq with
    | zero => exact absurd HA.out (by simp [law12_Make.j1])
    | succ kj1 =>
     have H := HA.out
     clear HA
     simp only [law12_Make.j1] at H
     by_cases c5 : x21_1 = true
     ·subst c5
      have H1 : (if 0 ≤ x4_1 then (if x4_1 < (l0.length : Int) then (if (x3_1.length : Int) > 0 then (law12_Make.j2 kj1 l0 x3_1 x4_1 (wrap64 (rd l0 x4_1)) (⟨#[]⟩ : ByteArray) (decide ((Int.tmod (wrap64 (rd l0 x4_1)) 3) > 0))) else (law12_Make.j2 kj1 l0 x3_1 x4_1 (wrap64 (rd l0 x4_1)) (⟨#[]⟩ : ByteArray) false)) else (none)) else (none)) = some r := by rw [if_pos rfl] at H; exact H
      clear H
      have H := H1
      clear H1
      by_cases c6 : 0 ≤ x4_1
      ·rw [if_pos c6] at H
       have c6b0 : decide (0 ≤ x4_1) = true := decide_eq_true c6
       clear c6
       by_cases c7 : x4_1 < (l0.length : Int)
       ·rw [if_pos c7] at H
        have c7b0 : decide (x4_1 < (l0.length : Int)) = true := decide_eq_true c7
        clear c7
        have HC8 := Aside0.mk H
        clear H
        have p1 : 0 ≤ (x4_1 : Int) := of_decide_eq_true (by first|(with_reducible assumption)|assumption)
        have q1 : x4_1 < (l0.length : Int) := of_decide_eq_true (by first|(with_reducible assumption)|assumption)
        obtain ⟨ad1, e1, hx1_0⟩ := Kd.at_int HR0.out x4_1 p1 q1
        cases e1
        replace hx1_0 := (HB.out.cell (World.block_lt_of_cell? w _ hx1_0)).trans hx1_0
        replace p1 := eq_true p1
        replace q1 := eq_true q1
        go_upto_region 7 with (fail)
        go_cut [36] (fun v36 wc => ∃ (kq : Nat) (x36_7 : Bool), v36 = .bool x36_7 ∧ Aside0 (law12_Make.j2 kq l0 x3_1 x4_1 (wrap64 (rd l0 x4_1)) (⟨#[]⟩ : ByteArray) x36_7 = some r) ∧ Aside0 (kq ≤ kj1) ∧ Aside0 (Kd.R k31 31 wc w.heap.size (fun _ => True) u3 x3_1) ∧ Aside0 (Below w.heap.size w wc))
        case first =>
         have H := HC8.out
         clear HC8
         by_cases c9 : (x3_1.length : Int) > 0
         ·rw [if_pos c9] at H
          have c9b0 : decide (0 < (x3_1.length : Int)) = true := decide_eq_true c9
          have c9b1 : decide (0 < x3_1.length) = true := decide_eq_true (by omega)
          clear c9
          (first | rw [c9b0] | (simp only [i64_w, i32_w]; rw [c9b0]) | skip)
          have H' := Aside0.mk H
          clear H
          obtain ⟨Ao10, co10, eo10⟩ := Kd.R_slice HO_3.out
          subst eo10
          go_wp2
          go_meet
          case rel => exact ⟨_, (decide ((Int.tmod (wrap64 (rd l0 x4_1)) 3) > 0)), (by first|rfl|(simp;done)|(simp [*];done)), H', ⟨by have := HK1.out;have := HJ1.out;first|omega|exact Nat.le_refl _⟩, ⟨by (with_reducible repeat (first|apply Kd.R_alloc|apply Kd.R_drewN|apply Kd.R_drew));exact HO_3.out⟩, ⟨by repeat (first|(with_reducible first|exact HB.out|apply below_alloc|apply pw_below_drewN|apply below_drew1)|exact HB.out)⟩⟩
         ·rw [if_neg c9] at H
          have c9b0 : decide (0 < (x3_1.length : Int)) = false := decide_eq_false c9
          have c9b1 : decide (0 < x3_1.length) = false := decide_eq_false (by omega)
          clear c9
          (first | rw [c9b0] | (simp only [i64_w, i32_w]; rw [c9b0]) | skip)
          have H' := Aside0.mk H
          clear H
          obtain ⟨Ao11, co11, eo11⟩ := Kd.R_slice HO_3.out
          subst eo11
          go_wp2
          go_meet
          case rel => exact ⟨_, (false), (by first|rfl|(simp;done)|(simp [*];done)), H', ⟨by have := HK1.out;have := HJ1.out;first|omega|exact Nat.le_refl _⟩, ⟨by (with_reducible repeat (first|apply Kd.R_alloc|apply Kd.R_drewN|apply Kd.R_drew));exact HO_3.out⟩, ⟨by repeat (first|(with_reducible first|exact HB.out|apply below_alloc|apply pw_below_drewN|apply below_drew1)|exact HB.out)⟩⟩
        case rest =>
         clear HC8
         try clear p1
         try clear q1
         try clear hx1
         try clear p2
         try clear c3
         try clear c3b0
         try clear c5
         try clear c6
         try clear c6b0
         try clear p6
         try clear c7
         try clear c7b0
         try clear c9
         try clear c9b0
         try clear c9b1
         try clear hx1_0
         try clear p1
         try clear p2
         try clear q1
         obtain ⟨kq, x36_7, rfl, HA, HJ7, HO_3, HB⟩ := hcut
         cases kq with
         | zero => exact absurd HA.out (by simp [law12_Make.j2])
         | succ kj7 =>
          have H := HA.out
          clear HA
          simp only [law12_Make.j2] at H
          have HC12 := Aside0.mk H
          clear H
          go_upto_if 36 with (fail)
          go_cut [6] (fun v6 wc => ∃ (kq : Nat) (x6_11 : ByteArray), v6 = .string x6_11 ∧ Aside0 (law12_Make.j3 kq l0 x3_1 x4_1 x6_11 = some r) ∧ Aside0 (kq ≤ kj7) ∧ Aside0 (Kd.R k31 31 wc w.heap.size (fun _ => True) u3 x3_1) ∧ Aside0 (Below w.heap.size w wc))
          case first =>
           have H := HC12.out
           clear HC12
           by_cases c13 : x36_7 = true
           ·subst c13
            have H1 : (if (x3_1.length : Int) = 0 then (none) else (if 0 ≤ (Int.tmod (wrap64 (Int.tdiv (wrap64 (rd l0 x4_1)) 3)) (x3_1.length : Int)) then (if (Int.tmod (wrap64 (Int.tdiv (wrap64 (rd l0 x4_1)) 3)) (x3_1.length : Int)) < (x3_1.length : Int) then (law12_Make.j3 kj7 l0 x3_1 x4_1 ((rd_T31 x3_1 (Int.tmod (wrap64 (Int.tdiv (wrap64 (rd l0 x4_1)) 3)) (x3_1.length : Int))).f0)) else (none)) else (none))) = some r := by rw [if_pos rfl] at H; exact H
            clear H
            have H := H1
            clear H1
            by_cases c14 : (x3_1.length : Int) = 0
            ·rw [if_pos c14] at H
             exact absurd H (by simp)
            ·rw [if_neg c14] at H
             have c14b0 : ((x3_1.length : Int) == 0) = false := beq_eq_false_iff_ne.mpr c14
             have c14b1 : ((x3_1.length : Int) != 0) = true := bne_iff_ne.mpr c14
             have c14b2 : ¬ (x3_1 = []) := fun h_ => c14 (by rw [h_]; rfl)
             (first | rw [c14b0] | (simp only [i64_w, i32_w]; rw [c14b0]) | skip)
             obtain ⟨ji15, hji15⟩ : ∃ j_ : Int, (Int.tmod (wrap64 (Int.tdiv (wrap64 (rd l0 x4_1)) 3)) (x3_1.length : Int)) = j_ := ⟨_, rfl⟩
             replace H : (if 0 ≤ (ji15) then (if (ji15) < (x3_1.length : Int) then (law12_Make.j3 kj7 l0 x3_1 x4_1 ((rd_T31 x3_1 (ji15)).f0)) else (none)) else (none)) = some r := by first | (rw [hji15] at H; exact H) | (simp only [hji15] at H ⊢; exact H)
             by_cases c16 : 0 ≤ (ji15)
             ·rw [if_pos c16] at H
              have c16b0 : decide (0 ≤ (ji15)) = true := decide_eq_true c16
              clear c16
              by_cases c17 : (ji15) < (x3_1.length : Int)
              ·rw [if_pos c17] at H
               have c17b0 : decide ((ji15) < (x3_1.length : Int)) = true := decide_eq_true c17
               clear c17
               have H' := Aside0.mk H
               clear H
               obtain ⟨Ao18, co18, eo18⟩ := Kd.R_slice HO_3.out
               subst eo18
               have p2 : 0 ≤ ((ji15) : Int) := of_decide_eq_true (by first|(with_reducible assumption)|assumption)
               have q2 : (ji15) < (x3_1.length : Int) := of_decide_eq_true (by first|(with_reducible assumption)|assumption)
               obtain ⟨ad2, e2, hx2_0, hx2_1, hx2_2, hx2_3, hx2_4, hx2_5, hx2_6, hx2_7, hx2_8, hx2_9, hx2_10, hx2_11⟩ := at_T31 (Kd.R_reads' HO_3.out).2.2 (ji15) p2 q2
               cases e2
               replace p2 := eq_true p2
               replace q2 := eq_true q2
               go_wp2
               go_meet
               case rel => exact ⟨_, ((rd_T31 x3_1 (ji15)).f0), (by first|rfl|(simp;done)|(simp only [← hji15] <;> (first|rfl|simp))|(simp [*];done)), H', ⟨by have := HK1.out;have := HJ1.out;have := HJ7.out;first|omega|exact Nat.le_refl _⟩, ⟨by (with_reducible repeat (first|apply Kd.R_alloc|apply Kd.R_drewN|apply Kd.R_drew));exact HO_3.out⟩, ⟨by repeat (first|(with_reducible first|exact HB.out|apply below_alloc|apply pw_below_drewN|apply below_drew1)|exact HB.out)⟩⟩
              ·rw [if_neg c17] at H
               exact absurd H (by simp)
             ·rw [if_neg c16] at H
              exact absurd H (by simp)
           ·replace c13 := Bool.eq_false_iff.mpr c13
            subst c13
            have H1 : (law12_Make.j3 kj7 l0 x3_1 x4_1 (⟨#[]⟩ : ByteArray)) = some r := by rw [if_neg (show ¬ (false = true) by decide)] at H; exact H
            clear H
            have H := H1
            clear H1
            have H' := Aside0.mk H
            clear H
            go_wp2
            go_meet
            case rel => exact ⟨_, ((⟨#[]⟩ : ByteArray)), (by first|rfl|(simp;done)|(simp [*];done)), H', ⟨by have := HK1.out;have := HJ1.out;have := HJ7.out;first|omega|exact Nat.le_refl _⟩, ⟨by (with_reducible repeat (first|apply Kd.R_alloc|apply Kd.R_drewN|apply Kd.R_drew));exact HO_3.out⟩, ⟨by repeat (first|(with_reducible first|exact HB.out|apply below_alloc|apply pw_below_drewN|apply below_drew1)|exact HB.out)⟩⟩
          case rest =>
           clear HC12
           try clear c1
           try clear p1
           try clear q1
           try clear hx1
           try clear p2
           try clear q2
           try clear hx2
           try clear c3
           try clear c3b0
           try clear c5
           try clear c6
           try clear c6b0
           try clear p6
           try clear c7
           try clear c7b0
           try clear c9
           try clear c9b0
           try clear c9b1
           try clear c13
           try clear c14
           try clear c14b0
           try clear c14b1
           try clear c14b2
           try clear c16
           try clear c16b0
           try clear c17
           try clear c17b0
           try clear hx1_0
           try clear hx2_0
           try clear hx2_1
           try clear hx2_10
           try clear hx2_11
           try clear hx2_2
           try clear hx2_3
           try clear hx2_4
           try clear hx2_5
           try clear hx2_6
           try clear hx2_7
           try clear hx2_8
           try clear hx2_9
           try clear p1
           try clear p2
           try clear p6
           try clear q1
           try clear q2
           obtain ⟨kq, x6_11, rfl, HA, HJ11, HO_3, HB⟩ := hcut
           cases kq with
           | zero => exact absurd HA.out (by simp [law12_Make.j3])
           | succ kj11 =>
            have H := HA.out
            clear HA
            simp only [law12_Make.j3] at H
            obtain ⟨ji19, hji19⟩ : ∃ j_ : Int, (wrap64 (x4_1 + 1)) = j_ := ⟨_, rfl⟩
            replace H : (if 0 ≤ (ji19) then (if (ji19) < (l0.length : Int) then ((r10_Create.f kj11 x3_1 (strOfNums (([(wrap64 (97 + (Int.tmod (wrap64 ((x3_1.length : Int) * 5)) 24))) % 256] : List Int))) x6_11 (wrap64 (20 + (wrap64 (rd l0 (ji19))))) (wrap64 (20 + (wrap64 (rd l0 (ji19))))) (wrap64 (20 + (wrap64 (rd l0 (ji19)))))).bind fun bt7 => (if bt7.2 = 0 then (if 0 ≤ (wrap64 (x4_1 + 2)) then (if (wrap64 (x4_1 + 2)) < (l0.length : Int) then (if (bt7.1.length : Int) = 0 then (none) else (if 0 ≤ (Int.tmod (wrap64 (Int.tdiv (wrap64 (rd l0 (wrap64 (x4_1 + 2)))) 16)) (bt7.1.length : Int)) then (if (Int.tmod (wrap64 (Int.tdiv (wrap64 (rd l0 (wrap64 (x4_1 + 2)))) 16)) (bt7.1.length : Int)) < (bt7.1.length : Int) then ((r10_Admit.f kj11 bt7.1 ((rd_T31 bt7.1 (Int.tmod (wrap64 (Int.tdiv (wrap64 (rd l0 (wrap64 (x4_1 + 2)))) 16)) (bt7.1.length : Int))).f0) (Int.tmod (wrap64 (rd l0 (wrap64 (x4_1 + 2)))) 16) (wrap64 (Int.tdiv (Int.tmod (wrap64 (rd l0 (wrap64 (x4_1 + 2)))) 16) 2)) (Int.tmod (Int.tmod (wrap64 (rd l0 (wrap64 (x4_1 + 2)))) 16) 3)).bind fun bt15 => (if bt15.2 = 0 then (law12_Make.l0 kj11 l0 bt15.1 (wrap64 (x4_1 + 3))) else (law12_Make.l0 kj11 l0 bt7.1 (wrap64 (x4_1 + 3))))) else (none)) else (none))) else (none)) else (none)) else (law12_Make.l0 kj11 l0 x3_1 (wrap64 (x4_1 + 3))))) else (none)) else (none)) = some r := by first | (rw [hji19] at H; exact H) | (simp only [hji19] at H ⊢; exact H)
            have hji19w : (IntKind.i64.wrap (x4_1 + 1)) = ji19 := (i64_w _).trans hji19
            by_cases c20 : 0 ≤ (ji19)
            ·rw [if_pos c20] at H
             have c20b0 : decide (0 ≤ (ji19)) = true := decide_eq_true c20
             clear c20
             by_cases c21 : (ji19) < (l0.length : Int)
             ·rw [if_pos c21] at H
              have c21b0 : decide ((ji19) < (l0.length : Int)) = true := decide_eq_true c21
              clear c21
              obtain ⟨y4, hy4⟩ : ∃ y_ : List Int, y_ = (([(wrap64 (97 + (Int.tmod (wrap64 ((x3_1.length : Int) * 5)) 24))) % 256] : List Int)) := ⟨_, rfl⟩
              replace H : ((r10_Create.f kj11 x3_1 (strOfNums y4) x6_11 (wrap64 (20 + (wrap64 (rd l0 (ji19))))) (wrap64 (20 + (wrap64 (rd l0 (ji19))))) (wrap64 (20 + (wrap64 (rd l0 (ji19)))))).bind fun bt7 => (if bt7.2 = 0 then (if 0 ≤ (wrap64 (x4_1 + 2)) then (if (wrap64 (x4_1 + 2)) < (l0.length : Int) then (if (bt7.1.length : Int) = 0 then (none) else (if 0 ≤ (Int.tmod (wrap64 (Int.tdiv (wrap64 (rd l0 (wrap64 (x4_1 + 2)))) 16)) (bt7.1.length : Int)) then (if (Int.tmod (wrap64 (Int.tdiv (wrap64 (rd l0 (wrap64 (x4_1 + 2)))) 16)) (bt7.1.length : Int)) < (bt7.1.length : Int) then ((r10_Admit.f kj11 bt7.1 ((rd_T31 bt7.1 (Int.tmod (wrap64 (Int.tdiv (wrap64 (rd l0 (wrap64 (x4_1 + 2)))) 16)) (bt7.1.length : Int))).f0) (Int.tmod (wrap64 (rd l0 (wrap64 (x4_1 + 2)))) 16) (wrap64 (Int.tdiv (Int.tmod (wrap64 (rd l0 (wrap64 (x4_1 + 2)))) 16) 2)) (Int.tmod (Int.tmod (wrap64 (rd l0 (wrap64 (x4_1 + 2)))) 16) 3)).bind fun bt15 => (if bt15.2 = 0 then (law12_Make.l0 kj11 l0 bt15.1 (wrap64 (x4_1 + 3))) else (law12_Make.l0 kj11 l0 bt7.1 (wrap64 (x4_1 + 3))))) else (none)) else (none))) else (none)) else (none)) else (law12_Make.l0 kj11 l0 x3_1 (wrap64 (x4_1 + 3))))) = some r := by first|(rw [hy4];with_reducible exact H)|(have H2_ := (Option.bind_some _ _).symm.trans H;rw [hy4];with_reducible exact H2_)|(have H2_ := (Option.bind_some _ _).symm.trans H;with_reducible exact H2_)|with_reducible exact H|(rw [hy4];exact H)|exact H
              have Ny4 := Aside0.mk hy4
              clear hy4
              replace H := Option.bind_eq_some_iff.mp H
              obtain ⟨⟨t7, t10⟩, A220, H⟩ := H
              replace H : (if t10 = 0 then (if 0 ≤ (wrap64 (x4_1 + 2)) then (if (wrap64 (x4_1 + 2)) < (l0.length : Int) then (if (t7.length : Int) = 0 then (none) else (if 0 ≤ (Int.tmod (wrap64 (Int.tdiv (wrap64 (rd l0 (wrap64 (x4_1 + 2)))) 16)) (t7.length : Int)) then (if (Int.tmod (wrap64 (Int.tdiv (wrap64 (rd l0 (wrap64 (x4_1 + 2)))) 16)) (t7.length : Int)) < (t7.length : Int) then ((r10_Admit.f kj11 t7 ((rd_T31 t7 (Int.tmod (wrap64 (Int.tdiv (wrap64 (rd l0 (wrap64 (x4_1 + 2)))) 16)) (t7.length : Int))).f0) (Int.tmod (wrap64 (rd l0 (wrap64 (x4_1 + 2)))) 16) (wrap64 (Int.tdiv (Int.tmod (wrap64 (rd l0 (wrap64 (x4_1 + 2)))) 16) 2)) (Int.tmod (Int.tmod (wrap64 (rd l0 (wrap64 (x4_1 + 2)))) 16) 3)).bind fun bt15 => (if bt15.2 = 0 then (law12_Make.l0 kj11 l0 bt15.1 (wrap64 (x4_1 + 3))) else (law12_Make.l0 kj11 l0 t7 (wrap64 (x4_1 + 3))))) else (none)) else (none))) else (none)) else (none)) else (law12_Make.l0 kj11 l0 x3_1 (wrap64 (x4_1 + 3)))) = some r := H
              have A22 := Aside0.mk A220
              clear A220
              by_cases c23 : t10 = 0
              ·rw [if_pos c23] at H
               have c23b0 : (t10 == 0) = true := beq_iff_eq.mpr c23
               have c23b1 : (t10 != 0) = false := bne_eq_false_iff_eq.mpr c23
               clear c23
               obtain ⟨ji24, hji24⟩ : ∃ j_ : Int, (wrap64 (x4_1 + 2)) = j_ := ⟨_, rfl⟩
               replace H : (if 0 ≤ (ji24) then (if (ji24) < (l0.length : Int) then (if (t7.length : Int) = 0 then (none) else (if 0 ≤ (Int.tmod (wrap64 (Int.tdiv (wrap64 (rd l0 (ji24))) 16)) (t7.length : Int)) then (if (Int.tmod (wrap64 (Int.tdiv (wrap64 (rd l0 (ji24))) 16)) (t7.length : Int)) < (t7.length : Int) then ((r10_Admit.f kj11 t7 ((rd_T31 t7 (Int.tmod (wrap64 (Int.tdiv (wrap64 (rd l0 (ji24))) 16)) (t7.length : Int))).f0) (Int.tmod (wrap64 (rd l0 (ji24))) 16) (wrap64 (Int.tdiv (Int.tmod (wrap64 (rd l0 (ji24))) 16) 2)) (Int.tmod (Int.tmod (wrap64 (rd l0 (ji24))) 16) 3)).bind fun bt15 => (if bt15.2 = 0 then (law12_Make.l0 kj11 l0 bt15.1 (wrap64 (x4_1 + 3))) else (law12_Make.l0 kj11 l0 t7 (wrap64 (x4_1 + 3))))) else (none)) else (none))) else (none)) else (none)) = some r := by first | (rw [hji24] at H; exact H) | (simp only [hji24] at H ⊢; exact H)
               (try rw [hji24] at A22)
               have hji24w : (IntKind.i64.wrap (x4_1 + 2)) = ji24 := (i64_w _).trans hji24
               by_cases c25 : 0 ≤ (ji24)
               ·rw [if_pos c25] at H
                have c25b0 : decide (0 ≤ (ji24)) = true := decide_eq_true c25
                clear c25
                by_cases c26 : (ji24) < (l0.length : Int)
                ·rw [if_pos c26] at H
                 have c26b0 : decide ((ji24) < (l0.length : Int)) = true := decide_eq_true c26
                 clear c26
                 by_cases c27 : (t7.length : Int) = 0
                 ·rw [if_pos c27] at H
                  exact absurd H (by simp)
                 ·rw [if_neg c27] at H
                  have c27b0 : ((t7.length : Int) == 0) = false := beq_eq_false_iff_ne.mpr c27
                  have c27b1 : ((t7.length : Int) != 0) = true := bne_iff_ne.mpr c27
                  have c27b2 : ¬ (t7 = []) := fun h_ => c27 (by rw [h_]; rfl)
                  obtain ⟨ji28, hji28⟩ : ∃ j_ : Int, (Int.tmod (wrap64 (Int.tdiv (wrap64 (rd l0 (ji24))) 16)) (t7.length : Int)) = j_ := ⟨_, rfl⟩
                  replace H : (if 0 ≤ (ji28) then (if (ji28) < (t7.length : Int) then ((r10_Admit.f kj11 t7 ((rd_T31 t7 (ji28)).f0) (Int.tmod (wrap64 (rd l0 (ji24))) 16) (wrap64 (Int.tdiv (Int.tmod (wrap64 (rd l0 (ji24))) 16) 2)) (Int.tmod (Int.tmod (wrap64 (rd l0 (ji24))) 16) 3)).bind fun bt15 => (if bt15.2 = 0 then (law12_Make.l0 kj11 l0 bt15.1 (wrap64 (x4_1 + 3))) else (law12_Make.l0 kj11 l0 t7 (wrap64 (x4_1 + 3))))) else (none)) else (none)) = some r := by first | (rw [hji28] at H; exact H) | (simp only [hji28] at H ⊢; exact H)
                  (try rw [hji28] at A22)
                  by_cases c29 : 0 ≤ (ji28)
                  ·rw [if_pos c29] at H
                   have c29b0 : decide (0 ≤ (ji28)) = true := decide_eq_true c29
                   clear c29
                   by_cases c30 : (ji28) < (t7.length : Int)
                   ·rw [if_pos c30] at H
                    have c30b0 : decide ((ji28) < (t7.length : Int)) = true := decide_eq_true c30
                    clear c30
                    replace H := Option.bind_eq_some_iff.mp H
                    obtain ⟨⟨t15, t18⟩, A310, H⟩ := H
                    replace H : (if t18 = 0 then (law12_Make.l0 kj11 l0 t15 (wrap64 (x4_1 + 3))) else (law12_Make.l0 kj11 l0 t7 (wrap64 (x4_1 + 3)))) = some r := H
                    have A31 := Aside0.mk A310
                    clear A310
                    by_cases c32 : t18 = 0
                    ·rw [if_pos c32] at H
                     have c32b0 : (t18 == 0) = true := beq_iff_eq.mpr c32
                     have c32b1 : (t18 != 0) = false := bne_eq_false_iff_eq.mpr c32
                     clear c32
                     have H' := Aside0.mk H
                     clear H
                     have p3 : 0 ≤ ((ji19) : Int) := of_decide_eq_true (by first|(with_reducible assumption)|assumption)
                     have q3 : (ji19) < (l0.length : Int) := of_decide_eq_true (by first|(with_reducible assumption)|assumption)
                     obtain ⟨ad3, e3, hx3_0⟩ := Kd.at_int HR0.out (ji19) p3 q3
                     obtain rfl : ad1 = ad3 := (by injection e3)
                     replace hx3_0 := (HB.out.cell (World.block_lt_of_cell? w _ hx3_0)).trans hx3_0
                     replace p3 := eq_true p3
                     replace q3 := eq_true q3
                     obtain ⟨Ao33, co33, eo33⟩ := Kd.R_slice HO_3.out
                     subst eo33
                     go_wp2_with (first|((with_reducible refine gate_dst (N := 60) rfl ?_);(try (refine gate_guard (by rfl) ?_;dsimp only));refine Kd.R_lit (Kd.int .u8) _ 5 ?hg (N := 60) ?hd (xs := ([(wrap64 (97 + (Int.tmod (wrap64 ((x3_1.length : Int) * 5)) 24))) % 256] : List Int)) (inner := [.int .u8 ((wrap64 (97 + (Int.tmod (wrap64 ((x3_1.length : Int) * 5)) 24))) % 256)]) (ok := fun _ => True) (okp := fun _ => True) ?hr ?hp (fun _ hk => hk) trivial (Below.refl _ _) (Nat.le_refl _) (by simp) ?_;(case hd => rfl);(case hg => rfl);(case hr => first|(go_simp;done)|(go_simp;rfl));(case hp => exact (Reps.one (show Kd.M (Kd.int .u8) _ _ _ ((wrap64 (97 + (Int.tmod (wrap64 ((x3_1.length : Int) * 5)) 24))) % 256) [.int .u8 ((wrap64 (97 + (Int.tmod (wrap64 ((x3_1.length : Int) * 5)) 24))) % 256)] from rfl) (Reps.none _ _)));intro v5 w34 ho35 hb hg_ hnew_;clear hg_ hnew_;(first|rw [← Ny4.out] at ho35|(simp only [Int.reduceToNat] at ho35;rw [← Ny4.out] at ho35));have n0_ := Aside0.mk (Kd.R_below (by (with_reducible repeat (first|apply Kd.R_alloc|apply Kd.R_drewN|apply Kd.R_drew));exact HO_3.out) hb);have n1_ := Aside0.mk (Kd.R_lower ho35 (below_size (by repeat (first|(with_reducible first|exact HB.out|apply below_alloc|apply pw_below_drewN|apply below_drew1)|exact HB.out))));have n2_ := Aside0.mk (below_step (by repeat (first|(with_reducible first|exact HB.out|apply below_alloc|apply pw_below_drewN|apply below_drew1)|exact HB.out)) hb);clear HO_3;clear HB;have HO_3 := n0_;have HO6 := n1_;have HB := n2_;clear n0_ n1_ n2_;clear hb ho35;have hcv36 := own_string (P := Try.prog) Try.underlying22 Try.underlying5 Try.underlying9 (Kd.own_of_R HO6.out))|((with_reducible refine gate_callee (f := 83) rfl ?_);refine goesL_ (some 67) rfl rfl Try.func83 (by kernel_rfl) rfl #[.slice Ao33 x3_1.length co33, .string (strOfNums y4), .string x6_11, .agg #[.int .i64 (wrap64 (20 + (wrap64 (rd l0 (ji19))))), .int .i64 (wrap64 (20 + (wrap64 (rd l0 (ji19))))), .int .i64 (wrap64 (20 + (wrap64 (rd l0 (ji19)))))]] rfl (by (try simp only [List.map_toArray, List.map_cons, List.map_nil]);first|done|(simp only [hji19];rfl)|rfl|(simp only [List.length_drop, List.length_take];rfl)) ?_;(with_reducible refine (r10_Create.calls kj11 _ _ x3_1 (strOfNums y4) x6_11 (wrap64 (20 + (wrap64 (rd l0 (ji19))))) (wrap64 (20 + (wrap64 (rd l0 (ji19))))) (wrap64 (20 + (wrap64 (rd l0 (ji19))))) t7 t10 _ ?side1 ?side2 A22.out).mono ?_);(case side1 => repeat (first|exact (Kd.R_reads' HO_3.out).2.2|(with_reducible refine Kd.C_alloc ?_ _)|(with_reducible refine Kd.C_drewN ?_ _)|(with_reducible refine Kd.C_drew ?_)));(case side2 => exact (Kd.R_reads' HO_3.out).2.1);rintro e w37 ⟨v8, rfl, ho0, hb⟩;refine ⟨_, rfl, ?_⟩;have n0_ := Aside0.mk (Kd.R_elder' (by (with_reducible repeat (first|apply Kd.R_alloc|apply Kd.R_drewN|apply Kd.R_drew));exact HO_3.out) (Kd.R_base ho0) hb);have n1_ := Aside0.mk (Kd.R_below (by (with_reducible repeat (first|apply Kd.R_alloc|apply Kd.R_drewN|apply Kd.R_drew));exact HO6.out) hb);have n2_ := Aside0.mk (Kd.R_lower (Kd.R_new' ho0 (Kd.R_lt (by (with_reducible repeat (first|apply Kd.R_alloc|apply Kd.R_drewN|apply Kd.R_drew));exact HO_3.out))) (below_size (by repeat (first|(with_reducible first|exact HB.out|apply below_alloc|apply pw_below_drewN|apply below_drew1)|exact HB.out))));have n3_ := Aside0.mk (below_step (by repeat (first|(with_reducible first|exact HB.out|apply below_alloc|apply pw_below_drewN|apply below_drew1)|exact HB.out)) hb);clear HO_3;clear HO6;clear HB;have HO_3 := n0_;have HO6 := n1_;have HO9 := n2_;have HB := n3_;clear n0_ n1_ n2_ n3_;(try clear hb);(try clear hb2);(try clear hk);(try clear hi);(try clear ho0))|((with_reducible refine gate_dst (N := 8) rfl ?_);(try (refine gate_guard (by rfl) ?_;dsimp only));refine box_event ?hg (N := 8) ?hd (cs := #[.slice none 0 0, .int .i64 0]) (t := 67) ?hr ?_;(case hd => rfl);(case hg => rfl);(case hr => first|(go_simp;done)|(go_simp;rfl));intro gb11 hg w38 hbox hb;have n0_ := Aside0.mk (Kd.R_below (by (with_reducible repeat (first|apply Kd.R_alloc|apply Kd.R_drewN|apply Kd.R_drew));exact HO_3.out) hb);have n1_ := Aside0.mk (Kd.R_below (by (with_reducible repeat (first|apply Kd.R_alloc|apply Kd.R_drewN|apply Kd.R_drew));exact HO6.out) hb);have n2_ := Aside0.mk (Kd.R_below (by (with_reducible repeat (first|apply Kd.R_alloc|apply Kd.R_drewN|apply Kd.R_drew));exact HO9.out) hb);have n3_ := Aside0.mk (below_step (by repeat (first|(with_reducible first|exact HB.out|apply below_alloc|apply pw_below_drewN|apply below_drew1)|exact HB.out)) hb);have n4_ := Aside0.mk (hbox);have n5_ := Aside0.mk ((by rw [hg];exact (below_size (by repeat (first|(with_reducible first|exact HB.out|apply below_alloc|apply pw_below_drewN|apply below_drew1)|exact HB.out))) : w.heap.size ≤ gb11));have n6_ := Aside0.mk ((by rw [hg];exact (below_size (by repeat (first|(with_reducible first|exact HB.out|apply below_alloc|apply pw_below_drewN|apply below_drew1)|exact HB.out))) : w.heap.size ≤ gb11));clear HO_3;clear HO6;clear HO9;clear HB;have HO_3 := n0_;have HO6 := n1_;have HO9 := n2_;have HB := n3_;have BK11 := n4_;have GW11 := n5_;have GE11 := n6_;clear n0_ n1_ n2_ n3_ n4_ n5_ n6_;clear hb hbox hg;obtain ⟨Ao39, co39, eo39⟩ := Kd.R_slice HO9.out;subst eo39;have hcz40_0 : w38.cell? ⟨gb11, 0, none⟩ = some (.slice none 0 0) := (blk_cell BK11.out 0).trans rfl;have hcz40_1 : w38.cell? ⟨gb11, 1, none⟩ = some (.int .i64 0) := (blk_cell BK11.out 1).trans rfl;have hfz40_0 := blk_frozen BK11.out 0;have hfz40_1 := blk_frozen BK11.out 1;have p12 : 0 ≤ ((ji24) : Int) := of_decide_eq_true (by first|(with_reducible assumption)|assumption);have q12 : (ji24) < (l0.length : Int) := of_decide_eq_true (by first|(with_reducible assumption)|assumption);obtain ⟨ad12, e12, hx12_0⟩ := Kd.at_int HR0.out (ji24) p12 q12;obtain rfl : ad1 = ad12 := (by injection e12);have hn12_0 : ad1.block ≠ gb11 := Nat.ne_of_lt (Nat.lt_of_lt_of_le (by have := World.block_lt_of_cell? _ _ hx12_0;first|rwa [add_block] at this|exact this) GW11.out);have hn12_1 : ad1.block ≠ gb11 := Nat.ne_of_lt (Nat.lt_of_lt_of_le (by have := World.block_lt_of_cell? _ _ hx12_0;first|rwa [add_block] at this|exact this) GW11.out);replace hx12_0 := (HB.out.cell (World.block_lt_of_cell? w _ hx12_0)).trans hx12_0;replace hx12_0 := (cell_far (p := ⟨gb11, 0, none⟩) (by first|(rw [add_block];exact hn12_0)|(show (Addr.add _ _).block ≠ _;rw [add_block];exact hn12_0)|exact hn12_0) (.slice Ao39 t7.length co39)).trans hx12_0;replace hx12_0 := (cell_far (p := ⟨gb11, 1, none⟩) (by first|(rw [add_block];exact hn12_1)|(show (Addr.add _ _).block ≠ _;rw [add_block];exact hn12_1)|exact hn12_1) (.int .i64 t10)).trans hx12_0;clear hn12_0;clear hn12_1;replace p12 := eq_true p12;replace q12 := eq_true q12;have p13 : 0 ≤ ((ji24) : Int) := of_decide_eq_true (by first|(with_reducible assumption)|assumption);have q13 : (ji24) < (l0.length : Int) := of_decide_eq_true (by first|(with_reducible assumption)|assumption);obtain ⟨ad13, e13, hx13_0⟩ := Kd.at_int HR0.out (ji24) p13 q13;obtain rfl : ad1 = ad13 := (by injection e13);have hn13_0 : ad1.block ≠ gb11 := Nat.ne_of_lt (Nat.lt_of_lt_of_le (by have := World.block_lt_of_cell? _ _ hx13_0;first|rwa [add_block] at this|exact this) GW11.out);have hn13_1 : ad1.block ≠ gb11 := Nat.ne_of_lt (Nat.lt_of_lt_of_le (by have := World.block_lt_of_cell? _ _ hx13_0;first|rwa [add_block] at this|exact this) GW11.out);replace hx13_0 := (HB.out.cell (World.block_lt_of_cell? w _ hx13_0)).trans hx13_0;replace hx13_0 := (cell_far (p := ⟨gb11, 0, none⟩) (by first|(rw [add_block];exact hn13_0)|(show (Addr.add _ _).block ≠ _;rw [add_block];exact hn13_0)|exact hn13_0) (.slice Ao39 t7.length co39)).trans hx13_0;replace hx13_0 := (cell_far (p := ⟨gb11, 1, none⟩) (by first|(rw [add_block];exact hn13_1)|(show (Addr.add _ _).block ≠ _;rw [add_block];exact hn13_1)|exact hn13_1) (.int .i64 t10)).trans hx13_0;clear hn13_0;clear hn13_1;replace p13 := eq_true p13;replace q13 := eq_true q13;have p14 : 0 ≤ ((ji28) : Int) := of_decide_eq_true (by first|(with_reducible assumption)|assumption);have q14 : (ji28) < (t7.length : Int) := of_decide_eq_true (by first|(with_reducible assumption)|assumption);obtain ⟨ad14, e14, hx14_0, hx14_1, hx14_2, hx14_3, hx14_4, hx14_5, hx14_6, hx14_7, hx14_8, hx14_9, hx14_10, hx14_11⟩ := at_T31 (Kd.R_reads' HO9.out).2.2 (ji28) p14 q14;cases e14;have hn14_0 : ad14.block ≠ gb11 := Kd.own_blk (Kd.R_ne HO9.out BK11.out (by decide));have hn14_1 : ad14.block ≠ gb11 := Kd.own_blk (Kd.R_ne HO9.out BK11.out (by decide));replace hx14_0 := (cell_far (p := ⟨gb11, 0, none⟩) (by first|(rw [add_block];exact hn14_0)|(show (Addr.add _ _).block ≠ _;rw [add_block];exact hn14_0)|exact hn14_0) (.slice (some ad14) t7.length co39)).trans hx14_0;replace hx14_1 := (cell_far (p := ⟨gb11, 0, none⟩) (by first|(rw [add_block];exact hn14_0)|(show (Addr.add _ _).block ≠ _;rw [add_block];exact hn14_0)|exact hn14_0) (.slice (some ad14) t7.length co39)).trans hx14_1;replace hx14_2 := (cell_far (p := ⟨gb11, 0, none⟩) (by first|(rw [add_block];exact hn14_0)|(show (Addr.add _ _).block ≠ _;rw [add_block];exact hn14_0)|exact hn14_0) (.slice (some ad14) t7.length co39)).trans hx14_2;replace hx14_3 := (cell_far (p := ⟨gb11, 0, none⟩) (by first|(rw [add_block];exact hn14_0)|(show (Addr.add _ _).block ≠ _;rw [add_block];exact hn14_0)|exact hn14_0) (.slice (some ad14) t7.length co39)).trans hx14_3;replace hx14_4 := (cell_far (p := ⟨gb11, 0, none⟩) (by first|(rw [add_block];exact hn14_0)|(show (Addr.add _ _).block ≠ _;rw [add_block];exact hn14_0)|exact hn14_0) (.slice (some ad14) t7.length co39)).trans hx14_4;replace hx14_5 := (cell_far (p := ⟨gb11, 0, none⟩) (by first|(rw [add_block];exact hn14_0)|(show (Addr.add _ _).block ≠ _;rw [add_block];exact hn14_0)|exact hn14_0) (.slice (some ad14) t7.length co39)).trans hx14_5;replace hx14_6 := (cell_far (p := ⟨gb11, 0, none⟩) (by first|(rw [add_block];exact hn14_0)|(show (Addr.add _ _).block ≠ _;rw [add_block];exact hn14_0)|exact hn14_0) (.slice (some ad14) t7.length co39)).trans hx14_6;replace hx14_7 := (cell_far (p := ⟨gb11, 0, none⟩) (by first|(rw [add_block];exact hn14_0)|(show (Addr.add _ _).block ≠ _;rw [add_block];exact hn14_0)|exact hn14_0) (.slice (some ad14) t7.length co39)).trans hx14_7;replace hx14_8 := (cell_far (p := ⟨gb11, 0, none⟩) (by first|(rw [add_block];exact hn14_0)|(show (Addr.add _ _).block ≠ _;rw [add_block];exact hn14_0)|exact hn14_0) (.slice (some ad14) t7.length co39)).trans hx14_8;replace hx14_9 := (cell_far (p := ⟨gb11, 0, none⟩) (by first|(rw [add_block];exact hn14_0)|(show (Addr.add _ _).block ≠ _;rw [add_block];exact hn14_0)|exact hn14_0) (.slice (some ad14) t7.length co39)).trans hx14_9;replace hx14_10 := (cell_far (p := ⟨gb11, 0, none⟩) (by first|(rw [add_block];exact hn14_0)|(show (Addr.add _ _).block ≠ _;rw [add_block];exact hn14_0)|exact hn14_0) (.slice (some ad14) t7.length co39)).trans hx14_10;replace hx14_11 := (cell_far (p := ⟨gb11, 0, none⟩) (by first|(rw [add_block];exact hn14_0)|(show (Addr.add _ _).block ≠ _;rw [add_block];exact hn14_0)|exact hn14_0) (.slice (some ad14) t7.length co39)).trans hx14_11;replace hx14_0 := (cell_far (p := ⟨gb11, 1, none⟩) (by first|(rw [add_block];exact hn14_1)|(show (Addr.add _ _).block ≠ _;rw [add_block];exact hn14_1)|exact hn14_1) (.int .i64 t10)).trans hx14_0;replace hx14_1 := (cell_far (p := ⟨gb11, 1, none⟩) (by first|(rw [add_block];exact hn14_1)|(show (Addr.add _ _).block ≠ _;rw [add_block];exact hn14_1)|exact hn14_1) (.int .i64 t10)).trans hx14_1;replace hx14_2 := (cell_far (p := ⟨gb11, 1, none⟩) (by first|(rw [add_block];exact hn14_1)|(show (Addr.add _ _).block ≠ _;rw [add_block];exact hn14_1)|exact hn14_1) (.int .i64 t10)).trans hx14_2;replace hx14_3 := (cell_far (p := ⟨gb11, 1, none⟩) (by first|(rw [add_block];exact hn14_1)|(show (Addr.add _ _).block ≠ _;rw [add_block];exact hn14_1)|exact hn14_1) (.int .i64 t10)).trans hx14_3;replace hx14_4 := (cell_far (p := ⟨gb11, 1, none⟩) (by first|(rw [add_block];exact hn14_1)|(show (Addr.add _ _).block ≠ _;rw [add_block];exact hn14_1)|exact hn14_1) (.int .i64 t10)).trans hx14_4;replace hx14_5 := (cell_far (p := ⟨gb11, 1, none⟩) (by first|(rw [add_block];exact hn14_1)|(show (Addr.add _ _).block ≠ _;rw [add_block];exact hn14_1)|exact hn14_1) (.int .i64 t10)).trans hx14_5;replace hx14_6 := (cell_far (p := ⟨gb11, 1, none⟩) (by first|(rw [add_block];exact hn14_1)|(show (Addr.add _ _).block ≠ _;rw [add_block];exact hn14_1)|exact hn14_1) (.int .i64 t10)).trans hx14_6;replace hx14_7 := (cell_far (p := ⟨gb11, 1, none⟩) (by first|(rw [add_block];exact hn14_1)|(show (Addr.add _ _).block ≠ _;rw [add_block];exact hn14_1)|exact hn14_1) (.int .i64 t10)).trans hx14_7;replace hx14_8 := (cell_far (p := ⟨gb11, 1, none⟩) (by first|(rw [add_block];exact hn14_1)|(show (Addr.add _ _).block ≠ _;rw [add_block];exact hn14_1)|exact hn14_1) (.int .i64 t10)).trans hx14_8;replace hx14_9 := (cell_far (p := ⟨gb11, 1, none⟩) (by first|(rw [add_block];exact hn14_1)|(show (Addr.add _ _).block ≠ _;rw [add_block];exact hn14_1)|exact hn14_1) (.int .i64 t10)).trans hx14_9;replace hx14_10 := (cell_far (p := ⟨gb11, 1, none⟩) (by first|(rw [add_block];exact hn14_1)|(show (Addr.add _ _).block ≠ _;rw [add_block];exact hn14_1)|exact hn14_1) (.int .i64 t10)).trans hx14_10;replace hx14_11 := (cell_far (p := ⟨gb11, 1, none⟩) (by first|(rw [add_block];exact hn14_1)|(show (Addr.add _ _).block ≠ _;rw [add_block];exact hn14_1)|exact hn14_1) (.int .i64 t10)).trans hx14_11;clear hn14_0;clear hn14_1;replace p14 := eq_true p14;replace q14 := eq_true q14)|((with_reducible refine gate_callee (f := 66) rfl ?_);refine goesL_ (some 102) rfl rfl Try.func66 (by kernel_rfl) rfl #[.slice (some ad14) t7.length co39, .string ((rd_T31 t7 (ji28)).f0), .agg #[.int .i64 (Int.tmod (wrap64 (rd l0 (ji24))) 16), .int .i64 (wrap64 (Int.tdiv (Int.tmod (wrap64 (rd l0 (ji24))) 16) 2)), .int .i64 (Int.tmod (Int.tmod (wrap64 (rd l0 (ji24))) 16) 3)]] rfl (by (try simp only [List.map_toArray, List.map_cons, List.map_nil]);first|done|(simp only [hji24, hji28];rfl)|rfl|(simp only [List.length_drop, List.length_take];rfl)) ?_;(with_reducible refine (r10_Admit.calls kj11 _ _ t7 ((rd_T31 t7 (ji28)).f0) (Int.tmod (wrap64 (rd l0 (ji24))) 16) (wrap64 (Int.tdiv (Int.tmod (wrap64 (rd l0 (ji24))) 16) 2)) (Int.tmod (Int.tmod (wrap64 (rd l0 (ji24))) 16) 3) t15 t18 _ ?side1 ?side2 A31.out).mono ?_);(case side1 => refine (Kd.R_reads' (e := 31) (base := w.heap.size) (ok := fun k_ => (True ∧ some k_ ≠ (.slice Ao33 x3_1.length co33 : Value).ownBlock)) (n := t7.length) (c := co39) ?_).2.2;exact (by (with_reducible repeat (first|apply Kd.R_alloc|apply Kd.R_drewN|apply Kd.R_drew));exact (Kd.R_mono (Kd.R_far (p := ⟨gb11, 1, none⟩) (Kd.R_far (p := ⟨gb11, 0, none⟩) (Kd.R_types HO9.out BK11.out (by decide)) (fun _ hk => hk.2) (.slice (some ad14) t7.length co39)) (fun _ hk => hk.2) (.int .i64 t10)) (fun _ h_ => h_.1))));(case side2 => exact (Kd.R_reads' HO9.out).2.1);rintro e w41 ⟨v16, rfl, ho0, hb⟩;refine ⟨_, rfl, ?_⟩;have n0_ := Aside0.mk (Kd.R_elder' (by (with_reducible repeat (first|apply Kd.R_alloc|apply Kd.R_drewN|apply Kd.R_drew));exact (Kd.R_mono (Kd.R_far (p := ⟨gb11, 1, none⟩) (Kd.R_far (p := ⟨gb11, 0, none⟩) (Kd.R_types HO_3.out BK11.out (by decide)) (fun _ hk => hk.2) (.slice (some ad14) t7.length co39)) (fun _ hk => hk.2) (.int .i64 t10)) (fun _ h_ => h_.1))) (Kd.R_base ho0) hb);have n1_ := Aside0.mk (Kd.R_below (by (with_reducible repeat (first|apply Kd.R_alloc|apply Kd.R_drewN|apply Kd.R_drew));exact (Kd.R_mono (Kd.R_far (p := ⟨gb11, 1, none⟩) (Kd.R_far (p := ⟨gb11, 0, none⟩) (Kd.R_types HO6.out BK11.out (by decide)) (fun _ hk => hk.2) (.slice (some ad14) t7.length co39)) (fun _ hk => hk.2) (.int .i64 t10)) (fun _ h_ => h_.1))) hb);have n2_ := Aside0.mk (Kd.R_elder' (by (with_reducible repeat (first|apply Kd.R_alloc|apply Kd.R_drewN|apply Kd.R_drew));exact (Kd.R_mono (Kd.R_far (p := ⟨gb11, 1, none⟩) (Kd.R_far (p := ⟨gb11, 0, none⟩) (Kd.R_types HO9.out BK11.out (by decide)) (fun _ hk => hk.2) (.slice (some ad14) t7.length co39)) (fun _ hk => hk.2) (.int .i64 t10)) (fun _ h_ => h_.1))) (Kd.R_base ho0) hb);have n3_ := Aside0.mk (Kd.R_lower (Kd.R_new' (Kd.R_new' ho0 (Kd.R_lt (by (with_reducible repeat (first|apply Kd.R_alloc|apply Kd.R_drewN|apply Kd.R_drew));exact (Kd.R_mono (Kd.R_far (p := ⟨gb11, 1, none⟩) (Kd.R_far (p := ⟨gb11, 0, none⟩) (Kd.R_types HO_3.out BK11.out (by decide)) (fun _ hk => hk.2) (.slice (some ad14) t7.length co39)) (fun _ hk => hk.2) (.int .i64 t10)) (fun _ h_ => h_.1))))) (Kd.R_lt (by (with_reducible repeat (first|apply Kd.R_alloc|apply Kd.R_drewN|apply Kd.R_drew));exact (Kd.R_mono (Kd.R_far (p := ⟨gb11, 1, none⟩) (Kd.R_far (p := ⟨gb11, 0, none⟩) (Kd.R_types HO9.out BK11.out (by decide)) (fun _ hk => hk.2) (.slice (some ad14) t7.length co39)) (fun _ hk => hk.2) (.int .i64 t10)) (fun _ h_ => h_.1))))) (below_size (by repeat (first|(with_reducible first|exact HB.out|apply below_alloc|apply pw_below_drewN|apply below_drew1|refine below_set ?_ GE11.out)|exact HB.out))));have n4_ := Aside0.mk (blk_below (g := gb11) (o := .cells #[.slice (some ad14) t7.length co39, .int .i64 t10] 67 (0, 0)) (by (with_reducible repeat (first|refine blk_drewN ?_ _|refine blk_drew ?_|refine blk_alloc ?_ _));refine blk_put (cs := #[.slice (some ad14) t7.length co39, .int .i64 0]) ?_ 1 _ rfl;(with_reducible repeat (first|refine blk_drewN ?_ _|refine blk_drew ?_|refine blk_alloc ?_ _));refine blk_put (cs := #[.slice none 0 0, .int .i64 0]) ?_ 0 _ rfl;(with_reducible repeat (first|refine blk_drewN ?_ _|refine blk_drew ?_|refine blk_alloc ?_ _));exact BK11.out) hb);have n5_ := Aside0.mk (below_step (by repeat (first|(with_reducible first|exact HB.out|apply below_alloc|apply pw_below_drewN|apply below_drew1|refine below_set ?_ GE11.out)|exact HB.out)) hb);clear HO_3;clear HO6;clear HO9;clear BK11;clear HB;have HO_3 := n0_;have HO6 := n1_;have HO9 := n2_;have HO17 := n3_;have BK11 := n4_;have HB := n5_;clear n0_ n1_ n2_ n3_ n4_ n5_;(try clear hb);(try clear hb2);(try clear hk);(try clear hi);(try clear ho0))|((with_reducible refine gate_dst (N := 11) rfl ?_);(try (refine gate_guard (by rfl) ?_;dsimp only));refine box_event ?hg (N := 11) ?hd (cs := #[.slice none 0 0, .int .i64 0]) (t := 67) ?hr ?_;(case hd => rfl);(case hg => rfl);(case hr => first|(go_simp;done)|(go_simp;rfl));intro gb19 hg w42 hbox hb;have n0_ := Aside0.mk (Kd.R_below (by (with_reducible repeat (first|apply Kd.R_alloc|apply Kd.R_drewN|apply Kd.R_drew));exact HO_3.out) hb);have n1_ := Aside0.mk (Kd.R_below (by (with_reducible repeat (first|apply Kd.R_alloc|apply Kd.R_drewN|apply Kd.R_drew));exact HO6.out) hb);have n2_ := Aside0.mk (Kd.R_below (by (with_reducible repeat (first|apply Kd.R_alloc|apply Kd.R_drewN|apply Kd.R_drew));exact HO9.out) hb);have n3_ := Aside0.mk (Kd.R_below (by (with_reducible repeat (first|apply Kd.R_alloc|apply Kd.R_drewN|apply Kd.R_drew));exact HO17.out) hb);have n4_ := Aside0.mk (blk_below (g := gb11) (o := .cells #[.slice (some ad14) t7.length co39, .int .i64 t10] 67 (0, 0)) (by (with_reducible repeat (first|refine blk_drewN ?_ _|refine blk_drew ?_|refine blk_alloc ?_ _));exact BK11.out) hb);have n5_ := Aside0.mk (below_step (by repeat (first|(with_reducible first|exact HB.out|apply below_alloc|apply pw_below_drewN|apply below_drew1|refine below_set ?_ GE11.out)|exact HB.out)) hb);have n6_ := Aside0.mk (hbox);have n7_ := Aside0.mk ((by rw [hg];exact (below_size (by repeat (first|(with_reducible first|exact HB.out|apply below_alloc|apply pw_below_drewN|apply below_drew1|refine below_set ?_ GE11.out)|exact HB.out))) : w.heap.size ≤ gb19));have n8_ := Aside0.mk ((by rw [hg];exact (below_size (by repeat (first|(with_reducible first|exact HB.out|apply below_alloc|apply pw_below_drewN|apply below_drew1|refine below_set ?_ GE11.out)|exact HB.out))) : w.heap.size ≤ gb19));have n9_ := Aside0.mk ((by rw [hg];exact Nat.ne_of_lt (blk_lt (g := gb11) (o := .cells #[.slice (some ad14) t7.length co39, .int .i64 t10] 67 (0, 0)) (by (with_reducible repeat (first|refine blk_drewN ?_ _|refine blk_drew ?_|refine blk_alloc ?_ _));exact BK11.out)) : gb11 ≠ gb19));have n10_ := Aside0.mk ((by rw [hg];exact Nat.ne_of_gt (blk_lt (g := gb11) (o := .cells #[.slice (some ad14) t7.length co39, .int .i64 t10] 67 (0, 0)) (by (with_reducible repeat (first|refine blk_drewN ?_ _|refine blk_drew ?_|refine blk_alloc ?_ _));exact BK11.out)) : gb19 ≠ gb11));clear HO_3;clear HO6;clear HO9;clear HO17;clear BK11;clear HB;have HO_3 := n0_;have HO6 := n1_;have HO9 := n2_;have HO17 := n3_;have BK11 := n4_;have HB := n5_;have BK19 := n6_;have GW19 := n7_;have GE19 := n8_;have NB11_19 := n9_;have NB19_11 := n10_;clear n0_ n1_ n2_ n3_ n4_ n5_ n6_ n7_ n8_ n9_ n10_;clear hb hbox hg;obtain ⟨Ao43, co43, eo43⟩ := Kd.R_slice HO17.out;subst eo43;have hnb44 := NB19_11.out;have hnc44 := NB11_19.out;have hcz45_0 : w42.cell? ⟨gb19, 0, none⟩ = some (.slice none 0 0) := (blk_cell BK19.out 0).trans rfl;have hcz45_1 : w42.cell? ⟨gb19, 1, none⟩ = some (.int .i64 0) := (blk_cell BK19.out 1).trans rfl;have hfz45_0 := blk_frozen BK19.out 0;have hfz45_1 := blk_frozen BK19.out 1))
                     go_roundg kj11
                     case measure => have := HK1.out; have := HJ1.out; have := HJ7.out; have := HJ11.out; omega
                     case rel => exact ⟨(t15), (wrap64 (x4_1 + 3)), (by first|rfl|(simp;done)|(simp [*];done)), H', ⟨by have := HK1.out;have := HJ1.out;have := HJ7.out;have := HJ11.out;omega⟩, ⟨by (with_reducible repeat (first|apply Kd.R_alloc|apply Kd.R_drewN|apply Kd.R_drew));exact Kd.R_mono (Kd.R_far (p := ⟨gb19, 1, none⟩) (Kd.R_far (p := ⟨gb19, 0, none⟩) (Kd.R_types HO17.out BK19.out (by decide)) (fun _ hk => hk.2) (.slice Ao43 t15.length co43)) (fun _ hk => hk.2) (.int .i64 t18)) (fun _ hk => trivial)⟩, ⟨by repeat (first|(with_reducible first|exact HB.out|apply below_alloc|apply pw_below_drewN|apply below_drew1|refine below_set ?_ GE11.out|refine below_set ?_ GE19.out)|exact HB.out)⟩⟩
                    ·rw [if_neg c32] at H
                     have c32b0 : (t18 == 0) = false := beq_eq_false_iff_ne.mpr c32
                     have c32b1 : (t18 != 0) = true := bne_iff_ne.mpr c32
                     have H' := Aside0.mk H
                     clear H
                     have p3 : 0 ≤ ((ji19) : Int) := of_decide_eq_true (by first|(with_reducible assumption)|assumption)
                     have q3 : (ji19) < (l0.length : Int) := of_decide_eq_true (by first|(with_reducible assumption)|assumption)
                     obtain ⟨ad3, e3, hx3_0⟩ := Kd.at_int HR0.out (ji19) p3 q3
                     obtain rfl : ad1 = ad3 := (by injection e3)
                     replace hx3_0 := (HB.out.cell (World.block_lt_of_cell? w _ hx3_0)).trans hx3_0
                     replace p3 := eq_true p3
                     replace q3 := eq_true q3
                     obtain ⟨Ao46, co46, eo46⟩ := Kd.R_slice HO_3.out
                     subst eo46
                     go_wp2_with (first|((with_reducible refine gate_dst (N := 60) rfl ?_);(try (refine gate_guard (by rfl) ?_;dsimp only));refine Kd.R_lit (Kd.int .u8) _ 5 ?hg (N := 60) ?hd (xs := ([(wrap64 (97 + (Int.tmod (wrap64 ((x3_1.length : Int) * 5)) 24))) % 256] : List Int)) (inner := [.int .u8 ((wrap64 (97 + (Int.tmod (wrap64 ((x3_1.length : Int) * 5)) 24))) % 256)]) (ok := fun _ => True) (okp := fun _ => True) ?hr ?hp (fun _ hk => hk) trivial (Below.refl _ _) (Nat.le_refl _) (by simp) ?_;(case hd => rfl);(case hg => rfl);(case hr => first|(go_simp;done)|(go_simp;rfl));(case hp => exact (Reps.one (show Kd.M (Kd.int .u8) _ _ _ ((wrap64 (97 + (Int.tmod (wrap64 ((x3_1.length : Int) * 5)) 24))) % 256) [.int .u8 ((wrap64 (97 + (Int.tmod (wrap64 ((x3_1.length : Int) * 5)) 24))) % 256)] from rfl) (Reps.none _ _)));intro v5 w47 ho48 hb hg_ hnew_;clear hg_ hnew_;(first|rw [← Ny4.out] at ho48|(simp only [Int.reduceToNat] at ho48;rw [← Ny4.out] at ho48));have n0_ := Aside0.mk (Kd.R_below (by (with_reducible repeat (first|apply Kd.R_alloc|apply Kd.R_drewN|apply Kd.R_drew));exact HO_3.out) hb);have n1_ := Aside0.mk (Kd.R_lower ho48 (below_size (by repeat (first|(with_reducible first|exact HB.out|apply below_alloc|apply pw_below_drewN|apply below_drew1)|exact HB.out))));have n2_ := Aside0.mk (below_step (by repeat (first|(with_reducible first|exact HB.out|apply below_alloc|apply pw_below_drewN|apply below_drew1)|exact HB.out)) hb);clear HO_3;clear HB;have HO_3 := n0_;have HO6 := n1_;have HB := n2_;clear n0_ n1_ n2_;clear hb ho48;have hcv49 := own_string (P := Try.prog) Try.underlying22 Try.underlying5 Try.underlying9 (Kd.own_of_R HO6.out))|((with_reducible refine gate_callee (f := 83) rfl ?_);refine goesL_ (some 67) rfl rfl Try.func83 (by kernel_rfl) rfl #[.slice Ao46 x3_1.length co46, .string (strOfNums y4), .string x6_11, .agg #[.int .i64 (wrap64 (20 + (wrap64 (rd l0 (ji19))))), .int .i64 (wrap64 (20 + (wrap64 (rd l0 (ji19))))), .int .i64 (wrap64 (20 + (wrap64 (rd l0 (ji19)))))]] rfl (by (try simp only [List.map_toArray, List.map_cons, List.map_nil]);first|done|(simp only [hji19];rfl)|rfl|(simp only [List.length_drop, List.length_take];rfl)) ?_;(with_reducible refine (r10_Create.calls kj11 _ _ x3_1 (strOfNums y4) x6_11 (wrap64 (20 + (wrap64 (rd l0 (ji19))))) (wrap64 (20 + (wrap64 (rd l0 (ji19))))) (wrap64 (20 + (wrap64 (rd l0 (ji19))))) t7 t10 _ ?side1 ?side2 A22.out).mono ?_);(case side1 => repeat (first|exact (Kd.R_reads' HO_3.out).2.2|(with_reducible refine Kd.C_alloc ?_ _)|(with_reducible refine Kd.C_drewN ?_ _)|(with_reducible refine Kd.C_drew ?_)));(case side2 => exact (Kd.R_reads' HO_3.out).2.1);rintro e w50 ⟨v8, rfl, ho0, hb⟩;refine ⟨_, rfl, ?_⟩;have n0_ := Aside0.mk (Kd.R_elder' (by (with_reducible repeat (first|apply Kd.R_alloc|apply Kd.R_drewN|apply Kd.R_drew));exact HO_3.out) (Kd.R_base ho0) hb);have n1_ := Aside0.mk (Kd.R_below (by (with_reducible repeat (first|apply Kd.R_alloc|apply Kd.R_drewN|apply Kd.R_drew));exact HO6.out) hb);have n2_ := Aside0.mk (Kd.R_lower (Kd.R_new' ho0 (Kd.R_lt (by (with_reducible repeat (first|apply Kd.R_alloc|apply Kd.R_drewN|apply Kd.R_drew));exact HO_3.out))) (below_size (by repeat (first|(with_reducible first|exact HB.out|apply below_alloc|apply pw_below_drewN|apply below_drew1)|exact HB.out))));have n3_ := Aside0.mk (below_step (by repeat (first|(with_reducible first|exact HB.out|apply below_alloc|apply pw_below_drewN|apply below_drew1)|exact HB.out)) hb);clear HO_3;clear HO6;clear HB;have HO_3 := n0_;have HO6 := n1_;have HO9 := n2_;have HB := n3_;clear n0_ n1_ n2_ n3_;(try clear hb);(try clear hb2);(try clear hk);(try clear hi);(try clear ho0))|((with_reducible refine gate_dst (N := 8) rfl ?_);(try (refine gate_guard (by rfl) ?_;dsimp only));refine box_event ?hg (N := 8) ?hd (cs := #[.slice none 0 0, .int .i64 0]) (t := 67) ?hr ?_;(case hd => rfl);(case hg => rfl);(case hr => first|(go_simp;done)|(go_simp;rfl));intro gb11 hg w51 hbox hb;have n0_ := Aside0.mk (Kd.R_below (by (with_reducible repeat (first|apply Kd.R_alloc|apply Kd.R_drewN|apply Kd.R_drew));exact HO_3.out) hb);have n1_ := Aside0.mk (Kd.R_below (by (with_reducible repeat (first|apply Kd.R_alloc|apply Kd.R_drewN|apply Kd.R_drew));exact HO6.out) hb);have n2_ := Aside0.mk (Kd.R_below (by (with_reducible repeat (first|apply Kd.R_alloc|apply Kd.R_drewN|apply Kd.R_drew));exact HO9.out) hb);have n3_ := Aside0.mk (below_step (by repeat (first|(with_reducible first|exact HB.out|apply below_alloc|apply pw_below_drewN|apply below_drew1)|exact HB.out)) hb);have n4_ := Aside0.mk (hbox);have n5_ := Aside0.mk ((by rw [hg];exact (below_size (by repeat (first|(with_reducible first|exact HB.out|apply below_alloc|apply pw_below_drewN|apply below_drew1)|exact HB.out))) : w.heap.size ≤ gb11));have n6_ := Aside0.mk ((by rw [hg];exact (below_size (by repeat (first|(with_reducible first|exact HB.out|apply below_alloc|apply pw_below_drewN|apply below_drew1)|exact HB.out))) : w.heap.size ≤ gb11));clear HO_3;clear HO6;clear HO9;clear HB;have HO_3 := n0_;have HO6 := n1_;have HO9 := n2_;have HB := n3_;have BK11 := n4_;have GW11 := n5_;have GE11 := n6_;clear n0_ n1_ n2_ n3_ n4_ n5_ n6_;clear hb hbox hg;obtain ⟨Ao52, co52, eo52⟩ := Kd.R_slice HO9.out;subst eo52;have hcz53_0 : w51.cell? ⟨gb11, 0, none⟩ = some (.slice none 0 0) := (blk_cell BK11.out 0).trans rfl;have hcz53_1 : w51.cell? ⟨gb11, 1, none⟩ = some (.int .i64 0) := (blk_cell BK11.out 1).trans rfl;have hfz53_0 := blk_frozen BK11.out 0;have hfz53_1 := blk_frozen BK11.out 1;have p12 : 0 ≤ ((ji24) : Int) := of_decide_eq_true (by first|(with_reducible assumption)|assumption);have q12 : (ji24) < (l0.length : Int) := of_decide_eq_true (by first|(with_reducible assumption)|assumption);obtain ⟨ad12, e12, hx12_0⟩ := Kd.at_int HR0.out (ji24) p12 q12;obtain rfl : ad1 = ad12 := (by injection e12);have hn12_0 : ad1.block ≠ gb11 := Nat.ne_of_lt (Nat.lt_of_lt_of_le (by have := World.block_lt_of_cell? _ _ hx12_0;first|rwa [add_block] at this|exact this) GW11.out);have hn12_1 : ad1.block ≠ gb11 := Nat.ne_of_lt (Nat.lt_of_lt_of_le (by have := World.block_lt_of_cell? _ _ hx12_0;first|rwa [add_block] at this|exact this) GW11.out);replace hx12_0 := (HB.out.cell (World.block_lt_of_cell? w _ hx12_0)).trans hx12_0;replace hx12_0 := (cell_far (p := ⟨gb11, 0, none⟩) (by first|(rw [add_block];exact hn12_0)|(show (Addr.add _ _).block ≠ _;rw [add_block];exact hn12_0)|exact hn12_0) (.slice Ao52 t7.length co52)).trans hx12_0;replace hx12_0 := (cell_far (p := ⟨gb11, 1, none⟩) (by first|(rw [add_block];exact hn12_1)|(show (Addr.add _ _).block ≠ _;rw [add_block];exact hn12_1)|exact hn12_1) (.int .i64 t10)).trans hx12_0;clear hn12_0;clear hn12_1;replace p12 := eq_true p12;replace q12 := eq_true q12;have p13 : 0 ≤ ((ji24) : Int) := of_decide_eq_true (by first|(with_reducible assumption)|assumption);have q13 : (ji24) < (l0.length : Int) := of_decide_eq_true (by first|(with_reducible assumption)|assumption);obtain ⟨ad13, e13, hx13_0⟩ := Kd.at_int HR0.out (ji24) p13 q13;obtain rfl : ad1 = ad13 := (by injection e13);have hn13_0 : ad1.block ≠ gb11 := Nat.ne_of_lt (Nat.lt_of_lt_of_le (by have := World.block_lt_of_cell? _ _ hx13_0;first|rwa [add_block] at this|exact this) GW11.out);have hn13_1 : ad1.block ≠ gb11 := Nat.ne_of_lt (Nat.lt_of_lt_of_le (by have := World.block_lt_of_cell? _ _ hx13_0;first|rwa [add_block] at this|exact this) GW11.out);replace hx13_0 := (HB.out.cell (World.block_lt_of_cell? w _ hx13_0)).trans hx13_0;replace hx13_0 := (cell_far (p := ⟨gb11, 0, none⟩) (by first|(rw [add_block];exact hn13_0)|(show (Addr.add _ _).block ≠ _;rw [add_block];exact hn13_0)|exact hn13_0) (.slice Ao52 t7.length co52)).trans hx13_0;replace hx13_0 := (cell_far (p := ⟨gb11, 1, none⟩) (by first|(rw [add_block];exact hn13_1)|(show (Addr.add _ _).block ≠ _;rw [add_block];exact hn13_1)|exact hn13_1) (.int .i64 t10)).trans hx13_0;clear hn13_0;clear hn13_1;replace p13 := eq_true p13;replace q13 := eq_true q13;have p14 : 0 ≤ ((ji28) : Int) := of_decide_eq_true (by first|(with_reducible assumption)|assumption);have q14 : (ji28) < (t7.length : Int) := of_decide_eq_true (by first|(with_reducible assumption)|assumption);obtain ⟨ad14, e14, hx14_0, hx14_1, hx14_2, hx14_3, hx14_4, hx14_5, hx14_6, hx14_7, hx14_8, hx14_9, hx14_10, hx14_11⟩ := at_T31 (Kd.R_reads' HO9.out).2.2 (ji28) p14 q14;cases e14;have hn14_0 : ad14.block ≠ gb11 := Kd.own_blk (Kd.R_ne HO9.out BK11.out (by decide));have hn14_1 : ad14.block ≠ gb11 := Kd.own_blk (Kd.R_ne HO9.out BK11.out (by decide));replace hx14_0 := (cell_far (p := ⟨gb11, 0, none⟩) (by first|(rw [add_block];exact hn14_0)|(show (Addr.add _ _).block ≠ _;rw [add_block];exact hn14_0)|exact hn14_0) (.slice (some ad14) t7.length co52)).trans hx14_0;replace hx14_1 := (cell_far (p := ⟨gb11, 0, none⟩) (by first|(rw [add_block];exact hn14_0)|(show (Addr.add _ _).block ≠ _;rw [add_block];exact hn14_0)|exact hn14_0) (.slice (some ad14) t7.length co52)).trans hx14_1;replace hx14_2 := (cell_far (p := ⟨gb11, 0, none⟩) (by first|(rw [add_block];exact hn14_0)|(show (Addr.add _ _).block ≠ _;rw [add_block];exact hn14_0)|exact hn14_0) (.slice (some ad14) t7.length co52)).trans hx14_2;replace hx14_3 := (cell_far (p := ⟨gb11, 0, none⟩) (by first|(rw [add_block];exact hn14_0)|(show (Addr.add _ _).block ≠ _;rw [add_block];exact hn14_0)|exact hn14_0) (.slice (some ad14) t7.length co52)).trans hx14_3;replace hx14_4 := (cell_far (p := ⟨gb11, 0, none⟩) (by first|(rw [add_block];exact hn14_0)|(show (Addr.add _ _).block ≠ _;rw [add_block];exact hn14_0)|exact hn14_0) (.slice (some ad14) t7.length co52)).trans hx14_4;replace hx14_5 := (cell_far (p := ⟨gb11, 0, none⟩) (by first|(rw [add_block];exact hn14_0)|(show (Addr.add _ _).block ≠ _;rw [add_block];exact hn14_0)|exact hn14_0) (.slice (some ad14) t7.length co52)).trans hx14_5;replace hx14_6 := (cell_far (p := ⟨gb11, 0, none⟩) (by first|(rw [add_block];exact hn14_0)|(show (Addr.add _ _).block ≠ _;rw [add_block];exact hn14_0)|exact hn14_0) (.slice (some ad14) t7.length co52)).trans hx14_6;replace hx14_7 := (cell_far (p := ⟨gb11, 0, none⟩) (by first|(rw [add_block];exact hn14_0)|(show (Addr.add _ _).block ≠ _;rw [add_block];exact hn14_0)|exact hn14_0) (.slice (some ad14) t7.length co52)).trans hx14_7;replace hx14_8 := (cell_far (p := ⟨gb11, 0, none⟩) (by first|(rw [add_block];exact hn14_0)|(show (Addr.add _ _).block ≠ _;rw [add_block];exact hn14_0)|exact hn14_0) (.slice (some ad14) t7.length co52)).trans hx14_8;replace hx14_9 := (cell_far (p := ⟨gb11, 0, none⟩) (by first|(rw [add_block];exact hn14_0)|(show (Addr.add _ _).block ≠ _;rw [add_block];exact hn14_0)|exact hn14_0) (.slice (some ad14) t7.length co52)).trans hx14_9;replace hx14_10 := (cell_far (p := ⟨gb11, 0, none⟩) (by first|(rw [add_block];exact hn14_0)|(show (Addr.add _ _).block ≠ _;rw [add_block];exact hn14_0)|exact hn14_0) (.slice (some ad14) t7.length co52)).trans hx14_10;replace hx14_11 := (cell_far (p := ⟨gb11, 0, none⟩) (by first|(rw [add_block];exact hn14_0)|(show (Addr.add _ _).block ≠ _;rw [add_block];exact hn14_0)|exact hn14_0) (.slice (some ad14) t7.length co52)).trans hx14_11;replace hx14_0 := (cell_far (p := ⟨gb11, 1, none⟩) (by first|(rw [add_block];exact hn14_1)|(show (Addr.add _ _).block ≠ _;rw [add_block];exact hn14_1)|exact hn14_1) (.int .i64 t10)).trans hx14_0;replace hx14_1 := (cell_far (p := ⟨gb11, 1, none⟩) (by first|(rw [add_block];exact hn14_1)|(show (Addr.add _ _).block ≠ _;rw [add_block];exact hn14_1)|exact hn14_1) (.int .i64 t10)).trans hx14_1;replace hx14_2 := (cell_far (p := ⟨gb11, 1, none⟩) (by first|(rw [add_block];exact hn14_1)|(show (Addr.add _ _).block ≠ _;rw [add_block];exact hn14_1)|exact hn14_1) (.int .i64 t10)).trans hx14_2;replace hx14_3 := (cell_far (p := ⟨gb11, 1, none⟩) (by first|(rw [add_block];exact hn14_1)|(show (Addr.add _ _).block ≠ _;rw [add_block];exact hn14_1)|exact hn14_1) (.int .i64 t10)).trans hx14_3;replace hx14_4 := (cell_far (p := ⟨gb11, 1, none⟩) (by first|(rw [add_block];exact hn14_1)|(show (Addr.add _ _).block ≠ _;rw [add_block];exact hn14_1)|exact hn14_1) (.int .i64 t10)).trans hx14_4;replace hx14_5 := (cell_far (p := ⟨gb11, 1, none⟩) (by first|(rw [add_block];exact hn14_1)|(show (Addr.add _ _).block ≠ _;rw [add_block];exact hn14_1)|exact hn14_1) (.int .i64 t10)).trans hx14_5;replace hx14_6 := (cell_far (p := ⟨gb11, 1, none⟩) (by first|(rw [add_block];exact hn14_1)|(show (Addr.add _ _).block ≠ _;rw [add_block];exact hn14_1)|exact hn14_1) (.int .i64 t10)).trans hx14_6;replace hx14_7 := (cell_far (p := ⟨gb11, 1, none⟩) (by first|(rw [add_block];exact hn14_1)|(show (Addr.add _ _).block ≠ _;rw [add_block];exact hn14_1)|exact hn14_1) (.int .i64 t10)).trans hx14_7;replace hx14_8 := (cell_far (p := ⟨gb11, 1, none⟩) (by first|(rw [add_block];exact hn14_1)|(show (Addr.add _ _).block ≠ _;rw [add_block];exact hn14_1)|exact hn14_1) (.int .i64 t10)).trans hx14_8;replace hx14_9 := (cell_far (p := ⟨gb11, 1, none⟩) (by first|(rw [add_block];exact hn14_1)|(show (Addr.add _ _).block ≠ _;rw [add_block];exact hn14_1)|exact hn14_1) (.int .i64 t10)).trans hx14_9;replace hx14_10 := (cell_far (p := ⟨gb11, 1, none⟩) (by first|(rw [add_block];exact hn14_1)|(show (Addr.add _ _).block ≠ _;rw [add_block];exact hn14_1)|exact hn14_1) (.int .i64 t10)).trans hx14_10;replace hx14_11 := (cell_far (p := ⟨gb11, 1, none⟩) (by first|(rw [add_block];exact hn14_1)|(show (Addr.add _ _).block ≠ _;rw [add_block];exact hn14_1)|exact hn14_1) (.int .i64 t10)).trans hx14_11;clear hn14_0;clear hn14_1;replace p14 := eq_true p14;replace q14 := eq_true q14)|((with_reducible refine gate_callee (f := 66) rfl ?_);refine goesL_ (some 102) rfl rfl Try.func66 (by kernel_rfl) rfl #[.slice (some ad14) t7.length co52, .string ((rd_T31 t7 (ji28)).f0), .agg #[.int .i64 (Int.tmod (wrap64 (rd l0 (ji24))) 16), .int .i64 (wrap64 (Int.tdiv (Int.tmod (wrap64 (rd l0 (ji24))) 16) 2)), .int .i64 (Int.tmod (Int.tmod (wrap64 (rd l0 (ji24))) 16) 3)]] rfl (by (try simp only [List.map_toArray, List.map_cons, List.map_nil]);first|done|(simp only [hji24, hji28];rfl)|rfl|(simp only [List.length_drop, List.length_take];rfl)) ?_;(with_reducible refine (r10_Admit.calls kj11 _ _ t7 ((rd_T31 t7 (ji28)).f0) (Int.tmod (wrap64 (rd l0 (ji24))) 16) (wrap64 (Int.tdiv (Int.tmod (wrap64 (rd l0 (ji24))) 16) 2)) (Int.tmod (Int.tmod (wrap64 (rd l0 (ji24))) 16) 3) t15 t18 _ ?side1 ?side2 A31.out).mono ?_);(case side1 => refine (Kd.R_reads' (e := 31) (base := w.heap.size) (ok := fun k_ => (True ∧ some k_ ≠ (.slice Ao46 x3_1.length co46 : Value).ownBlock)) (n := t7.length) (c := co52) ?_).2.2;exact (by (with_reducible repeat (first|apply Kd.R_alloc|apply Kd.R_drewN|apply Kd.R_drew));exact (Kd.R_mono (Kd.R_far (p := ⟨gb11, 1, none⟩) (Kd.R_far (p := ⟨gb11, 0, none⟩) (Kd.R_types HO9.out BK11.out (by decide)) (fun _ hk => hk.2) (.slice (some ad14) t7.length co52)) (fun _ hk => hk.2) (.int .i64 t10)) (fun _ h_ => h_.1))));(case side2 => exact (Kd.R_reads' HO9.out).2.1);rintro e w54 ⟨v16, rfl, ho0, hb⟩;refine ⟨_, rfl, ?_⟩;have n0_ := Aside0.mk (Kd.R_elder' (by (with_reducible repeat (first|apply Kd.R_alloc|apply Kd.R_drewN|apply Kd.R_drew));exact (Kd.R_mono (Kd.R_far (p := ⟨gb11, 1, none⟩) (Kd.R_far (p := ⟨gb11, 0, none⟩) (Kd.R_types HO_3.out BK11.out (by decide)) (fun _ hk => hk.2) (.slice (some ad14) t7.length co52)) (fun _ hk => hk.2) (.int .i64 t10)) (fun _ h_ => h_.1))) (Kd.R_base ho0) hb);have n1_ := Aside0.mk (Kd.R_below (by (with_reducible repeat (first|apply Kd.R_alloc|apply Kd.R_drewN|apply Kd.R_drew));exact (Kd.R_mono (Kd.R_far (p := ⟨gb11, 1, none⟩) (Kd.R_far (p := ⟨gb11, 0, none⟩) (Kd.R_types HO6.out BK11.out (by decide)) (fun _ hk => hk.2) (.slice (some ad14) t7.length co52)) (fun _ hk => hk.2) (.int .i64 t10)) (fun _ h_ => h_.1))) hb);have n2_ := Aside0.mk (Kd.R_elder' (by (with_reducible repeat (first|apply Kd.R_alloc|apply Kd.R_drewN|apply Kd.R_drew));exact (Kd.R_mono (Kd.R_far (p := ⟨gb11, 1, none⟩) (Kd.R_far (p := ⟨gb11, 0, none⟩) (Kd.R_types HO9.out BK11.out (by decide)) (fun _ hk => hk.2) (.slice (some ad14) t7.length co52)) (fun _ hk => hk.2) (.int .i64 t10)) (fun _ h_ => h_.1))) (Kd.R_base ho0) hb);have n3_ := Aside0.mk (Kd.R_lower (Kd.R_new' (Kd.R_new' ho0 (Kd.R_lt (by (with_reducible repeat (first|apply Kd.R_alloc|apply Kd.R_drewN|apply Kd.R_drew));exact (Kd.R_mono (Kd.R_far (p := ⟨gb11, 1, none⟩) (Kd.R_far (p := ⟨gb11, 0, none⟩) (Kd.R_types HO_3.out BK11.out (by decide)) (fun _ hk => hk.2) (.slice (some ad14) t7.length co52)) (fun _ hk => hk.2) (.int .i64 t10)) (fun _ h_ => h_.1))))) (Kd.R_lt (by (with_reducible repeat (first|apply Kd.R_alloc|apply Kd.R_drewN|apply Kd.R_drew));exact (Kd.R_mono (Kd.R_far (p := ⟨gb11, 1, none⟩) (Kd.R_far (p := ⟨gb11, 0, none⟩) (Kd.R_types HO9.out BK11.out (by decide)) (fun _ hk => hk.2) (.slice (some ad14) t7.length co52)) (fun _ hk => hk.2) (.int .i64 t10)) (fun _ h_ => h_.1))))) (below_size (by repeat (first|(with_reducible first|exact HB.out|apply below_alloc|apply pw_below_drewN|apply below_drew1|refine below_set ?_ GE11.out)|exact HB.out))));have n4_ := Aside0.mk (blk_below (g := gb11) (o := .cells #[.slice (some ad14) t7.length co52, .int .i64 t10] 67 (0, 0)) (by (with_reducible repeat (first|refine blk_drewN ?_ _|refine blk_drew ?_|refine blk_alloc ?_ _));refine blk_put (cs := #[.slice (some ad14) t7.length co52, .int .i64 0]) ?_ 1 _ rfl;(with_reducible repeat (first|refine blk_drewN ?_ _|refine blk_drew ?_|refine blk_alloc ?_ _));refine blk_put (cs := #[.slice none 0 0, .int .i64 0]) ?_ 0 _ rfl;(with_reducible repeat (first|refine blk_drewN ?_ _|refine blk_drew ?_|refine blk_alloc ?_ _));exact BK11.out) hb);have n5_ := Aside0.mk (below_step (by repeat (first|(with_reducible first|exact HB.out|apply below_alloc|apply pw_below_drewN|apply below_drew1|refine below_set ?_ GE11.out)|exact HB.out)) hb);clear HO_3;clear HO6;clear HO9;clear BK11;clear HB;have HO_3 := n0_;have HO6 := n1_;have HO9 := n2_;have HO17 := n3_;have BK11 := n4_;have HB := n5_;clear n0_ n1_ n2_ n3_ n4_ n5_;(try clear hb);(try clear hb2);(try clear hk);(try clear hi);(try clear ho0))|((with_reducible refine gate_dst (N := 11) rfl ?_);(try (refine gate_guard (by rfl) ?_;dsimp only));refine box_event ?hg (N := 11) ?hd (cs := #[.slice none 0 0, .int .i64 0]) (t := 67) ?hr ?_;(case hd => rfl);(case hg => rfl);(case hr => first|(go_simp;done)|(go_simp;rfl));intro gb19 hg w55 hbox hb;have n0_ := Aside0.mk (Kd.R_below (by (with_reducible repeat (first|apply Kd.R_alloc|apply Kd.R_drewN|apply Kd.R_drew));exact HO_3.out) hb);have n1_ := Aside0.mk (Kd.R_below (by (with_reducible repeat (first|apply Kd.R_alloc|apply Kd.R_drewN|apply Kd.R_drew));exact HO6.out) hb);have n2_ := Aside0.mk (Kd.R_below (by (with_reducible repeat (first|apply Kd.R_alloc|apply Kd.R_drewN|apply Kd.R_drew));exact HO9.out) hb);have n3_ := Aside0.mk (Kd.R_below (by (with_reducible repeat (first|apply Kd.R_alloc|apply Kd.R_drewN|apply Kd.R_drew));exact HO17.out) hb);have n4_ := Aside0.mk (blk_below (g := gb11) (o := .cells #[.slice (some ad14) t7.length co52, .int .i64 t10] 67 (0, 0)) (by (with_reducible repeat (first|refine blk_drewN ?_ _|refine blk_drew ?_|refine blk_alloc ?_ _));exact BK11.out) hb);have n5_ := Aside0.mk (below_step (by repeat (first|(with_reducible first|exact HB.out|apply below_alloc|apply pw_below_drewN|apply below_drew1|refine below_set ?_ GE11.out)|exact HB.out)) hb);have n6_ := Aside0.mk (hbox);have n7_ := Aside0.mk ((by rw [hg];exact (below_size (by repeat (first|(with_reducible first|exact HB.out|apply below_alloc|apply pw_below_drewN|apply below_drew1|refine below_set ?_ GE11.out)|exact HB.out))) : w.heap.size ≤ gb19));have n8_ := Aside0.mk ((by rw [hg];exact (below_size (by repeat (first|(with_reducible first|exact HB.out|apply below_alloc|apply pw_below_drewN|apply below_drew1|refine below_set ?_ GE11.out)|exact HB.out))) : w.heap.size ≤ gb19));have n9_ := Aside0.mk ((by rw [hg];exact Nat.ne_of_lt (blk_lt (g := gb11) (o := .cells #[.slice (some ad14) t7.length co52, .int .i64 t10] 67 (0, 0)) (by (with_reducible repeat (first|refine blk_drewN ?_ _|refine blk_drew ?_|refine blk_alloc ?_ _));exact BK11.out)) : gb11 ≠ gb19));have n10_ := Aside0.mk ((by rw [hg];exact Nat.ne_of_gt (blk_lt (g := gb11) (o := .cells #[.slice (some ad14) t7.length co52, .int .i64 t10] 67 (0, 0)) (by (with_reducible repeat (first|refine blk_drewN ?_ _|refine blk_drew ?_|refine blk_alloc ?_ _));exact BK11.out)) : gb19 ≠ gb11));clear HO_3;clear HO6;clear HO9;clear HO17;clear BK11;clear HB;have HO_3 := n0_;have HO6 := n1_;have HO9 := n2_;have HO17 := n3_;have BK11 := n4_;have HB := n5_;have BK19 := n6_;have GW19 := n7_;have GE19 := n8_;have NB11_19 := n9_;have NB19_11 := n10_;clear n0_ n1_ n2_ n3_ n4_ n5_ n6_ n7_ n8_ n9_ n10_;clear hb hbox hg;obtain ⟨Ao56, co56, eo56⟩ := Kd.R_slice HO17.out;subst eo56;have hnb57 := NB19_11.out;have hnc57 := NB11_19.out;have hcz58_0 : w55.cell? ⟨gb19, 0, none⟩ = some (.slice none 0 0) := (blk_cell BK19.out 0).trans rfl;have hcz58_1 : w55.cell? ⟨gb19, 1, none⟩ = some (.int .i64 0) := (blk_cell BK19.out 1).trans rfl;have hfz58_0 := blk_frozen BK19.out 0;have hfz58_1 := blk_frozen BK19.out 1))
                     go_roundg kj11
                     case measure => have := HK1.out; have := HJ1.out; have := HJ7.out; have := HJ11.out; omega
                     case rel => exact ⟨(t7), (wrap64 (x4_1 + 3)), (by first|rfl|(simp;done)|(simp [*];done)), H', ⟨by have := HK1.out;have := HJ1.out;have := HJ7.out;have := HJ11.out;omega⟩, ⟨by (with_reducible repeat (first|apply Kd.R_alloc|apply Kd.R_drewN|apply Kd.R_drew));exact Kd.R_mono (Kd.R_far (p := ⟨gb19, 1, none⟩) (Kd.R_far (p := ⟨gb19, 0, none⟩) (Kd.R_types HO9.out BK19.out (by decide)) (fun _ hk => hk.2) (.slice Ao56 t15.length co56)) (fun _ hk => hk.2) (.int .i64 t18)) (fun _ hk => trivial)⟩, ⟨by repeat (first|(with_reducible first|exact HB.out|apply below_alloc|apply pw_below_drewN|apply below_drew1|refine below_set ?_ GE11.out|refine below_set ?_ GE19.out)|exact HB.out)⟩⟩
                   ·rw [if_neg c30] at H
                    exact absurd H (by simp)
                  ·rw [if_neg c29] at H
                   exact absurd H (by simp)
                ·rw [if_neg c26] at H
                 exact absurd H (by simp)
               ·rw [if_neg c25] at H
                exact absurd H (by simp)
              ·rw [if_neg c23] at H
               have c23b0 : (t10 == 0) = false := beq_eq_false_iff_ne.mpr c23
               have c23b1 : (t10 != 0) = true := bne_iff_ne.mpr c23
               have H' := Aside0.mk H
               clear H
               have p3 : 0 ≤ ((ji19) : Int) := of_decide_eq_true (by first|(with_reducible assumption)|assumption)
               have q3 : (ji19) < (l0.length : Int) := of_decide_eq_true (by first|(with_reducible assumption)|assumption)
               obtain ⟨ad3, e3, hx3_0⟩ := Kd.at_int HR0.out (ji19) p3 q3
               obtain rfl : ad1 = ad3 := (by injection e3)
               replace hx3_0 := (HB.out.cell (World.block_lt_of_cell? w _ hx3_0)).trans hx3_0
               replace p3 := eq_true p3
               replace q3 := eq_true q3
               obtain ⟨Ao59, co59, eo59⟩ := Kd.R_slice HO_3.out
               subst eo59
               go_wp2_with (first|((with_reducible refine gate_dst (N := 60) rfl ?_);(try (refine gate_guard (by rfl) ?_;dsimp only));refine Kd.R_lit (Kd.int .u8) _ 5 ?hg (N := 60) ?hd (xs := ([(wrap64 (97 + (Int.tmod (wrap64 ((x3_1.length : Int) * 5)) 24))) % 256] : List Int)) (inner := [.int .u8 ((wrap64 (97 + (Int.tmod (wrap64 ((x3_1.length : Int) * 5)) 24))) % 256)]) (ok := fun _ => True) (okp := fun _ => True) ?hr ?hp (fun _ hk => hk) trivial (Below.refl _ _) (Nat.le_refl _) (by simp) ?_;(case hd => rfl);(case hg => rfl);(case hr => first|(go_simp;done)|(go_simp;rfl));(case hp => exact (Reps.one (show Kd.M (Kd.int .u8) _ _ _ ((wrap64 (97 + (Int.tmod (wrap64 ((x3_1.length : Int) * 5)) 24))) % 256) [.int .u8 ((wrap64 (97 + (Int.tmod (wrap64 ((x3_1.length : Int) * 5)) 24))) % 256)] from rfl) (Reps.none _ _)));intro v5 w60 ho61 hb hg_ hnew_;clear hg_ hnew_;(first|rw [← Ny4.out] at ho61|(simp only [Int.reduceToNat] at ho61;rw [← Ny4.out] at ho61));have n0_ := Aside0.mk (Kd.R_below (by (with_reducible repeat (first|apply Kd.R_alloc|apply Kd.R_drewN|apply Kd.R_drew));exact HO_3.out) hb);have n1_ := Aside0.mk (Kd.R_lower ho61 (below_size (by repeat (first|(with_reducible first|exact HB.out|apply below_alloc|apply pw_below_drewN|apply below_drew1)|exact HB.out))));have n2_ := Aside0.mk (below_step (by repeat (first|(with_reducible first|exact HB.out|apply below_alloc|apply pw_below_drewN|apply below_drew1)|exact HB.out)) hb);clear HO_3;clear HB;have HO_3 := n0_;have HO6 := n1_;have HB := n2_;clear n0_ n1_ n2_;clear hb ho61;have hcv62 := own_string (P := Try.prog) Try.underlying22 Try.underlying5 Try.underlying9 (Kd.own_of_R HO6.out))|((with_reducible refine gate_callee (f := 83) rfl ?_);refine goesL_ (some 67) rfl rfl Try.func83 (by kernel_rfl) rfl #[.slice Ao59 x3_1.length co59, .string (strOfNums y4), .string x6_11, .agg #[.int .i64 (wrap64 (20 + (wrap64 (rd l0 (ji19))))), .int .i64 (wrap64 (20 + (wrap64 (rd l0 (ji19))))), .int .i64 (wrap64 (20 + (wrap64 (rd l0 (ji19)))))]] rfl (by (try simp only [List.map_toArray, List.map_cons, List.map_nil]);first|done|(simp only [hji19];rfl)|rfl|(simp only [List.length_drop, List.length_take];rfl)) ?_;(with_reducible refine (r10_Create.calls kj11 _ _ x3_1 (strOfNums y4) x6_11 (wrap64 (20 + (wrap64 (rd l0 (ji19))))) (wrap64 (20 + (wrap64 (rd l0 (ji19))))) (wrap64 (20 + (wrap64 (rd l0 (ji19))))) t7 t10 _ ?side1 ?side2 A22.out).mono ?_);(case side1 => repeat (first|exact (Kd.R_reads' HO_3.out).2.2|(with_reducible refine Kd.C_alloc ?_ _)|(with_reducible refine Kd.C_drewN ?_ _)|(with_reducible refine Kd.C_drew ?_)));(case side2 => exact (Kd.R_reads' HO_3.out).2.1);rintro e w63 ⟨v8, rfl, ho0, hb⟩;refine ⟨_, rfl, ?_⟩;have n0_ := Aside0.mk (Kd.R_elder' (by (with_reducible repeat (first|apply Kd.R_alloc|apply Kd.R_drewN|apply Kd.R_drew));exact HO_3.out) (Kd.R_base ho0) hb);have n1_ := Aside0.mk (Kd.R_below (by (with_reducible repeat (first|apply Kd.R_alloc|apply Kd.R_drewN|apply Kd.R_drew));exact HO6.out) hb);have n2_ := Aside0.mk (Kd.R_lower (Kd.R_new' ho0 (Kd.R_lt (by (with_reducible repeat (first|apply Kd.R_alloc|apply Kd.R_drewN|apply Kd.R_drew));exact HO_3.out))) (below_size (by repeat (first|(with_reducible first|exact HB.out|apply below_alloc|apply pw_below_drewN|apply below_drew1)|exact HB.out))));have n3_ := Aside0.mk (below_step (by repeat (first|(with_reducible first|exact HB.out|apply below_alloc|apply pw_below_drewN|apply below_drew1)|exact HB.out)) hb);clear HO_3;clear HO6;clear HB;have HO_3 := n0_;have HO6 := n1_;have HO9 := n2_;have HB := n3_;clear n0_ n1_ n2_ n3_;(try clear hb);(try clear hb2);(try clear hk);(try clear hi);(try clear ho0))|((with_reducible refine gate_dst (N := 8) rfl ?_);(try (refine gate_guard (by rfl) ?_;dsimp only));refine box_event ?hg (N := 8) ?hd (cs := #[.slice none 0 0, .int .i64 0]) (t := 67) ?hr ?_;(case hd => rfl);(case hg => rfl);(case hr => first|(go_simp;done)|(go_simp;rfl));intro gb11 hg w64 hbox hb;have n0_ := Aside0.mk (Kd.R_below (by (with_reducible repeat (first|apply Kd.R_alloc|apply Kd.R_drewN|apply Kd.R_drew));exact HO_3.out) hb);have n1_ := Aside0.mk (Kd.R_below (by (with_reducible repeat (first|apply Kd.R_alloc|apply Kd.R_drewN|apply Kd.R_drew));exact HO6.out) hb);have n2_ := Aside0.mk (Kd.R_below (by (with_reducible repeat (first|apply Kd.R_alloc|apply Kd.R_drewN|apply Kd.R_drew));exact HO9.out) hb);have n3_ := Aside0.mk (below_step (by repeat (first|(with_reducible first|exact HB.out|apply below_alloc|apply pw_below_drewN|apply below_drew1)|exact HB.out)) hb);have n4_ := Aside0.mk (hbox);have n5_ := Aside0.mk ((by rw [hg];exact (below_size (by repeat (first|(with_reducible first|exact HB.out|apply below_alloc|apply pw_below_drewN|apply below_drew1)|exact HB.out))) : w.heap.size ≤ gb11));have n6_ := Aside0.mk ((by rw [hg];exact (below_size (by repeat (first|(with_reducible first|exact HB.out|apply below_alloc|apply pw_below_drewN|apply below_drew1)|exact HB.out))) : w.heap.size ≤ gb11));clear HO_3;clear HO6;clear HO9;clear HB;have HO_3 := n0_;have HO6 := n1_;have HO9 := n2_;have HB := n3_;have BK11 := n4_;have GW11 := n5_;have GE11 := n6_;clear n0_ n1_ n2_ n3_ n4_ n5_ n6_;clear hb hbox hg;obtain ⟨Ao65, co65, eo65⟩ := Kd.R_slice HO9.out;subst eo65;have hcz66_0 : w64.cell? ⟨gb11, 0, none⟩ = some (.slice none 0 0) := (blk_cell BK11.out 0).trans rfl;have hcz66_1 : w64.cell? ⟨gb11, 1, none⟩ = some (.int .i64 0) := (blk_cell BK11.out 1).trans rfl;have hfz66_0 := blk_frozen BK11.out 0;have hfz66_1 := blk_frozen BK11.out 1))
               go_roundg kj11
               case measure => have := HK1.out; have := HJ1.out; have := HJ7.out; have := HJ11.out; omega
               case rel => exact ⟨(x3_1), (wrap64 (x4_1 + 3)), (by first|rfl|(simp;done)|(simp [*];done)), H', ⟨by have := HK1.out;have := HJ1.out;have := HJ7.out;have := HJ11.out;omega⟩, ⟨by (with_reducible repeat (first|apply Kd.R_alloc|apply Kd.R_drewN|apply Kd.R_drew));exact Kd.R_mono (Kd.R_far (p := ⟨gb11, 1, none⟩) (Kd.R_far (p := ⟨gb11, 0, none⟩) (Kd.R_types HO_3.out BK11.out (by decide)) (fun _ hk => hk.2) (.slice Ao65 t7.length co65)) (fun _ hk => hk.2) (.int .i64 t10)) (fun _ hk => trivial)⟩, ⟨by repeat (first|(with_reducible first|exact HB.out|apply below_alloc|apply pw_below_drewN|apply below_drew1|refine below_set ?_ GE11.out)|exact HB.out)⟩⟩
             ·rw [if_neg c21] at H
              exact absurd H (by simp)
            ·rw [if_neg c20] at H
             exact absurd H (by simp)
       ·rw [if_neg c7] at H
        exact absurd H (by simp)
      ·rw [if_neg c6] at H
       exact absurd H (by simp)
     ·replace c5 := Bool.eq_false_iff.mpr c5
      subst c5
      have H1 : (some x3_1) = some r := by rw [if_neg (show ¬ (false = true) by decide)] at H; exact H
      clear H
      have H := H1
      clear H1
      obtain rfl := Option.some.inj H
      go_wp2
      go_ret
      exact ⟨_, by first|rfl|(simp [errW_none, errW_some] <;> rfl)|(simp [*, errW_none, errW_some] <;> rfl), by (with_reducible repeat (first|apply Kd.R_alloc|apply Kd.R_drewN|apply Kd.R_drew));exact HO_3.out, by repeat (first|(with_reducible first|exact HB.out|apply below_alloc|apply pw_below_drewN|apply below_drew1)|exact HB.out)⟩
end Go.Proofs.Ytcgefpklljclgaa.Print

namespace Go.Proofs.Ytcgefpklljclgaa.Print
open Go.RowKit Go.Proofs.YtcgefpklljclgaaW.PrintWords Go.Proofs.YtcgefpklljclgaaW.PrintLast Go.Proofs.YtcgefpklljclgaaW.PrintMore
attribute [local go_sem] max2_int min2_int max_two min_two max_three min_three max_four min_four   -- for this text's walks alone
set_option linter.unusedVariables false
set_option linter.unusedSimpArgs false
/-! ### tree_Below: function 73 -/
def tree_Below.l0 : Nat → ByteArray → List ByteArray → List (S31) → Int → Int → Option (List ByteArray)
 | 0, _, _, _, _, _ => none
 | k + 1, x1, x5, x8, x9, x10 => if x10 < x9 then (if 0 ≤ x10 then (if x10 < (x8.length : Int) then (if ((rd_T31 x8 x10).f1).toList = x1.toList then (if x5.length < 8796093022208 then (tree_Below.l0 k x1 (x5 ++ [(rd_T31 x8 x10).f0]) x8 x9 (wrap64 (x10 + 1))) else (none)) else (tree_Below.l0 k x1 x5 x8 x9 (wrap64 (x10 + 1)))) else (none)) else (none)) else (some x5)
def tree_Below.f (k : Nat) (l0 : List (S31)) (a1 : ByteArray) : Option (List ByteArray) := tree_Below.l0 k a1 ([] : List ByteArray) l0 (l0.length : Int) 0
theorem tree_Below.mono_l : ∀ k, (∀ y0 y1 y2 y3 y4, LeO (tree_Below.l0 k y0 y1 y2 y3 y4) (tree_Below.l0 (k + 1) y0 y1 y2 y3 y4))
 | 0 => fun _ _ _ _ _ r h => by simp [tree_Below.l0] at h
 | k + 1 => by
  have ih0 := tree_Below.mono_l k
  ·intro y0 y1 y2 y3 y4
   unfold tree_Below.l0
   repeat' first
   | (with_reducible exact ih0 _ _ _ _ _)
   | (with_reducible exact LeO.refl _)
   | (with_reducible exact LeO.none _)
   | (with_reducible refine LeO.ite ?_ ?_)
   | (with_reducible refine LeO.bind ?_ (fun _ => ?_))
   | exact ih0 _ _ _ _ _
   | exact LeO.none _
   | refine LeO.ite ?_ ?_
   | refine LeO.bind ?_ (fun _ => ?_)
theorem tree_Below.mono : ∀ a0 a1 k, LeO (tree_Below.f k a0 a1) (tree_Below.f (k + 1) a0 a1) := by
 intro a0 a1 k
 have ih0 := tree_Below.mono_l k
 unfold tree_Below.f
 repeat' first
   | (with_reducible exact ih0 _ _ _ _ _)
   | (with_reducible exact LeO.refl _)
   | (with_reducible exact LeO.none _)
   | (with_reducible refine LeO.ite ?_ ?_)
   | (with_reducible refine LeO.bind ?_ (fun _ => ?_))
   | exact ih0 _ _ _ _ _
   | exact LeO.none _
   | refine LeO.ite ?_ ?_
   | refine LeO.bind ?_ (fun _ => ?_)
set_option maxHeartbeats 8000000 in
set_option maxRecDepth 100000 in
theorem tree_Below.calls (k : Nat) (A0 : Option Addr) (c0 : Nat) (l0 : List (S31)) (a1 : ByteArray) (r : List ByteArray) (w : World) (hr0 : Kd.C k31 w A0 l0.length l0) (hc0 : l0.length ≤ c0) (h : tree_Below.f k l0 a1 = some r) :
  Calls Try.prog 73 #[.slice A0 l0.length c0, .string a1] w fun e w' => ∃ v0_ : Value, e = .returned (v0_) ∧ Kd.R Kd.string 9 w' w.heap.size (fun _ => True) v0_ r ∧ Below w.heap.size w w' := by
 have hu31 := Try.underlying31
 have HR0 := Aside0.mk hr0
 have HC0 := Aside0.mk hc0
 clear hr0 hc0
 have HB := Aside0.mk (Below.refl w.heap.size w)
 have H : (tree_Below.l0 k a1 ([] : List ByteArray) l0 (l0.length : Int) 0) = some r := h
 clear h
 have H' := Aside0.mk H
 clear H
 go_enter Try.func73, Try.ntmps73
 go_wp2
 go_loopg [5, 10] k (fun kq v5 v10 w' => ∃ (x5_1 : List ByteArray) (x10_1 : Int), v10 = .int .i64 x10_1 ∧ Aside0 (tree_Below.l0 kq a1 x5_1 l0 (l0.length : Int) x10_1 = some r) ∧ Aside0 (kq ≤ k) ∧ Aside0 (Kd.R Kd.string 9 w' w.heap.size (fun _ => True) v5 x5_1) ∧ Aside0 (Below w.heap.size w w'))
 case atStart => exact ⟨(([] : List ByteArray)), (0), (by first|rfl|(simp;done)|(simp [*];done)), H', ⟨Nat.le_refl _⟩, ⟨by first|exact Kd.R_nil _ _ _ _ _|exact Kd.N_nil _ _ _ _ _|exact Kd.V_nil _ _ _ _ _|exact Kd.Q_nil _ _ _ _ _|exact Kd.S_nil _ _ _ _ _⟩, ⟨by repeat (first|(with_reducible first|exact HB.out|apply below_alloc|apply pw_below_drewN|apply below_drew1)|exact HB.out)⟩⟩
 case round =>
  clear H'
  try clear p2
  obtain ⟨x5_1, x10_1, rfl, HA, HK1, HO_5, HB⟩ := hrel
  cases gk with
  | zero => exact absurd HA.out (by simp [tree_Below.l0])
  | succ k1 =>
   have H := HA.out
   clear HA
   simp only [tree_Below.l0] at H
   by_cases c3 : x10_1 < (l0.length : Int)
   ·rw [if_pos c3] at H
    have c3b0 : decide (x10_1 < (l0.length : Int)) = true := decide_eq_true c3
    clear c3
    by_cases c4 : 0 ≤ x10_1
    ·rw [if_pos c4] at H
     have c4b0 : decide (0 ≤ x10_1) = true := decide_eq_true c4
     clear c4
     by_cases c5 : x10_1 < (l0.length : Int)
     ·rw [if_pos c5] at H
      have c5b0 : decide (x10_1 < (l0.length : Int)) = true := decide_eq_true c5
      clear c5
      by_cases c6 : ((rd_T31 l0 x10_1).f1).toList = a1.toList
      ·rw [if_pos c6] at H
       have c6b0 : (((rd_T31 l0 x10_1).f1).toList == a1.toList) = true := beq_iff_eq.mpr c6
       have c6b1 : (((rd_T31 l0 x10_1).f1).toList != a1.toList) = false := bne_eq_false_iff_eq.mpr c6
       clear c6
       by_cases c7 : x5_1.length < 8796093022208
       ·rw [if_pos c7] at H
        have LMc7 := Aside0.mk c7
        clear c7
        obtain ⟨y3, hy3⟩ : ∃ y_ : List ByteArray, y_ = (x5_1 ++ [(rd_T31 l0 x10_1).f0]) := ⟨_, rfl⟩
        replace H : (tree_Below.l0 k1 a1 y3 l0 (l0.length : Int) (wrap64 (x10_1 + 1))) = some r := by first|(rw [hy3];with_reducible exact H)|(have H2_ := (Option.bind_some _ _).symm.trans H;rw [hy3];with_reducible exact H2_)|(have H2_ := (Option.bind_some _ _).symm.trans H;with_reducible exact H2_)|with_reducible exact H|(rw [hy3];exact H)|exact H
        have Ny3 := Aside0.mk hy3
        clear hy3
        have H' := Aside0.mk H
        clear H
        have p1 : 0 ≤ (x10_1 : Int) := of_decide_eq_true (by first|(with_reducible assumption)|assumption)
        have q1 : x10_1 < (l0.length : Int) := of_decide_eq_true (by first|(with_reducible assumption)|assumption)
        obtain ⟨ad1, e1, hx1_0, hx1_1, hx1_2, hx1_3, hx1_4, hx1_5, hx1_6, hx1_7, hx1_8, hx1_9, hx1_10, hx1_11⟩ := at_T31 HR0.out x10_1 p1 q1
        cases e1
        replace hx1_0 := (HB.out.cell (World.block_lt_of_cell? w _ hx1_0)).trans hx1_0
        replace hx1_1 := (HB.out.cell (World.block_lt_of_cell? w _ hx1_1)).trans hx1_1
        replace hx1_2 := (HB.out.cell (World.block_lt_of_cell? w _ hx1_2)).trans hx1_2
        replace hx1_3 := (HB.out.cell (World.block_lt_of_cell? w _ hx1_3)).trans hx1_3
        replace hx1_4 := (HB.out.cell (World.block_lt_of_cell? w _ hx1_4)).trans hx1_4
        replace hx1_5 := (HB.out.cell (World.block_lt_of_cell? w _ hx1_5)).trans hx1_5
        replace hx1_6 := (HB.out.cell (World.block_lt_of_cell? w _ hx1_6)).trans hx1_6
        replace hx1_7 := (HB.out.cell (World.block_lt_of_cell? w _ hx1_7)).trans hx1_7
        replace hx1_8 := (HB.out.cell (World.block_lt_of_cell? w _ hx1_8)).trans hx1_8
        replace hx1_9 := (HB.out.cell (World.block_lt_of_cell? w _ hx1_9)).trans hx1_9
        replace hx1_10 := (HB.out.cell (World.block_lt_of_cell? w _ hx1_10)).trans hx1_10
        replace hx1_11 := (HB.out.cell (World.block_lt_of_cell? w _ hx1_11)).trans hx1_11
        replace p1 := eq_true p1
        replace q1 := eq_true q1
        go_wp2_with (first|((with_reducible refine gate_dst (N := 7) rfl ?_);refine box_event ?hg (N := 7) ?hd (cs := #[.string (⟨#[]⟩ : ByteArray), .string (⟨#[]⟩ : ByteArray), .int .i64 0, .int .i64 0, .int .i64 0, .int .i64 0, .int .i64 0, .int .i64 0, .int .i64 0, .int .i64 0, .int .i64 0, .int .i64 0]) (t := 31) ?hr ?_;(case hd => rfl);(case hg => rfl);(case hr => first|(go_simp;done)|(go_simp;rfl));intro gb2 hg w8 hbox hb;have n0_ := Aside0.mk (Kd.R_below (by (with_reducible repeat (first|apply Kd.R_alloc|apply Kd.R_drewN|apply Kd.R_drew));exact HO_5.out) hb);have n1_ := Aside0.mk (below_step (by repeat (first|(with_reducible first|exact HB.out|apply below_alloc|apply pw_below_drewN|apply below_drew1)|exact HB.out)) hb);have n2_ := Aside0.mk (hbox);have n3_ := Aside0.mk ((by rw [hg];exact (below_size (by repeat (first|(with_reducible first|exact HB.out|apply below_alloc|apply pw_below_drewN|apply below_drew1)|exact HB.out))) : w.heap.size ≤ gb2));have n4_ := Aside0.mk ((by rw [hg];exact (below_size (by repeat (first|(with_reducible first|exact HB.out|apply below_alloc|apply pw_below_drewN|apply below_drew1)|exact HB.out))) : w.heap.size ≤ gb2));clear HO_5;clear HB;have HO_5 := n0_;have HB := n1_;have BK2 := n2_;have GW2 := n3_;have GE2 := n4_;clear n0_ n1_ n2_ n3_ n4_;clear hb hbox hg;have hcz9_0 : w8.cell? ⟨gb2, 0, none⟩ = some (.string (⟨#[]⟩ : ByteArray)) := (blk_cell BK2.out 0).trans rfl;have hcz9_1 : w8.cell? ⟨gb2, 1, none⟩ = some (.string (⟨#[]⟩ : ByteArray)) := (blk_cell BK2.out 1).trans rfl;have hcz9_2 : w8.cell? ⟨gb2, 2, none⟩ = some (.int .i64 0) := (blk_cell BK2.out 2).trans rfl;have hcz9_3 : w8.cell? ⟨gb2, 3, none⟩ = some (.int .i64 0) := (blk_cell BK2.out 3).trans rfl;have hcz9_4 : w8.cell? ⟨gb2, 4, none⟩ = some (.int .i64 0) := (blk_cell BK2.out 4).trans rfl;have hcz9_5 : w8.cell? ⟨gb2, 5, none⟩ = some (.int .i64 0) := (blk_cell BK2.out 5).trans rfl;have hcz9_6 : w8.cell? ⟨gb2, 6, none⟩ = some (.int .i64 0) := (blk_cell BK2.out 6).trans rfl;have hcz9_7 : w8.cell? ⟨gb2, 7, none⟩ = some (.int .i64 0) := (blk_cell BK2.out 7).trans rfl;have hcz9_8 : w8.cell? ⟨gb2, 8, none⟩ = some (.int .i64 0) := (blk_cell BK2.out 8).trans rfl;have hcz9_9 : w8.cell? ⟨gb2, 9, none⟩ = some (.int .i64 0) := (blk_cell BK2.out 9).trans rfl;have hcz9_10 : w8.cell? ⟨gb2, 10, none⟩ = some (.int .i64 0) := (blk_cell BK2.out 10).trans rfl;have hcz9_11 : w8.cell? ⟨gb2, 11, none⟩ = some (.int .i64 0) := (blk_cell BK2.out 11).trans rfl;have hfz9_0 := blk_frozen BK2.out 0;have hfz9_1 := blk_frozen BK2.out 1;have hfz9_2 := blk_frozen BK2.out 2;have hfz9_3 := blk_frozen BK2.out 3;have hfz9_4 := blk_frozen BK2.out 4;have hfz9_5 := blk_frozen BK2.out 5;have hfz9_6 := blk_frozen BK2.out 6;have hfz9_7 := blk_frozen BK2.out 7;have hfz9_8 := blk_frozen BK2.out 8;have hfz9_9 := blk_frozen BK2.out 9;have hfz9_10 := blk_frozen BK2.out 10;have hfz9_11 := blk_frozen BK2.out 11)|((with_reducible refine gate_builtin (b := .append) (xs := #[.tmp 18, .tmp 21]) rfl ?_);at_builtin;refine Kd.R_append Kd.string (w0 := w) w.heap.size rfl (.tmp 18) (.tmp 21) 74 9 (.string ⟨#[]⟩) 16 rfl Try.underlying74 info9 rfl (by decide) (by omega) u5 x5_1 ((rd_T31 l0 x10_1).f0) [.string ((rd_T31 l0 x10_1).f0)] (fun _ => True) (fun _ => False) rfl (by first|(go_simp;done)|(go_simp;rfl)) ?aP (fun _ hk => hk.elim) ?aF ?aO ?aB ?aS ?aL ?_;(case aP => exact rfl);(case aB => exact (by repeat (first|(with_reducible first|exact HB.out|apply below_alloc|apply pw_below_drewN|apply below_drew1|refine below_set ?_ GE2.out)|exact HB.out)));(case aF => exact (fun _ _ => trivial));(case aO => exact (by (with_reducible repeat (first|apply Kd.R_alloc|apply Kd.R_drewN|apply Kd.R_drew));exact Kd.R_mono (Kd.R_far (p := ⟨gb2, 11, none⟩) (Kd.R_far (p := ⟨gb2, 10, none⟩) (Kd.R_far (p := ⟨gb2, 9, none⟩) (Kd.R_far (p := ⟨gb2, 8, none⟩) (Kd.R_far (p := ⟨gb2, 7, none⟩) (Kd.R_far (p := ⟨gb2, 6, none⟩) (Kd.R_far (p := ⟨gb2, 5, none⟩) (Kd.R_far (p := ⟨gb2, 4, none⟩) (Kd.R_far (p := ⟨gb2, 3, none⟩) (Kd.R_far (p := ⟨gb2, 2, none⟩) (Kd.R_far (p := ⟨gb2, 1, none⟩) (Kd.R_far (p := ⟨gb2, 0, none⟩) (Kd.R_types HO_5.out BK2.out (by decide)) (fun _ hk => hk.2) (.string ((rd_T31 l0 x10_1).f0))) (fun _ hk => hk.2) (.string ((rd_T31 l0 x10_1).f1))) (fun _ hk => hk.2) (.int .i64 ((rd_T31 l0 x10_1).f2.f0))) (fun _ hk => hk.2) (.int .i64 ((rd_T31 l0 x10_1).f2.f1))) (fun _ hk => hk.2) (.int .i64 ((rd_T31 l0 x10_1).f2.f2))) (fun _ hk => hk.2) (.int .i64 ((rd_T31 l0 x10_1).f3.f0))) (fun _ hk => hk.2) (.int .i64 ((rd_T31 l0 x10_1).f3.f1))) (fun _ hk => hk.2) (.int .i64 ((rd_T31 l0 x10_1).f3.f2))) (fun _ hk => hk.2) (.int .i64 ((rd_T31 l0 x10_1).f4.f0))) (fun _ hk => hk.2) (.int .i64 ((rd_T31 l0 x10_1).f4.f1))) (fun _ hk => hk.2) (.int .i64 ((rd_T31 l0 x10_1).f4.f2))) (fun _ hk => hk.2) (.int .i64 ((rd_T31 l0 x10_1).f5))) (fun _ hk => trivial)));(case aS => exact (below_size (by repeat (first|(with_reducible first|exact HB.out|apply below_alloc|apply pw_below_drewN|apply below_drew1|refine below_set ?_ GE2.out)|exact HB.out))));(case aL => have := LMc7.out;omega);intro v4 w10 ho hb hg hat;rw [← Ny3.out] at ho;have n0_ := Aside0.mk (blk_grown (g := gb2) (o := .cells #[.string ((rd_T31 l0 x10_1).f0), .string ((rd_T31 l0 x10_1).f1), .int .i64 ((rd_T31 l0 x10_1).f2.f0), .int .i64 ((rd_T31 l0 x10_1).f2.f1), .int .i64 ((rd_T31 l0 x10_1).f2.f2), .int .i64 ((rd_T31 l0 x10_1).f3.f0), .int .i64 ((rd_T31 l0 x10_1).f3.f1), .int .i64 ((rd_T31 l0 x10_1).f3.f2), .int .i64 ((rd_T31 l0 x10_1).f4.f0), .int .i64 ((rd_T31 l0 x10_1).f4.f1), .int .i64 ((rd_T31 l0 x10_1).f4.f2), .int .i64 ((rd_T31 l0 x10_1).f5)] 31 (0, 0)) (by (with_reducible repeat (first|refine blk_drewN ?_ _|refine blk_drew ?_|refine blk_alloc ?_ _));refine blk_put (cs := #[.string ((rd_T31 l0 x10_1).f0), .string ((rd_T31 l0 x10_1).f1), .int .i64 ((rd_T31 l0 x10_1).f2.f0), .int .i64 ((rd_T31 l0 x10_1).f2.f1), .int .i64 ((rd_T31 l0 x10_1).f2.f2), .int .i64 ((rd_T31 l0 x10_1).f3.f0), .int .i64 ((rd_T31 l0 x10_1).f3.f1), .int .i64 ((rd_T31 l0 x10_1).f3.f2), .int .i64 ((rd_T31 l0 x10_1).f4.f0), .int .i64 ((rd_T31 l0 x10_1).f4.f1), .int .i64 ((rd_T31 l0 x10_1).f4.f2), .int .i64 0]) ?_ 11 _ rfl;(with_reducible repeat (first|refine blk_drewN ?_ _|refine blk_drew ?_|refine blk_alloc ?_ _));refine blk_put (cs := #[.string ((rd_T31 l0 x10_1).f0), .string ((rd_T31 l0 x10_1).f1), .int .i64 ((rd_T31 l0 x10_1).f2.f0), .int .i64 ((rd_T31 l0 x10_1).f2.f1), .int .i64 ((rd_T31 l0 x10_1).f2.f2), .int .i64 ((rd_T31 l0 x10_1).f3.f0), .int .i64 ((rd_T31 l0 x10_1).f3.f1), .int .i64 ((rd_T31 l0 x10_1).f3.f2), .int .i64 ((rd_T31 l0 x10_1).f4.f0), .int .i64 ((rd_T31 l0 x10_1).f4.f1), .int .i64 0, .int .i64 0]) ?_ 10 _ rfl;(with_reducible repeat (first|refine blk_drewN ?_ _|refine blk_drew ?_|refine blk_alloc ?_ _));refine blk_put (cs := #[.string ((rd_T31 l0 x10_1).f0), .string ((rd_T31 l0 x10_1).f1), .int .i64 ((rd_T31 l0 x10_1).f2.f0), .int .i64 ((rd_T31 l0 x10_1).f2.f1), .int .i64 ((rd_T31 l0 x10_1).f2.f2), .int .i64 ((rd_T31 l0 x10_1).f3.f0), .int .i64 ((rd_T31 l0 x10_1).f3.f1), .int .i64 ((rd_T31 l0 x10_1).f3.f2), .int .i64 ((rd_T31 l0 x10_1).f4.f0), .int .i64 0, .int .i64 0, .int .i64 0]) ?_ 9 _ rfl;(with_reducible repeat (first|refine blk_drewN ?_ _|refine blk_drew ?_|refine blk_alloc ?_ _));refine blk_put (cs := #[.string ((rd_T31 l0 x10_1).f0), .string ((rd_T31 l0 x10_1).f1), .int .i64 ((rd_T31 l0 x10_1).f2.f0), .int .i64 ((rd_T31 l0 x10_1).f2.f1), .int .i64 ((rd_T31 l0 x10_1).f2.f2), .int .i64 ((rd_T31 l0 x10_1).f3.f0), .int .i64 ((rd_T31 l0 x10_1).f3.f1), .int .i64 ((rd_T31 l0 x10_1).f3.f2), .int .i64 0, .int .i64 0, .int .i64 0, .int .i64 0]) ?_ 8 _ rfl;(with_reducible repeat (first|refine blk_drewN ?_ _|refine blk_drew ?_|refine blk_alloc ?_ _));refine blk_put (cs := #[.string ((rd_T31 l0 x10_1).f0), .string ((rd_T31 l0 x10_1).f1), .int .i64 ((rd_T31 l0 x10_1).f2.f0), .int .i64 ((rd_T31 l0 x10_1).f2.f1), .int .i64 ((rd_T31 l0 x10_1).f2.f2), .int .i64 ((rd_T31 l0 x10_1).f3.f0), .int .i64 ((rd_T31 l0 x10_1).f3.f1), .int .i64 0, .int .i64 0, .int .i64 0, .int .i64 0, .int .i64 0]) ?_ 7 _ rfl;(with_reducible repeat (first|refine blk_drewN ?_ _|refine blk_drew ?_|refine blk_alloc ?_ _));refine blk_put (cs := #[.string ((rd_T31 l0 x10_1).f0), .string ((rd_T31 l0 x10_1).f1), .int .i64 ((rd_T31 l0 x10_1).f2.f0), .int .i64 ((rd_T31 l0 x10_1).f2.f1), .int .i64 ((rd_T31 l0 x10_1).f2.f2), .int .i64 ((rd_T31 l0 x10_1).f3.f0), .int .i64 0, .int .i64 0, .int .i64 0, .int .i64 0, .int .i64 0, .int .i64 0]) ?_ 6 _ rfl;(with_reducible repeat (first|refine blk_drewN ?_ _|refine blk_drew ?_|refine blk_alloc ?_ _));refine blk_put (cs := #[.string ((rd_T31 l0 x10_1).f0), .string ((rd_T31 l0 x10_1).f1), .int .i64 ((rd_T31 l0 x10_1).f2.f0), .int .i64 ((rd_T31 l0 x10_1).f2.f1), .int .i64 ((rd_T31 l0 x10_1).f2.f2), .int .i64 0, .int .i64 0, .int .i64 0, .int .i64 0, .int .i64 0, .int .i64 0, .int .i64 0]) ?_ 5 _ rfl;(with_reducible repeat (first|refine blk_drewN ?_ _|refine blk_drew ?_|refine blk_alloc ?_ _));refine blk_put (cs := #[.string ((rd_T31 l0 x10_1).f0), .string ((rd_T31 l0 x10_1).f1), .int .i64 ((rd_T31 l0 x10_1).f2.f0), .int .i64 ((rd_T31 l0 x10_1).f2.f1), .int .i64 0, .int .i64 0, .int .i64 0, .int .i64 0, .int .i64 0, .int .i64 0, .int .i64 0, .int .i64 0]) ?_ 4 _ rfl;(with_reducible repeat (first|refine blk_drewN ?_ _|refine blk_drew ?_|refine blk_alloc ?_ _));refine blk_put (cs := #[.string ((rd_T31 l0 x10_1).f0), .string ((rd_T31 l0 x10_1).f1), .int .i64 ((rd_T31 l0 x10_1).f2.f0), .int .i64 0, .int .i64 0, .int .i64 0, .int .i64 0, .int .i64 0, .int .i64 0, .int .i64 0, .int .i64 0, .int .i64 0]) ?_ 3 _ rfl;(with_reducible repeat (first|refine blk_drewN ?_ _|refine blk_drew ?_|refine blk_alloc ?_ _));refine blk_put (cs := #[.string ((rd_T31 l0 x10_1).f0), .string ((rd_T31 l0 x10_1).f1), .int .i64 0, .int .i64 0, .int .i64 0, .int .i64 0, .int .i64 0, .int .i64 0, .int .i64 0, .int .i64 0, .int .i64 0, .int .i64 0]) ?_ 2 _ rfl;(with_reducible repeat (first|refine blk_drewN ?_ _|refine blk_drew ?_|refine blk_alloc ?_ _));refine blk_put (cs := #[.string ((rd_T31 l0 x10_1).f0), .string (⟨#[]⟩ : ByteArray), .int .i64 0, .int .i64 0, .int .i64 0, .int .i64 0, .int .i64 0, .int .i64 0, .int .i64 0, .int .i64 0, .int .i64 0, .int .i64 0]) ?_ 1 _ rfl;(with_reducible repeat (first|refine blk_drewN ?_ _|refine blk_drew ?_|refine blk_alloc ?_ _));refine blk_put (cs := #[.string (⟨#[]⟩ : ByteArray), .string (⟨#[]⟩ : ByteArray), .int .i64 0, .int .i64 0, .int .i64 0, .int .i64 0, .int .i64 0, .int .i64 0, .int .i64 0, .int .i64 0, .int .i64 0, .int .i64 0]) ?_ 0 _ rfl;(with_reducible repeat (first|refine blk_drewN ?_ _|refine blk_drew ?_|refine blk_alloc ?_ _));exact BK2.out) hg (Kd.R_ne HO_5.out BK2.out (by decide)));have n1_ := Aside0.mk (hb);have n2_ := Aside0.mk (ho);clear BK2;clear HB;clear HO_5;have BK2 := n0_;have HB := n1_;have HO5 := n2_;clear n0_ n1_ n2_;clear ho hb hg hat))
        go_roundg k1
        case measure => have := HK1.out; omega
        case rel => exact ⟨(y3), (wrap64 (x10_1 + 1)), (by first|rfl|(simp;done)|(simp [*];done)), H', ⟨by have := HK1.out;omega⟩, ⟨by (with_reducible repeat (first|apply Kd.R_alloc|apply Kd.R_drewN|apply Kd.R_drew));exact HO5.out⟩, ⟨by repeat (first|(with_reducible first|exact HB.out|apply below_alloc|apply pw_below_drewN|apply below_drew1|refine below_set ?_ GE2.out)|exact HB.out)⟩⟩
       ·rw [if_neg c7] at H
        exact absurd H (by simp)
      ·rw [if_neg c6] at H
       have c6b0 : (((rd_T31 l0 x10_1).f1).toList == a1.toList) = false := beq_eq_false_iff_ne.mpr c6
       have c6b1 : (((rd_T31 l0 x10_1).f1).toList != a1.toList) = true := bne_iff_ne.mpr c6
       have H' := Aside0.mk H
       clear H
       have p1 : 0 ≤ (x10_1 : Int) := of_decide_eq_true (by first|(with_reducible assumption)|assumption)
       have q1 : x10_1 < (l0.length : Int) := of_decide_eq_true (by first|(with_reducible assumption)|assumption)
       obtain ⟨ad1, e1, hx1_0, hx1_1, hx1_2, hx1_3, hx1_4, hx1_5, hx1_6, hx1_7, hx1_8, hx1_9, hx1_10, hx1_11⟩ := at_T31 HR0.out x10_1 p1 q1
       cases e1
       replace hx1_0 := (HB.out.cell (World.block_lt_of_cell? w _ hx1_0)).trans hx1_0
       replace hx1_1 := (HB.out.cell (World.block_lt_of_cell? w _ hx1_1)).trans hx1_1
       replace hx1_2 := (HB.out.cell (World.block_lt_of_cell? w _ hx1_2)).trans hx1_2
       replace hx1_3 := (HB.out.cell (World.block_lt_of_cell? w _ hx1_3)).trans hx1_3
       replace hx1_4 := (HB.out.cell (World.block_lt_of_cell? w _ hx1_4)).trans hx1_4
       replace hx1_5 := (HB.out.cell (World.block_lt_of_cell? w _ hx1_5)).trans hx1_5
       replace hx1_6 := (HB.out.cell (World.block_lt_of_cell? w _ hx1_6)).trans hx1_6
       replace hx1_7 := (HB.out.cell (World.block_lt_of_cell? w _ hx1_7)).trans hx1_7
       replace hx1_8 := (HB.out.cell (World.block_lt_of_cell? w _ hx1_8)).trans hx1_8
       replace hx1_9 := (HB.out.cell (World.block_lt_of_cell? w _ hx1_9)).trans hx1_9
       replace hx1_10 := (HB.out.cell (World.block_lt_of_cell? w _ hx1_10)).trans hx1_10
       replace hx1_11 := (HB.out.cell (World.block_lt_of_cell? w _ hx1_11)).trans hx1_11
       replace p1 := eq_true p1
       replace q1 := eq_true q1
       go_wp2_with (first|((with_reducible refine gate_dst (N := 7) rfl ?_);refine box_event ?hg (N := 7) ?hd (cs := #[.string (⟨#[]⟩ : ByteArray), .string (⟨#[]⟩ : ByteArray), .int .i64 0, .int .i64 0, .int .i64 0, .int .i64 0, .int .i64 0, .int .i64 0, .int .i64 0, .int .i64 0, .int .i64 0, .int .i64 0]) (t := 31) ?hr ?_;(case hd => rfl);(case hg => rfl);(case hr => first|(go_simp;done)|(go_simp;rfl));intro gb2 hg w11 hbox hb;have n0_ := Aside0.mk (Kd.R_below (by (with_reducible repeat (first|apply Kd.R_alloc|apply Kd.R_drewN|apply Kd.R_drew));exact HO_5.out) hb);have n1_ := Aside0.mk (below_step (by repeat (first|(with_reducible first|exact HB.out|apply below_alloc|apply pw_below_drewN|apply below_drew1)|exact HB.out)) hb);have n2_ := Aside0.mk (hbox);have n3_ := Aside0.mk ((by rw [hg];exact (below_size (by repeat (first|(with_reducible first|exact HB.out|apply below_alloc|apply pw_below_drewN|apply below_drew1)|exact HB.out))) : w.heap.size ≤ gb2));have n4_ := Aside0.mk ((by rw [hg];exact (below_size (by repeat (first|(with_reducible first|exact HB.out|apply below_alloc|apply pw_below_drewN|apply below_drew1)|exact HB.out))) : w.heap.size ≤ gb2));clear HO_5;clear HB;have HO_5 := n0_;have HB := n1_;have BK2 := n2_;have GW2 := n3_;have GE2 := n4_;clear n0_ n1_ n2_ n3_ n4_;clear hb hbox hg;have hcz12_0 : w11.cell? ⟨gb2, 0, none⟩ = some (.string (⟨#[]⟩ : ByteArray)) := (blk_cell BK2.out 0).trans rfl;have hcz12_1 : w11.cell? ⟨gb2, 1, none⟩ = some (.string (⟨#[]⟩ : ByteArray)) := (blk_cell BK2.out 1).trans rfl;have hcz12_2 : w11.cell? ⟨gb2, 2, none⟩ = some (.int .i64 0) := (blk_cell BK2.out 2).trans rfl;have hcz12_3 : w11.cell? ⟨gb2, 3, none⟩ = some (.int .i64 0) := (blk_cell BK2.out 3).trans rfl;have hcz12_4 : w11.cell? ⟨gb2, 4, none⟩ = some (.int .i64 0) := (blk_cell BK2.out 4).trans rfl;have hcz12_5 : w11.cell? ⟨gb2, 5, none⟩ = some (.int .i64 0) := (blk_cell BK2.out 5).trans rfl;have hcz12_6 : w11.cell? ⟨gb2, 6, none⟩ = some (.int .i64 0) := (blk_cell BK2.out 6).trans rfl;have hcz12_7 : w11.cell? ⟨gb2, 7, none⟩ = some (.int .i64 0) := (blk_cell BK2.out 7).trans rfl;have hcz12_8 : w11.cell? ⟨gb2, 8, none⟩ = some (.int .i64 0) := (blk_cell BK2.out 8).trans rfl;have hcz12_9 : w11.cell? ⟨gb2, 9, none⟩ = some (.int .i64 0) := (blk_cell BK2.out 9).trans rfl;have hcz12_10 : w11.cell? ⟨gb2, 10, none⟩ = some (.int .i64 0) := (blk_cell BK2.out 10).trans rfl;have hcz12_11 : w11.cell? ⟨gb2, 11, none⟩ = some (.int .i64 0) := (blk_cell BK2.out 11).trans rfl;have hfz12_0 := blk_frozen BK2.out 0;have hfz12_1 := blk_frozen BK2.out 1;have hfz12_2 := blk_frozen BK2.out 2;have hfz12_3 := blk_frozen BK2.out 3;have hfz12_4 := blk_frozen BK2.out 4;have hfz12_5 := blk_frozen BK2.out 5;have hfz12_6 := blk_frozen BK2.out 6;have hfz12_7 := blk_frozen BK2.out 7;have hfz12_8 := blk_frozen BK2.out 8;have hfz12_9 := blk_frozen BK2.out 9;have hfz12_10 := blk_frozen BK2.out 10;have hfz12_11 := blk_frozen BK2.out 11))
       go_roundg k1
       case measure => have := HK1.out; omega
       case rel => exact ⟨(x5_1), (wrap64 (x10_1 + 1)), (by first|rfl|(simp;done)|(simp [*];done)), H', ⟨by have := HK1.out;omega⟩, ⟨by (with_reducible repeat (first|apply Kd.R_alloc|apply Kd.R_drewN|apply Kd.R_drew));exact Kd.R_mono (Kd.R_far (p := ⟨gb2, 11, none⟩) (Kd.R_far (p := ⟨gb2, 10, none⟩) (Kd.R_far (p := ⟨gb2, 9, none⟩) (Kd.R_far (p := ⟨gb2, 8, none⟩) (Kd.R_far (p := ⟨gb2, 7, none⟩) (Kd.R_far (p := ⟨gb2, 6, none⟩) (Kd.R_far (p := ⟨gb2, 5, none⟩) (Kd.R_far (p := ⟨gb2, 4, none⟩) (Kd.R_far (p := ⟨gb2, 3, none⟩) (Kd.R_far (p := ⟨gb2, 2, none⟩) (Kd.R_far (p := ⟨gb2, 1, none⟩) (Kd.R_far (p := ⟨gb2, 0, none⟩) (Kd.R_types HO_5.out BK2.out (by decide)) (fun _ hk => hk.2) (.string ((rd_T31 l0 x10_1).f0))) (fun _ hk => hk.2) (.string ((rd_T31 l0 x10_1).f1))) (fun _ hk => hk.2) (.int .i64 ((rd_T31 l0 x10_1).f2.f0))) (fun _ hk => hk.2) (.int .i64 ((rd_T31 l0 x10_1).f2.f1))) (fun _ hk => hk.2) (.int .i64 ((rd_T31 l0 x10_1).f2.f2))) (fun _ hk => hk.2) (.int .i64 ((rd_T31 l0 x10_1).f3.f0))) (fun _ hk => hk.2) (.int .i64 ((rd_T31 l0 x10_1).f3.f1))) (fun _ hk => hk.2) (.int .i64 ((rd_T31 l0 x10_1).f3.f2))) (fun _ hk => hk.2) (.int .i64 ((rd_T31 l0 x10_1).f4.f0))) (fun _ hk => hk.2) (.int .i64 ((rd_T31 l0 x10_1).f4.f1))) (fun _ hk => hk.2) (.int .i64 ((rd_T31 l0 x10_1).f4.f2))) (fun _ hk => hk.2) (.int .i64 ((rd_T31 l0 x10_1).f5))) (fun _ hk => trivial)⟩, ⟨by repeat (first|(with_reducible first|exact HB.out|apply below_alloc|apply pw_below_drewN|apply below_drew1|refine below_set ?_ GE2.out)|exact HB.out)⟩⟩
     ·rw [if_neg c5] at H
      exact absurd H (by simp)
    ·rw [if_neg c4] at H
     exact absurd H (by simp)
   ·rw [if_neg c3] at H
    have c3b0 : decide (x10_1 < (l0.length : Int)) = false := decide_eq_false c3
    clear c3
    obtain rfl := Option.some.inj H
    go_wp2
    go_ret
    exact ⟨_, by first|rfl|(simp [errW_none, errW_some] <;> rfl)|(simp [*, errW_none, errW_some] <;> rfl), by (with_reducible repeat (first|apply Kd.R_alloc|apply Kd.R_drewN|apply Kd.R_drew));exact HO_5.out, by repeat (first|(with_reducible first|exact HB.out|apply below_alloc|apply pw_below_drewN|apply below_drew1)|exact HB.out)⟩
end Go.Proofs.Ytcgefpklljclgaa.Print

namespace Go.Proofs.Ytcgefpklljclgaa.Print
open Go.RowKit Go.Proofs.YtcgefpklljclgaaW.PrintWords Go.Proofs.YtcgefpklljclgaaW.PrintLast Go.Proofs.YtcgefpklljclgaaW.PrintMore
attribute [local go_sem] max2_int min2_int max_two min_two max_three min_three max_four min_four   -- for this text's walks alone
set_option linter.unusedVariables false
set_option linter.unusedSimpArgs false
/-! ### law12_awake: function 67 -/
def law12_awake.f (k : Nat)  : Option (Bool) := (some (([(⟨(⟨#[97]⟩ : ByteArray), (⟨#[]⟩ : ByteArray), (⟨0, 0, 0⟩ : S27), (⟨0, 0, 0⟩ : S27), (⟨0, 0, 0⟩ : S27), 1⟩ : S31)] : List (S31)) : List (S31))).bind fun y1 => ((tree_Right.f k ([] : List (S31))).bind fun t4 => (if t4 = true then ((tree_Right.f k y1).bind fun t5 => (if t5 = true then ((tree_Find.f y1 (⟨#[97]⟩ : ByteArray)).bind fun t6 => (if t6 = 0 then ((tree_Depth.f k y1 (⟨#[97]⟩ : ByteArray)).bind fun t7 => (if t7 = 1 then ((tree_Below.f k y1 (⟨#[]⟩ : ByteArray)).bind fun t8 => (some ((t8.length : Int) == 1))) else (some false))) else (some false))) else (some false))) else (some false)))
theorem law12_awake.mono : ∀ k, LeO (law12_awake.f k ) (law12_awake.f (k + 1) ) := by
 intro  k
 unfold law12_awake.f
 repeat' first
   | (with_reducible exact tree_Below.mono _ _ _)
   | (with_reducible exact tree_Depth.mono _ _ _)
   | (with_reducible exact tree_Right.mono _ _)
   | (with_reducible exact LeO.refl _)
   | (with_reducible exact LeO.none _)
   | (with_reducible refine LeO.ite ?_ ?_)
   | (with_reducible refine LeO.bind ?_ (fun _ => ?_))
   | exact tree_Below.mono _ _ _
   | exact tree_Depth.mono _ _ _
   | exact tree_Right.mono _ _
   | exact LeO.none _
   | refine LeO.ite ?_ ?_
   | refine LeO.bind ?_ (fun _ => ?_)
set_option maxHeartbeats 8000000 in
set_option maxRecDepth 100000 in
theorem law12_awake.calls (k : Nat)  (r : Bool) (w : World) (h : law12_awake.f k  = some r) :
  Calls Try.prog 67 #[] w fun e w' => e = .returned (.bool r) ∧ Below w.heap.size w w' := by
 have hu31 := Try.underlying31
 have HB := Aside0.mk (Below.refl w.heap.size w)
 have H : ((some (([(⟨(⟨#[97]⟩ : ByteArray), (⟨#[]⟩ : ByteArray), (⟨0, 0, 0⟩ : S27), (⟨0, 0, 0⟩ : S27), (⟨0, 0, 0⟩ : S27), 1⟩ : S31)] : List (S31)) : List (S31))).bind fun y1 => ((tree_Right.f k ([] : List (S31))).bind fun t4 => (if t4 = true then ((tree_Right.f k y1).bind fun t5 => (if t5 = true then ((tree_Find.f y1 (⟨#[97]⟩ : ByteArray)).bind fun t6 => (if t6 = 0 then ((tree_Depth.f k y1 (⟨#[97]⟩ : ByteArray)).bind fun t7 => (if t7 = 1 then ((tree_Below.f k y1 (⟨#[]⟩ : ByteArray)).bind fun t8 => (some ((t8.length : Int) == 1))) else (some false))) else (some false))) else (some false))) else (some false)))) = some r := h
 clear h
 obtain ⟨y1, hy1⟩ : ∃ y_ : List (S31), y_ = (([(⟨(⟨#[97]⟩ : ByteArray), (⟨#[]⟩ : ByteArray), (⟨0, 0, 0⟩ : S27), (⟨0, 0, 0⟩ : S27), (⟨0, 0, 0⟩ : S27), 1⟩ : S31)] : List (S31))) := ⟨_, rfl⟩
 replace H : ((tree_Right.f k ([] : List (S31))).bind fun t4 => (if t4 = true then ((tree_Right.f k y1).bind fun t5 => (if t5 = true then ((tree_Find.f y1 (⟨#[97]⟩ : ByteArray)).bind fun t6 => (if t6 = 0 then ((tree_Depth.f k y1 (⟨#[97]⟩ : ByteArray)).bind fun t7 => (if t7 = 1 then ((tree_Below.f k y1 (⟨#[]⟩ : ByteArray)).bind fun t8 => (some ((t8.length : Int) == 1))) else (some false))) else (some false))) else (some false))) else (some false))) = some r := by first|(rw [hy1];with_reducible exact H)|(have H2_ := (Option.bind_some _ _).symm.trans H;rw [hy1];with_reducible exact H2_)|(have H2_ := (Option.bind_some _ _).symm.trans H;with_reducible exact H2_)|with_reducible exact H|(rw [hy1];exact H)|exact H
 have Ny1 := Aside0.mk hy1
 clear hy1
 replace H := Option.bind_eq_some_iff.mp H
 obtain ⟨t4, A10, H⟩ := H
 replace H : (if t4 = true then ((tree_Right.f k y1).bind fun t5 => (if t5 = true then ((tree_Find.f y1 (⟨#[97]⟩ : ByteArray)).bind fun t6 => (if t6 = 0 then ((tree_Depth.f k y1 (⟨#[97]⟩ : ByteArray)).bind fun t7 => (if t7 = 1 then ((tree_Below.f k y1 (⟨#[]⟩ : ByteArray)).bind fun t8 => (some ((t8.length : Int) == 1))) else (some false))) else (some false))) else (some false))) else (some false)) = some r := H
 have A1 := Aside0.mk A10
 clear A10
 by_cases c2 : t4 = true
 ·subst c2
  have H1 : ((tree_Right.f k y1).bind fun t5 => (if t5 = true then ((tree_Find.f y1 (⟨#[97]⟩ : ByteArray)).bind fun t6 => (if t6 = 0 then ((tree_Depth.f k y1 (⟨#[97]⟩ : ByteArray)).bind fun t7 => (if t7 = 1 then ((tree_Below.f k y1 (⟨#[]⟩ : ByteArray)).bind fun t8 => (some ((t8.length : Int) == 1))) else (some false))) else (some false))) else (some false))) = some r := by rw [if_pos rfl] at H; exact H
  clear H
  have H := H1
  clear H1
  replace H := Option.bind_eq_some_iff.mp H
  obtain ⟨t5, A30, H⟩ := H
  replace H : (if t5 = true then ((tree_Find.f y1 (⟨#[97]⟩ : ByteArray)).bind fun t6 => (if t6 = 0 then ((tree_Depth.f k y1 (⟨#[97]⟩ : ByteArray)).bind fun t7 => (if t7 = 1 then ((tree_Below.f k y1 (⟨#[]⟩ : ByteArray)).bind fun t8 => (some ((t8.length : Int) == 1))) else (some false))) else (some false))) else (some false)) = some r := H
  have A3 := Aside0.mk A30
  clear A30
  by_cases c4 : t5 = true
  ·subst c4
   have H1 : ((tree_Find.f y1 (⟨#[97]⟩ : ByteArray)).bind fun t6 => (if t6 = 0 then ((tree_Depth.f k y1 (⟨#[97]⟩ : ByteArray)).bind fun t7 => (if t7 = 1 then ((tree_Below.f k y1 (⟨#[]⟩ : ByteArray)).bind fun t8 => (some ((t8.length : Int) == 1))) else (some false))) else (some false))) = some r := by rw [if_pos rfl] at H; exact H
   clear H
   have H := H1
   clear H1
   replace H := Option.bind_eq_some_iff.mp H
   obtain ⟨t6, A50, H⟩ := H
   replace H : (if t6 = 0 then ((tree_Depth.f k y1 (⟨#[97]⟩ : ByteArray)).bind fun t7 => (if t7 = 1 then ((tree_Below.f k y1 (⟨#[]⟩ : ByteArray)).bind fun t8 => (some ((t8.length : Int) == 1))) else (some false))) else (some false)) = some r := H
   have A5 := Aside0.mk A50
   clear A50
   by_cases c6 : t6 = 0
   ·rw [if_pos c6] at H
    have c6b0 : (t6 == 0) = true := beq_iff_eq.mpr c6
    have c6b1 : (t6 != 0) = false := bne_eq_false_iff_eq.mpr c6
    clear c6
    replace H := Option.bind_eq_some_iff.mp H
    obtain ⟨t7, A70, H⟩ := H
    replace H : (if t7 = 1 then ((tree_Below.f k y1 (⟨#[]⟩ : ByteArray)).bind fun t8 => (some ((t8.length : Int) == 1))) else (some false)) = some r := H
    have A7 := Aside0.mk A70
    clear A70
    by_cases c8 : t7 = 1
    ·rw [if_pos c8] at H
     have c8b0 : (t7 == 1) = true := beq_iff_eq.mpr c8
     have c8b1 : (t7 != 1) = false := bne_eq_false_iff_eq.mpr c8
     clear c8
     replace H := Option.bind_eq_some_iff.mp H
     obtain ⟨t8, A90, H⟩ := H
     replace H : (some ((t8.length : Int) == 1)) = some r := H
     have A9 := Aside0.mk A90
     clear A90
     obtain rfl := Option.some.inj H
     go_enter Try.func67, Try.ntmps67
     go_wp2_with (first|((with_reducible refine gate_dst (N := 3) rfl ?_);(try (refine gate_guard (by rfl) ?_;dsimp only));refine Kd.R_lit k31 _ 31 ?hg (N := 3) ?hd (xs := ([(⟨(⟨#[97]⟩ : ByteArray), (⟨#[]⟩ : ByteArray), (⟨0, 0, 0⟩ : S27), (⟨0, 0, 0⟩ : S27), (⟨0, 0, 0⟩ : S27), 1⟩ : S31)] : List (S31))) (inner := [.string (⟨#[97]⟩ : ByteArray), .string (⟨#[]⟩ : ByteArray), .int .i64 0, .int .i64 0, .int .i64 0, .int .i64 0, .int .i64 0, .int .i64 0, .int .i64 0, .int .i64 0, .int .i64 0, .int .i64 1]) (ok := fun _ => True) (okp := fun _ => True) ?hr ?hp (fun _ hk => hk) trivial (Below.refl _ _) (Nat.le_refl _) (by simp) ?_;(case hd => rfl);(case hg => rfl);(case hr => first|(go_simp;done)|(go_simp;rfl));(case hp => exact (Reps.front (show Kd.M k31 _ _ _ (⟨(⟨#[97]⟩ : ByteArray), (⟨#[]⟩ : ByteArray), (⟨0, 0, 0⟩ : S27), (⟨0, 0, 0⟩ : S27), (⟨0, 0, 0⟩ : S27), 1⟩ : S31) [.string (⟨#[97]⟩ : ByteArray), .string (⟨#[]⟩ : ByteArray), .int .i64 0, .int .i64 0, .int .i64 0, .int .i64 0, .int .i64 0, .int .i64 0, .int .i64 0, .int .i64 0, .int .i64 0, .int .i64 1] from (k31_mkM _ _ _ (⟨(⟨#[97]⟩ : ByteArray), (⟨#[]⟩ : ByteArray), (⟨0, 0, 0⟩ : S27), (⟨0, 0, 0⟩ : S27), (⟨0, 0, 0⟩ : S27), 1⟩ : S31) )) rfl (Reps.none _ _) rfl));intro v2 w10 ho11 hb hg_ hnew_;clear hg_ hnew_;(first|rw [← Ny1.out] at ho11|(simp only [Int.reduceToNat] at ho11;rw [← Ny1.out] at ho11));have n0_ := Aside0.mk (Kd.R_lower ho11 (below_size (by repeat (first|(with_reducible first|exact HB.out|apply below_alloc|apply pw_below_drewN|apply below_drew1)|exact HB.out))));have n1_ := Aside0.mk (below_step (by repeat (first|(with_reducible first|exact HB.out|apply below_alloc|apply pw_below_drewN|apply below_drew1)|exact HB.out)) hb);clear HB;have HO3 := n0_;have HB := n1_;clear n0_ n1_;clear hb ho11)|((with_reducible refine gate_callee (f := 68) rfl ?_);refine goesL_ (some 4) rfl rfl Try.func68 (by kernel_rfl) rfl #[.slice none 0 0] rfl (by (try simp only [List.map_toArray, List.map_cons, List.map_nil]);first|done|rfl|(simp only [List.length_drop, List.length_take];rfl)) ?_;(refine (tree_Right.calls k _ _ ([] : List (S31)) true _ ?side1 ?side2 A1.out).mono ?_);(case side1 => exact Kd.C_nil _ _);(case side2 => exact Nat.le_refl _);rintro e w12 ⟨rfl, hb⟩;refine ⟨_, rfl, ?_⟩;have n0_ := Aside0.mk (Kd.R_below (by (with_reducible repeat (first|apply Kd.R_alloc|apply Kd.R_drewN|apply Kd.R_drew));exact HO3.out) hb);have n1_ := Aside0.mk (below_step (by repeat (first|(with_reducible first|exact HB.out|apply below_alloc|apply pw_below_drewN|apply below_drew1)|exact HB.out)) hb);clear HO3;clear HB;have HO3 := n0_;have HB := n1_;clear n0_ n1_;(try clear hb);(try clear hb2);(try clear hk);(try clear hi);obtain ⟨Ao13, co13, eo13⟩ := Kd.R_slice HO3.out;subst eo13)|(go_at_call 68;(with_reducible refine (tree_Right.calls k _ _ y1 true _ ?side1 ?side2 A3.out).mono ?_);(case side1 => repeat (first|exact (Kd.R_reads' HO3.out).2.2|(with_reducible refine Kd.C_alloc ?_ _)|(with_reducible refine Kd.C_drewN ?_ _)|(with_reducible refine Kd.C_drew ?_)));(case side2 => exact (Kd.R_reads' HO3.out).2.1);rintro e w14 ⟨rfl, hb⟩;have n0_ := Aside0.mk (Kd.R_below (by (with_reducible repeat (first|apply Kd.R_alloc|apply Kd.R_drewN|apply Kd.R_drew));exact HO3.out) hb);have n1_ := Aside0.mk (below_step (by repeat (first|(with_reducible first|exact HB.out|apply below_alloc|apply pw_below_drewN|apply below_drew1)|exact HB.out)) hb);clear HO3;clear HB;have HO3 := n0_;have HB := n1_;clear n0_ n1_;(try clear hb);(try clear hb2);(try clear hk);(try clear hi))|(go_at_call 71;(with_reducible refine (tree_Find.calls _ _ y1 (⟨#[97]⟩ : ByteArray) t6 _ ?side1 ?side2 A5.out).mono ?_);(case side1 => repeat (first|exact (Kd.R_reads' HO3.out).2.2|(with_reducible refine Kd.C_alloc ?_ _)|(with_reducible refine Kd.C_drewN ?_ _)|(with_reducible refine Kd.C_drew ?_)));(case side2 => exact (Kd.R_reads' HO3.out).2.1);rintro e w15 ⟨rfl, hb⟩;have n0_ := Aside0.mk (Kd.R_below (by (with_reducible repeat (first|apply Kd.R_alloc|apply Kd.R_drewN|apply Kd.R_drew));exact HO3.out) hb);have n1_ := Aside0.mk (below_step (by repeat (first|(with_reducible first|exact HB.out|apply below_alloc|apply pw_below_drewN|apply below_drew1)|exact HB.out)) hb);clear HO3;clear HB;have HO3 := n0_;have HB := n1_;clear n0_ n1_;(try clear hb);(try clear hb2);(try clear hk);(try clear hi))|(go_at_call 72;(with_reducible refine (tree_Depth.calls k _ _ y1 (⟨#[97]⟩ : ByteArray) t7 _ ?side1 ?side2 A7.out).mono ?_);(case side1 => repeat (first|exact (Kd.R_reads' HO3.out).2.2|(with_reducible refine Kd.C_alloc ?_ _)|(with_reducible refine Kd.C_drewN ?_ _)|(with_reducible refine Kd.C_drew ?_)));(case side2 => exact (Kd.R_reads' HO3.out).2.1);rintro e w16 ⟨rfl, hb⟩;have n0_ := Aside0.mk (Kd.R_below (by (with_reducible repeat (first|apply Kd.R_alloc|apply Kd.R_drewN|apply Kd.R_drew));exact HO3.out) hb);have n1_ := Aside0.mk (below_step (by repeat (first|(with_reducible first|exact HB.out|apply below_alloc|apply pw_below_drewN|apply below_drew1)|exact HB.out)) hb);clear HO3;clear HB;have HO3 := n0_;have HB := n1_;clear n0_ n1_;(try clear hb);(try clear hb2);(try clear hk);(try clear hi))|(go_at_call 73;(with_reducible refine (tree_Below.calls k _ _ y1 (⟨#[]⟩ : ByteArray) t8 _ ?side1 ?side2 A9.out).mono ?_);(case side1 => repeat (first|exact (Kd.R_reads' HO3.out).2.2|(with_reducible refine Kd.C_alloc ?_ _)|(with_reducible refine Kd.C_drewN ?_ _)|(with_reducible refine Kd.C_drew ?_)));(case side2 => exact (Kd.R_reads' HO3.out).2.1);rintro e w17 ⟨v9, rfl, ho0, hb⟩;have n0_ := Aside0.mk (Kd.R_below (by (with_reducible repeat (first|apply Kd.R_alloc|apply Kd.R_drewN|apply Kd.R_drew));exact HO3.out) hb);have n1_ := Aside0.mk (Kd.R_lower ho0 (below_size (by repeat (first|(with_reducible first|exact HB.out|apply below_alloc|apply pw_below_drewN|apply below_drew1)|exact HB.out))));have n2_ := Aside0.mk (below_step (by repeat (first|(with_reducible first|exact HB.out|apply below_alloc|apply pw_below_drewN|apply below_drew1)|exact HB.out)) hb);clear HO3;clear HB;have HO3 := n0_;have HO10 := n1_;have HB := n2_;clear n0_ n1_ n2_;(try clear hb);(try clear hb2);(try clear hk);(try clear hi);(try clear ho0);obtain ⟨Ao18, co18, eo18⟩ := Kd.R_slice HO10.out;subst eo18))
     go_ret
     exact ⟨by first|rfl|(simp [errW_none, errW_some] <;> rfl)|(simp [*, errW_none, errW_some] <;> rfl), by repeat (first|(with_reducible first|exact HB.out|apply below_alloc|apply pw_below_drewN|apply below_drew1)|exact HB.out)⟩
    ·rw [if_neg c8] at H
     have c8b0 : (t7 == 1) = false := beq_eq_false_iff_ne.mpr c8
     have c8b1 : (t7 != 1) = true := bne_iff_ne.mpr c8
     obtain rfl := Option.some.inj H
     go_enter Try.func67, Try.ntmps67
     go_wp2_with (first|((with_reducible refine gate_dst (N := 3) rfl ?_);(try (refine gate_guard (by rfl) ?_;dsimp only));refine Kd.R_lit k31 _ 31 ?hg (N := 3) ?hd (xs := ([(⟨(⟨#[97]⟩ : ByteArray), (⟨#[]⟩ : ByteArray), (⟨0, 0, 0⟩ : S27), (⟨0, 0, 0⟩ : S27), (⟨0, 0, 0⟩ : S27), 1⟩ : S31)] : List (S31))) (inner := [.string (⟨#[97]⟩ : ByteArray), .string (⟨#[]⟩ : ByteArray), .int .i64 0, .int .i64 0, .int .i64 0, .int .i64 0, .int .i64 0, .int .i64 0, .int .i64 0, .int .i64 0, .int .i64 0, .int .i64 1]) (ok := fun _ => True) (okp := fun _ => True) ?hr ?hp (fun _ hk => hk) trivial (Below.refl _ _) (Nat.le_refl _) (by simp) ?_;(case hd => rfl);(case hg => rfl);(case hr => first|(go_simp;done)|(go_simp;rfl));(case hp => exact (Reps.front (show Kd.M k31 _ _ _ (⟨(⟨#[97]⟩ : ByteArray), (⟨#[]⟩ : ByteArray), (⟨0, 0, 0⟩ : S27), (⟨0, 0, 0⟩ : S27), (⟨0, 0, 0⟩ : S27), 1⟩ : S31) [.string (⟨#[97]⟩ : ByteArray), .string (⟨#[]⟩ : ByteArray), .int .i64 0, .int .i64 0, .int .i64 0, .int .i64 0, .int .i64 0, .int .i64 0, .int .i64 0, .int .i64 0, .int .i64 0, .int .i64 1] from (k31_mkM _ _ _ (⟨(⟨#[97]⟩ : ByteArray), (⟨#[]⟩ : ByteArray), (⟨0, 0, 0⟩ : S27), (⟨0, 0, 0⟩ : S27), (⟨0, 0, 0⟩ : S27), 1⟩ : S31) )) rfl (Reps.none _ _) rfl));intro v2 w19 ho20 hb hg_ hnew_;clear hg_ hnew_;(first|rw [← Ny1.out] at ho20|(simp only [Int.reduceToNat] at ho20;rw [← Ny1.out] at ho20));have n0_ := Aside0.mk (Kd.R_lower ho20 (below_size (by repeat (first|(with_reducible first|exact HB.out|apply below_alloc|apply pw_below_drewN|apply below_drew1)|exact HB.out))));have n1_ := Aside0.mk (below_step (by repeat (first|(with_reducible first|exact HB.out|apply below_alloc|apply pw_below_drewN|apply below_drew1)|exact HB.out)) hb);clear HB;have HO3 := n0_;have HB := n1_;clear n0_ n1_;clear hb ho20)|((with_reducible refine gate_callee (f := 68) rfl ?_);refine goesL_ (some 4) rfl rfl Try.func68 (by kernel_rfl) rfl #[.slice none 0 0] rfl (by (try simp only [List.map_toArray, List.map_cons, List.map_nil]);first|done|rfl|(simp only [List.length_drop, List.length_take];rfl)) ?_;(refine (tree_Right.calls k _ _ ([] : List (S31)) true _ ?side1 ?side2 A1.out).mono ?_);(case side1 => exact Kd.C_nil _ _);(case side2 => exact Nat.le_refl _);rintro e w21 ⟨rfl, hb⟩;refine ⟨_, rfl, ?_⟩;have n0_ := Aside0.mk (Kd.R_below (by (with_reducible repeat (first|apply Kd.R_alloc|apply Kd.R_drewN|apply Kd.R_drew));exact HO3.out) hb);have n1_ := Aside0.mk (below_step (by repeat (first|(with_reducible first|exact HB.out|apply below_alloc|apply pw_below_drewN|apply below_drew1)|exact HB.out)) hb);clear HO3;clear HB;have HO3 := n0_;have HB := n1_;clear n0_ n1_;(try clear hb);(try clear hb2);(try clear hk);(try clear hi);obtain ⟨Ao22, co22, eo22⟩ := Kd.R_slice HO3.out;subst eo22)|(go_at_call 68;(with_reducible refine (tree_Right.calls k _ _ y1 true _ ?side1 ?side2 A3.out).mono ?_);(case side1 => repeat (first|exact (Kd.R_reads' HO3.out).2.2|(with_reducible refine Kd.C_alloc ?_ _)|(with_reducible refine Kd.C_drewN ?_ _)|(with_reducible refine Kd.C_drew ?_)));(case side2 => exact (Kd.R_reads' HO3.out).2.1);rintro e w23 ⟨rfl, hb⟩;have n0_ := Aside0.mk (Kd.R_below (by (with_reducible repeat (first|apply Kd.R_alloc|apply Kd.R_drewN|apply Kd.R_drew));exact HO3.out) hb);have n1_ := Aside0.mk (below_step (by repeat (first|(with_reducible first|exact HB.out|apply below_alloc|apply pw_below_drewN|apply below_drew1)|exact HB.out)) hb);clear HO3;clear HB;have HO3 := n0_;have HB := n1_;clear n0_ n1_;(try clear hb);(try clear hb2);(try clear hk);(try clear hi))|(go_at_call 71;(with_reducible refine (tree_Find.calls _ _ y1 (⟨#[97]⟩ : ByteArray) t6 _ ?side1 ?side2 A5.out).mono ?_);(case side1 => repeat (first|exact (Kd.R_reads' HO3.out).2.2|(with_reducible refine Kd.C_alloc ?_ _)|(with_reducible refine Kd.C_drewN ?_ _)|(with_reducible refine Kd.C_drew ?_)));(case side2 => exact (Kd.R_reads' HO3.out).2.1);rintro e w24 ⟨rfl, hb⟩;have n0_ := Aside0.mk (Kd.R_below (by (with_reducible repeat (first|apply Kd.R_alloc|apply Kd.R_drewN|apply Kd.R_drew));exact HO3.out) hb);have n1_ := Aside0.mk (below_step (by repeat (first|(with_reducible first|exact HB.out|apply below_alloc|apply pw_below_drewN|apply below_drew1)|exact HB.out)) hb);clear HO3;clear HB;have HO3 := n0_;have HB := n1_;clear n0_ n1_;(try clear hb);(try clear hb2);(try clear hk);(try clear hi))|(go_at_call 72;(with_reducible refine (tree_Depth.calls k _ _ y1 (⟨#[97]⟩ : ByteArray) t7 _ ?side1 ?side2 A7.out).mono ?_);(case side1 => repeat (first|exact (Kd.R_reads' HO3.out).2.2|(with_reducible refine Kd.C_alloc ?_ _)|(with_reducible refine Kd.C_drewN ?_ _)|(with_reducible refine Kd.C_drew ?_)));(case side2 => exact (Kd.R_reads' HO3.out).2.1);rintro e w25 ⟨rfl, hb⟩;have n0_ := Aside0.mk (Kd.R_below (by (with_reducible repeat (first|apply Kd.R_alloc|apply Kd.R_drewN|apply Kd.R_drew));exact HO3.out) hb);have n1_ := Aside0.mk (below_step (by repeat (first|(with_reducible first|exact HB.out|apply below_alloc|apply pw_below_drewN|apply below_drew1)|exact HB.out)) hb);clear HO3;clear HB;have HO3 := n0_;have HB := n1_;clear n0_ n1_;(try clear hb);(try clear hb2);(try clear hk);(try clear hi)))
     go_ret
     exact ⟨by first|rfl|(simp [errW_none, errW_some] <;> rfl)|(simp [*, errW_none, errW_some] <;> rfl), by repeat (first|(with_reducible first|exact HB.out|apply below_alloc|apply pw_below_drewN|apply below_drew1)|exact HB.out)⟩
   ·rw [if_neg c6] at H
    have c6b0 : (t6 == 0) = false := beq_eq_false_iff_ne.mpr c6
    have c6b1 : (t6 != 0) = true := bne_iff_ne.mpr c6
    obtain rfl := Option.some.inj H
    go_enter Try.func67, Try.ntmps67
    go_wp2_with (first|((with_reducible refine gate_dst (N := 3) rfl ?_);(try (refine gate_guard (by rfl) ?_;dsimp only));refine Kd.R_lit k31 _ 31 ?hg (N := 3) ?hd (xs := ([(⟨(⟨#[97]⟩ : ByteArray), (⟨#[]⟩ : ByteArray), (⟨0, 0, 0⟩ : S27), (⟨0, 0, 0⟩ : S27), (⟨0, 0, 0⟩ : S27), 1⟩ : S31)] : List (S31))) (inner := [.string (⟨#[97]⟩ : ByteArray), .string (⟨#[]⟩ : ByteArray), .int .i64 0, .int .i64 0, .int .i64 0, .int .i64 0, .int .i64 0, .int .i64 0, .int .i64 0, .int .i64 0, .int .i64 0, .int .i64 1]) (ok := fun _ => True) (okp := fun _ => True) ?hr ?hp (fun _ hk => hk) trivial (Below.refl _ _) (Nat.le_refl _) (by simp) ?_;(case hd => rfl);(case hg => rfl);(case hr => first|(go_simp;done)|(go_simp;rfl));(case hp => exact (Reps.front (show Kd.M k31 _ _ _ (⟨(⟨#[97]⟩ : ByteArray), (⟨#[]⟩ : ByteArray), (⟨0, 0, 0⟩ : S27), (⟨0, 0, 0⟩ : S27), (⟨0, 0, 0⟩ : S27), 1⟩ : S31) [.string (⟨#[97]⟩ : ByteArray), .string (⟨#[]⟩ : ByteArray), .int .i64 0, .int .i64 0, .int .i64 0, .int .i64 0, .int .i64 0, .int .i64 0, .int .i64 0, .int .i64 0, .int .i64 0, .int .i64 1] from (k31_mkM _ _ _ (⟨(⟨#[97]⟩ : ByteArray), (⟨#[]⟩ : ByteArray), (⟨0, 0, 0⟩ : S27), (⟨0, 0, 0⟩ : S27), (⟨0, 0, 0⟩ : S27), 1⟩ : S31) )) rfl (Reps.none _ _) rfl));intro v2 w26 ho27 hb hg_ hnew_;clear hg_ hnew_;(first|rw [← Ny1.out] at ho27|(simp only [Int.reduceToNat] at ho27;rw [← Ny1.out] at ho27));have n0_ := Aside0.mk (Kd.R_lower ho27 (below_size (by repeat (first|(with_reducible first|exact HB.out|apply below_alloc|apply pw_below_drewN|apply below_drew1)|exact HB.out))));have n1_ := Aside0.mk (below_step (by repeat (first|(with_reducible first|exact HB.out|apply below_alloc|apply pw_below_drewN|apply below_drew1)|exact HB.out)) hb);clear HB;have HO3 := n0_;have HB := n1_;clear n0_ n1_;clear hb ho27)|((with_reducible refine gate_callee (f := 68) rfl ?_);refine goesL_ (some 4) rfl rfl Try.func68 (by kernel_rfl) rfl #[.slice none 0 0] rfl (by (try simp only [List.map_toArray, List.map_cons, List.map_nil]);first|done|rfl|(simp only [List.length_drop, List.length_take];rfl)) ?_;(refine (tree_Right.calls k _ _ ([] : List (S31)) true _ ?side1 ?side2 A1.out).mono ?_);(case side1 => exact Kd.C_nil _ _);(case side2 => exact Nat.le_refl _);rintro e w28 ⟨rfl, hb⟩;refine ⟨_, rfl, ?_⟩;have n0_ := Aside0.mk (Kd.R_below (by (with_reducible repeat (first|apply Kd.R_alloc|apply Kd.R_drewN|apply Kd.R_drew));exact HO3.out) hb);have n1_ := Aside0.mk (below_step (by repeat (first|(with_reducible first|exact HB.out|apply below_alloc|apply pw_below_drewN|apply below_drew1)|exact HB.out)) hb);clear HO3;clear HB;have HO3 := n0_;have HB := n1_;clear n0_ n1_;(try clear hb);(try clear hb2);(try clear hk);(try clear hi);obtain ⟨Ao29, co29, eo29⟩ := Kd.R_slice HO3.out;subst eo29)|(go_at_call 68;(with_reducible refine (tree_Right.calls k _ _ y1 true _ ?side1 ?side2 A3.out).mono ?_);(case side1 => repeat (first|exact (Kd.R_reads' HO3.out).2.2|(with_reducible refine Kd.C_alloc ?_ _)|(with_reducible refine Kd.C_drewN ?_ _)|(with_reducible refine Kd.C_drew ?_)));(case side2 => exact (Kd.R_reads' HO3.out).2.1);rintro e w30 ⟨rfl, hb⟩;have n0_ := Aside0.mk (Kd.R_below (by (with_reducible repeat (first|apply Kd.R_alloc|apply Kd.R_drewN|apply Kd.R_drew));exact HO3.out) hb);have n1_ := Aside0.mk (below_step (by repeat (first|(with_reducible first|exact HB.out|apply below_alloc|apply pw_below_drewN|apply below_drew1)|exact HB.out)) hb);clear HO3;clear HB;have HO3 := n0_;have HB := n1_;clear n0_ n1_;(try clear hb);(try clear hb2);(try clear hk);(try clear hi))|(go_at_call 71;(with_reducible refine (tree_Find.calls _ _ y1 (⟨#[97]⟩ : ByteArray) t6 _ ?side1 ?side2 A5.out).mono ?_);(case side1 => repeat (first|exact (Kd.R_reads' HO3.out).2.2|(with_reducible refine Kd.C_alloc ?_ _)|(with_reducible refine Kd.C_drewN ?_ _)|(with_reducible refine Kd.C_drew ?_)));(case side2 => exact (Kd.R_reads' HO3.out).2.1);rintro e w31 ⟨rfl, hb⟩;have n0_ := Aside0.mk (Kd.R_below (by (with_reducible repeat (first|apply Kd.R_alloc|apply Kd.R_drewN|apply Kd.R_drew));exact HO3.out) hb);have n1_ := Aside0.mk (below_step (by repeat (first|(with_reducible first|exact HB.out|apply below_alloc|apply pw_below_drewN|apply below_drew1)|exact HB.out)) hb);clear HO3;clear HB;have HO3 := n0_;have HB := n1_;clear n0_ n1_;(try clear hb);(try clear hb2);(try clear hk);(try clear hi)))
    go_ret
    exact ⟨by first|rfl|(simp [errW_none, errW_some] <;> rfl)|(simp [*, errW_none, errW_some] <;> rfl), by repeat (first|(with_reducible first|exact HB.out|apply below_alloc|apply pw_below_drewN|apply below_drew1)|exact HB.out)⟩
  ·replace c4 := Bool.eq_false_iff.mpr c4
   subst c4
   have H1 : (some false) = some r := by rw [if_neg (show ¬ (false = true) by decide)] at H; exact H
   clear H
   have H := H1
   clear H1
   obtain rfl := Option.some.inj H
   go_enter Try.func67, Try.ntmps67
   go_wp2_with (first|((with_reducible refine gate_dst (N := 3) rfl ?_);(try (refine gate_guard (by rfl) ?_;dsimp only));refine Kd.R_lit k31 _ 31 ?hg (N := 3) ?hd (xs := ([(⟨(⟨#[97]⟩ : ByteArray), (⟨#[]⟩ : ByteArray), (⟨0, 0, 0⟩ : S27), (⟨0, 0, 0⟩ : S27), (⟨0, 0, 0⟩ : S27), 1⟩ : S31)] : List (S31))) (inner := [.string (⟨#[97]⟩ : ByteArray), .string (⟨#[]⟩ : ByteArray), .int .i64 0, .int .i64 0, .int .i64 0, .int .i64 0, .int .i64 0, .int .i64 0, .int .i64 0, .int .i64 0, .int .i64 0, .int .i64 1]) (ok := fun _ => True) (okp := fun _ => True) ?hr ?hp (fun _ hk => hk) trivial (Below.refl _ _) (Nat.le_refl _) (by simp) ?_;(case hd => rfl);(case hg => rfl);(case hr => first|(go_simp;done)|(go_simp;rfl));(case hp => exact (Reps.front (show Kd.M k31 _ _ _ (⟨(⟨#[97]⟩ : ByteArray), (⟨#[]⟩ : ByteArray), (⟨0, 0, 0⟩ : S27), (⟨0, 0, 0⟩ : S27), (⟨0, 0, 0⟩ : S27), 1⟩ : S31) [.string (⟨#[97]⟩ : ByteArray), .string (⟨#[]⟩ : ByteArray), .int .i64 0, .int .i64 0, .int .i64 0, .int .i64 0, .int .i64 0, .int .i64 0, .int .i64 0, .int .i64 0, .int .i64 0, .int .i64 1] from (k31_mkM _ _ _ (⟨(⟨#[97]⟩ : ByteArray), (⟨#[]⟩ : ByteArray), (⟨0, 0, 0⟩ : S27), (⟨0, 0, 0⟩ : S27), (⟨0, 0, 0⟩ : S27), 1⟩ : S31) )) rfl (Reps.none _ _) rfl));intro v2 w32 ho33 hb hg_ hnew_;clear hg_ hnew_;(first|rw [← Ny1.out] at ho33|(simp only [Int.reduceToNat] at ho33;rw [← Ny1.out] at ho33));have n0_ := Aside0.mk (Kd.R_lower ho33 (below_size (by repeat (first|(with_reducible first|exact HB.out|apply below_alloc|apply pw_below_drewN|apply below_drew1)|exact HB.out))));have n1_ := Aside0.mk (below_step (by repeat (first|(with_reducible first|exact HB.out|apply below_alloc|apply pw_below_drewN|apply below_drew1)|exact HB.out)) hb);clear HB;have HO3 := n0_;have HB := n1_;clear n0_ n1_;clear hb ho33)|((with_reducible refine gate_callee (f := 68) rfl ?_);refine goesL_ (some 4) rfl rfl Try.func68 (by kernel_rfl) rfl #[.slice none 0 0] rfl (by (try simp only [List.map_toArray, List.map_cons, List.map_nil]);first|done|rfl|(simp only [List.length_drop, List.length_take];rfl)) ?_;(refine (tree_Right.calls k _ _ ([] : List (S31)) true _ ?side1 ?side2 A1.out).mono ?_);(case side1 => exact Kd.C_nil _ _);(case side2 => exact Nat.le_refl _);rintro e w34 ⟨rfl, hb⟩;refine ⟨_, rfl, ?_⟩;have n0_ := Aside0.mk (Kd.R_below (by (with_reducible repeat (first|apply Kd.R_alloc|apply Kd.R_drewN|apply Kd.R_drew));exact HO3.out) hb);have n1_ := Aside0.mk (below_step (by repeat (first|(with_reducible first|exact HB.out|apply below_alloc|apply pw_below_drewN|apply below_drew1)|exact HB.out)) hb);clear HO3;clear HB;have HO3 := n0_;have HB := n1_;clear n0_ n1_;(try clear hb);(try clear hb2);(try clear hk);(try clear hi);obtain ⟨Ao35, co35, eo35⟩ := Kd.R_slice HO3.out;subst eo35)|(go_at_call 68;(with_reducible refine (tree_Right.calls k _ _ y1 false _ ?side1 ?side2 A3.out).mono ?_);(case side1 => repeat (first|exact (Kd.R_reads' HO3.out).2.2|(with_reducible refine Kd.C_alloc ?_ _)|(with_reducible refine Kd.C_drewN ?_ _)|(with_reducible refine Kd.C_drew ?_)));(case side2 => exact (Kd.R_reads' HO3.out).2.1);rintro e w36 ⟨rfl, hb⟩;have n0_ := Aside0.mk (Kd.R_below (by (with_reducible repeat (first|apply Kd.R_alloc|apply Kd.R_drewN|apply Kd.R_drew));exact HO3.out) hb);have n1_ := Aside0.mk (below_step (by repeat (first|(with_reducible first|exact HB.out|apply below_alloc|apply pw_below_drewN|apply below_drew1)|exact HB.out)) hb);clear HO3;clear HB;have HO3 := n0_;have HB := n1_;clear n0_ n1_;(try clear hb);(try clear hb2);(try clear hk);(try clear hi)))
   go_ret
   exact ⟨by first|rfl|(simp [errW_none, errW_some] <;> rfl)|(simp [*, errW_none, errW_some] <;> rfl), by repeat (first|(with_reducible first|exact HB.out|apply below_alloc|apply pw_below_drewN|apply below_drew1)|exact HB.out)⟩
 ·replace c2 := Bool.eq_false_iff.mpr c2
  subst c2
  have H1 : (some false) = some r := by rw [if_neg (show ¬ (false = true) by decide)] at H; exact H
  clear H
  have H := H1
  clear H1
  obtain rfl := Option.some.inj H
  go_enter Try.func67, Try.ntmps67
  go_wp2_with (first|((with_reducible refine gate_dst (N := 3) rfl ?_);(try (refine gate_guard (by rfl) ?_;dsimp only));refine Kd.R_lit k31 _ 31 ?hg (N := 3) ?hd (xs := ([(⟨(⟨#[97]⟩ : ByteArray), (⟨#[]⟩ : ByteArray), (⟨0, 0, 0⟩ : S27), (⟨0, 0, 0⟩ : S27), (⟨0, 0, 0⟩ : S27), 1⟩ : S31)] : List (S31))) (inner := [.string (⟨#[97]⟩ : ByteArray), .string (⟨#[]⟩ : ByteArray), .int .i64 0, .int .i64 0, .int .i64 0, .int .i64 0, .int .i64 0, .int .i64 0, .int .i64 0, .int .i64 0, .int .i64 0, .int .i64 1]) (ok := fun _ => True) (okp := fun _ => True) ?hr ?hp (fun _ hk => hk) trivial (Below.refl _ _) (Nat.le_refl _) (by simp) ?_;(case hd => rfl);(case hg => rfl);(case hr => first|(go_simp;done)|(go_simp;rfl));(case hp => exact (Reps.front (show Kd.M k31 _ _ _ (⟨(⟨#[97]⟩ : ByteArray), (⟨#[]⟩ : ByteArray), (⟨0, 0, 0⟩ : S27), (⟨0, 0, 0⟩ : S27), (⟨0, 0, 0⟩ : S27), 1⟩ : S31) [.string (⟨#[97]⟩ : ByteArray), .string (⟨#[]⟩ : ByteArray), .int .i64 0, .int .i64 0, .int .i64 0, .int .i64 0, .int .i64 0, .int .i64 0, .int .i64 0, .int .i64 0, .int .i64 0, .int .i64 1] from (k31_mkM _ _ _ (⟨(⟨#[97]⟩ : ByteArray), (⟨#[]⟩ : ByteArray), (⟨0, 0, 0⟩ : S27), (⟨0, 0, 0⟩ : S27), (⟨0, 0, 0⟩ : S27), 1⟩ : S31) )) rfl (Reps.none _ _) rfl));intro v2 w37 ho38 hb hg_ hnew_;clear hg_ hnew_;(first|rw [← Ny1.out] at ho38|(simp only [Int.reduceToNat] at ho38;rw [← Ny1.out] at ho38));have n0_ := Aside0.mk (Kd.R_lower ho38 (below_size (by repeat (first|(with_reducible first|exact HB.out|apply below_alloc|apply pw_below_drewN|apply below_drew1)|exact HB.out))));have n1_ := Aside0.mk (below_step (by repeat (first|(with_reducible first|exact HB.out|apply below_alloc|apply pw_below_drewN|apply below_drew1)|exact HB.out)) hb);clear HB;have HO3 := n0_;have HB := n1_;clear n0_ n1_;clear hb ho38)|((with_reducible refine gate_callee (f := 68) rfl ?_);refine goesL_ (some 4) rfl rfl Try.func68 (by kernel_rfl) rfl #[.slice none 0 0] rfl (by (try simp only [List.map_toArray, List.map_cons, List.map_nil]);first|done|rfl|(simp only [List.length_drop, List.length_take];rfl)) ?_;(refine (tree_Right.calls k _ _ ([] : List (S31)) false _ ?side1 ?side2 A1.out).mono ?_);(case side1 => exact Kd.C_nil _ _);(case side2 => exact Nat.le_refl _);rintro e w39 ⟨rfl, hb⟩;refine ⟨_, rfl, ?_⟩;have n0_ := Aside0.mk (Kd.R_below (by (with_reducible repeat (first|apply Kd.R_alloc|apply Kd.R_drewN|apply Kd.R_drew));exact HO3.out) hb);have n1_ := Aside0.mk (below_step (by repeat (first|(with_reducible first|exact HB.out|apply below_alloc|apply pw_below_drewN|apply below_drew1)|exact HB.out)) hb);clear HO3;clear HB;have HO3 := n0_;have HB := n1_;clear n0_ n1_;(try clear hb);(try clear hb2);(try clear hk);(try clear hi)))
  go_ret
  exact ⟨by first|rfl|(simp [errW_none, errW_some] <;> rfl)|(simp [*, errW_none, errW_some] <;> rfl), by repeat (first|(with_reducible first|exact HB.out|apply below_alloc|apply pw_below_drewN|apply below_drew1)|exact HB.out)⟩
end Go.Proofs.Ytcgefpklljclgaa.Print
