/- A part of the proof of AdmitMade: the machine's side by the kit's print, contracts and lemmas by this session. -/
import Derived.Test.YtcgefpklljclgaaBAdmitMade1
import Derived.Test.YtcgefpklljclgaaBAdmitMade2
import Derived.Test.YtcgefpklljclgaaBAdmitMade3
import Derived.Test.YtcgefpklljclgaaBAdmitMade4
namespace Go.Proofs.Ytcgefpklljclgaa.Print
open Go.RowKit Go.Proofs.YtcgefpklljclgaaW.PrintWords Go.Proofs.YtcgefpklljclgaaW.PrintLast Go.Proofs.YtcgefpklljclgaaW.PrintMore
attribute [local go_sem] max2_int min2_int max_two min_two max_three min_three max_four min_four   -- for this text's walks alone
set_option linter.unusedVariables false
set_option linter.unusedSimpArgs false
mutual
def law12_Make.l0 : Nat → List Int → List (S31) → Int → Option ((List (S31)))
 | 0, _, _, _ => none
 | k + 1, x0, x3, x4 => if (wrap64 (x4 + 2)) < (x0.length : Int) then (law12_Make.j1 k x0 x3 x4 (decide ((x3.length : Int) < 24))) else (law12_Make.j1 k x0 x3 x4 false)
def law12_Make.j1 : Nat → List Int → List (S31) → Int → Bool → Option ((List (S31)))
 | 0, _, _, _, _ => none
 | k + 1, x0, x3, x4, x21 => if x21 = true then (if 0 ≤ x4 then (if x4 < (x0.length : Int) then (if (x3.length : Int) > 0 then (law12_Make.j2 k x0 x3 x4 (wrap64 (rd x0 x4)) (⟨#[]⟩ : ByteArray) (decide ((Int.tmod (wrap64 (rd x0 x4)) 3) > 0))) else (law12_Make.j2 k x0 x3 x4 (wrap64 (rd x0 x4)) (⟨#[]⟩ : ByteArray) false)) else (none)) else (none)) else (some x3)
def law12_Make.j2 : Nat → List Int → List (S31) → Int → Int → ByteArray → Bool → Option ((List (S31)))
 | 0, _, _, _, _, _, _ => none
 | k + 1, x0, x3, x4, x5, x6, x36 => if x36 = true then (if (x3.length : Int) = 0 then (none) else (if 0 ≤ (Int.tmod (wrap64 (Int.tdiv x5 3)) (x3.length : Int)) then (if (Int.tmod (wrap64 (Int.tdiv x5 3)) (x3.length : Int)) < (x3.length : Int) then (law12_Make.j3 k x0 x3 x4 ((rd_T31 x3 (Int.tmod (wrap64 (Int.tdiv x5 3)) (x3.length : Int))).f0)) else (none)) else (none))) else (law12_Make.j3 k x0 x3 x4 x6)
def law12_Make.j3 : Nat → List Int → List (S31) → Int → ByteArray → Option ((List (S31)))
 | 0, _, _, _, _ => none
 | k + 1, x0, x3, x4, x6 => if 0 ≤ (wrap64 (x4 + 1)) then (if (wrap64 (x4 + 1)) < (x0.length : Int) then ((r10_Create.f k x3 (strOfNums (([(wrap64 (97 + (Int.tmod (wrap64 ((x3.length : Int) * 5)) 24))) % 256] : List Int))) x6 (wrap64 (20 + (wrap64 (rd x0 (wrap64 (x4 + 1)))))) (wrap64 (20 + (wrap64 (rd x0 (wrap64 (x4 + 1)))))) (wrap64 (20 + (wrap64 (rd x0 (wrap64 (x4 + 1))))))).bind fun bt7 => (if bt7.2 = 0 then (if 0 ≤ (wrap64 (x4 + 2)) then (if (wrap64 (x4 + 2)) < (x0.length : Int) then (if (bt7.1.length : Int) = 0 then (none) else (if 0 ≤ (Int.tmod (wrap64 (Int.tdiv (wrap64 (rd x0 (wrap64 (x4 + 2)))) 16)) (bt7.1.length : Int)) then (if (Int.tmod (wrap64 (Int.tdiv (wrap64 (rd x0 (wrap64 (x4 + 2)))) 16)) (bt7.1.length : Int)) < (bt7.1.length : Int) then ((r10_Admit.f k bt7.1 ((rd_T31 bt7.1 (Int.tmod (wrap64 (Int.tdiv (wrap64 (rd x0 (wrap64 (x4 + 2)))) 16)) (bt7.1.length : Int))).f0) (Int.tmod (wrap64 (rd x0 (wrap64 (x4 + 2)))) 16) (wrap64 (Int.tdiv (Int.tmod (wrap64 (rd x0 (wrap64 (x4 + 2)))) 16) 2)) (Int.tmod (Int.tmod (wrap64 (rd x0 (wrap64 (x4 + 2)))) 16) 3)).bind fun bt15 => (if bt15.2 = 0 then (law12_Make.l0 k x0 bt15.1 (wrap64 (x4 + 3))) else (law12_Make.l0 k x0 bt7.1 (wrap64 (x4 + 3))))) else (none)) else (none))) else (none)) else (none)) else (law12_Make.l0 k x0 x3 (wrap64 (x4 + 3))))) else (none)) else (none)
end
def law12_Make.f (k : Nat) (l0 : List Int) : Option ((List (S31))) := law12_Make.l0 k l0 ([] : List (S31)) 0
theorem law12_Make.mono_l : ∀ k, (∀ y0 y1 y2, LeO (law12_Make.l0 k y0 y1 y2) (law12_Make.l0 (k + 1) y0 y1 y2)) ∧ (∀ y0 y1 y2 y3, LeO (law12_Make.j1 k y0 y1 y2 y3) (law12_Make.j1 (k + 1) y0 y1 y2 y3)) ∧ (∀ y0 y1 y2 y3 y4 y5, LeO (law12_Make.j2 k y0 y1 y2 y3 y4 y5) (law12_Make.j2 (k + 1) y0 y1 y2 y3 y4 y5)) ∧ (∀ y0 y1 y2 y3, LeO (law12_Make.j3 k y0 y1 y2 y3) (law12_Make.j3 (k + 1) y0 y1 y2 y3))
 | 0 => ⟨fun _ _ _ r h => by simp [law12_Make.l0] at h, fun _ _ _ _ r h => by simp [law12_Make.j1] at h, fun _ _ _ _ _ _ r h => by simp [law12_Make.j2] at h, fun _ _ _ _ r h => by simp [law12_Make.j3] at h⟩
 | k + 1 => by
  obtain ⟨ih0, ih1, ih2, ih3⟩ := law12_Make.mono_l k
  refine ⟨?_, ?_, ?_, ?_⟩
  ·intro y0 y1 y2
   unfold law12_Make.l0
   repeat' first
   | (with_reducible exact ih0 _ _ _)
   | (with_reducible exact ih1 _ _ _ _)
   | (with_reducible exact ih2 _ _ _ _ _ _)
   | (with_reducible exact ih3 _ _ _ _)
   | (with_reducible exact r10_Admit.mono _ _ _ _ _ _)
   | (with_reducible exact r10_Create.mono _ _ _ _ _ _ _)
   | (with_reducible exact LeO.refl _)
   | (with_reducible exact LeO.none _)
   | (with_reducible refine LeO.ite ?_ ?_)
   | (with_reducible refine LeO.bind ?_ (fun _ => ?_))
   | exact ih0 _ _ _
   | exact ih1 _ _ _ _
   | exact ih2 _ _ _ _ _ _
   | exact ih3 _ _ _ _
   | exact r10_Admit.mono _ _ _ _ _ _
   | exact r10_Create.mono _ _ _ _ _ _ _
   | exact LeO.none _
   | refine LeO.ite ?_ ?_
   | refine LeO.bind ?_ (fun _ => ?_)
  ·intro y0 y1 y2 y3
   unfold law12_Make.j1
   repeat' first
   | (with_reducible exact ih0 _ _ _)
   | (with_reducible exact ih1 _ _ _ _)
   | (with_reducible exact ih2 _ _ _ _ _ _)
   | (with_reducible exact ih3 _ _ _ _)
   | (with_reducible exact r10_Admit.mono _ _ _ _ _ _)
   | (with_reducible exact r10_Create.mono _ _ _ _ _ _ _)
   | (with_reducible exact LeO.refl _)
   | (with_reducible exact LeO.none _)
   | (with_reducible refine LeO.ite ?_ ?_)
   | (with_reducible refine LeO.bind ?_ (fun _ => ?_))
   | exact ih0 _ _ _
   | exact ih1 _ _ _ _
   | exact ih2 _ _ _ _ _ _
   | exact ih3 _ _ _ _
   | exact r10_Admit.mono _ _ _ _ _ _
   | exact r10_Create.mono _ _ _ _ _ _ _
   | exact LeO.none _
   | refine LeO.ite ?_ ?_
   | refine LeO.bind ?_ (fun _ => ?_)
  ·intro y0 y1 y2 y3 y4 y5
   unfold law12_Make.j2
   repeat' first
   | (with_reducible exact ih0 _ _ _)
   | (with_reducible exact ih1 _ _ _ _)
   | (with_reducible exact ih2 _ _ _ _ _ _)
   | (with_reducible exact ih3 _ _ _ _)
   | (with_reducible exact r10_Admit.mono _ _ _ _ _ _)
   | (with_reducible exact r10_Create.mono _ _ _ _ _ _ _)
   | (with_reducible exact LeO.refl _)
   | (with_reducible exact LeO.none _)
   | (with_reducible refine LeO.ite ?_ ?_)
   | (with_reducible refine LeO.bind ?_ (fun _ => ?_))
   | exact ih0 _ _ _
   | exact ih1 _ _ _ _
   | exact ih2 _ _ _ _ _ _
   | exact ih3 _ _ _ _
   | exact r10_Admit.mono _ _ _ _ _ _
   | exact r10_Create.mono _ _ _ _ _ _ _
   | exact LeO.none _
   | refine LeO.ite ?_ ?_
   | refine LeO.bind ?_ (fun _ => ?_)
  ·intro y0 y1 y2 y3
   unfold law12_Make.j3
   repeat' first
   | (with_reducible exact ih0 _ _ _)
   | (with_reducible exact ih1 _ _ _ _)
   | (with_reducible exact ih2 _ _ _ _ _ _)
   | (with_reducible exact ih3 _ _ _ _)
   | (with_reducible exact r10_Admit.mono _ _ _ _ _ _)
   | (with_reducible exact r10_Create.mono _ _ _ _ _ _ _)
   | (with_reducible exact LeO.refl _)
   | (with_reducible exact LeO.none _)
   | (with_reducible refine LeO.ite ?_ ?_)
   | (with_reducible refine LeO.bind ?_ (fun _ => ?_))
   | exact ih0 _ _ _
   | exact ih1 _ _ _ _
   | exact ih2 _ _ _ _ _ _
   | exact ih3 _ _ _ _
   | exact r10_Admit.mono _ _ _ _ _ _
   | exact r10_Create.mono _ _ _ _ _ _ _
   | exact LeO.none _
   | refine LeO.ite ?_ ?_
   | refine LeO.bind ?_ (fun _ => ?_)
theorem law12_Make.mono : ∀ a0 k, LeO (law12_Make.f k a0) (law12_Make.f (k + 1) a0) := by
 intro a0 k
 obtain ⟨ih0, ih1, ih2, ih3⟩ := law12_Make.mono_l k
 unfold law12_Make.f
 repeat' first
   | (with_reducible exact ih0 _ _ _)
   | (with_reducible exact ih1 _ _ _ _)
   | (with_reducible exact ih2 _ _ _ _ _ _)
   | (with_reducible exact ih3 _ _ _ _)
   | (with_reducible exact r10_Admit.mono _ _ _ _ _ _)
   | (with_reducible exact r10_Create.mono _ _ _ _ _ _ _)
   | (with_reducible exact LeO.refl _)
   | (with_reducible exact LeO.none _)
   | (with_reducible refine LeO.ite ?_ ?_)
   | (with_reducible refine LeO.bind ?_ (fun _ => ?_))
   | exact ih0 _ _ _
   | exact ih1 _ _ _ _
   | exact ih2 _ _ _ _ _ _
   | exact ih3 _ _ _ _
   | exact r10_Admit.mono _ _ _ _ _ _
   | exact r10_Create.mono _ _ _ _ _ _ _
   | exact LeO.none _
   | refine LeO.ite ?_ ?_
   | refine LeO.bind ?_ (fun _ => ?_)
set_option maxHeartbeats 8000000 in
set_option maxRecDepth 100000 in
theorem law12_Make.calls (k : Nat) (A0 : Option Addr) (c0 : Nat) (l0 : List Int) (r : List (S31)) (w : World) (hr0 : Kd.C (Kd.int .u8) w A0 l0.length l0) (hc0 : l0.length ≤ c0) (h : law12_Make.f k l0 = some r) :
  Calls Try.prog 32 #[.slice A0 l0.length c0] w fun e w' => ∃ v0_ : Value, e = .returned (v0_) ∧ Kd.R k31 31 w' w.heap.size (fun _ => True) v0_ r ∧ Below w.heap.size w w' := by
 have hu27 := Try.underlying27
 have hu67 := Try.underlying67
 have HR0 := Aside0.mk hr0
 have HC0 := Aside0.mk hc0
 clear hr0 hc0
 have HB := Aside0.mk (Below.refl w.heap.size w)
 have H : (law12_Make.l0 k l0 ([] : List (S31)) 0) = some r := h
 clear h
 have H' := Aside0.mk H
 clear H
 go_enter Try.func32, Try.ntmps32
 go_wp2
 go_loopg [3, 4] k (fun kq v3 v4 w' => ∃ (x3_1 : List (S31)) (x4_1 : Int), v4 = .int .i64 x4_1 ∧ Aside0 (law12_Make.l0 kq l0 x3_1 x4_1 = some r) ∧ Aside0 (kq ≤ k) ∧ Aside0 (Kd.R k31 31 w' w.heap.size (fun _ => True) v3 x3_1) ∧ Aside0 (Below w.heap.size w w'))
 case atStart => exact ⟨(([] : List (S31))), (0), (by first|rfl|(simp;done)|(simp [*];done)), H', ⟨Nat.le_refl _⟩, ⟨by first|exact Kd.R_nil _ _ _ _ _|exact Kd.N_nil _ _ _ _ _|exact Kd.V_nil _ _ _ _ _|exact Kd.Q_nil _ _ _ _ _|exact Kd.S_nil _ _ _ _ _⟩, ⟨by repeat (first|(with_reducible first|exact HB.out|apply below_alloc|apply pw_below_drewN|apply below_drew1)|exact HB.out)⟩⟩
 case round =>
  clear H'
  obtain ⟨x3_1, x4_1, rfl, HA, HK1, HO_3, HB⟩ := hrel
  cases gk with
  | zero => exact absurd HA.out (by simp [law12_Make.l0])
  | succ k1 =>
   have H := HA.out
   clear HA
   simp only [law12_Make.l0] at H
   have HC2 := Aside0.mk H
   clear H
   go_upto_region 3 with (fail)
   go_cut [21] (fun v21 wc => ∃ (kq : Nat) (x21_1 : Bool), v21 = .bool x21_1 ∧ Aside0 (law12_Make.j1 kq l0 x3_1 x4_1 x21_1 = some r) ∧ Aside0 (kq ≤ k1) ∧ Aside0 (Kd.R k31 31 wc w.heap.size (fun _ => True) u3 x3_1) ∧ Aside0 (Below w.heap.size w wc))
   case first =>
    have H := HC2.out
    clear HC2
    by_cases c3 : (wrap64 (x4_1 + 2)) < (l0.length : Int)
    ·rw [if_pos c3] at H
     have c3b0 : decide ((wrap64 (x4_1 + 2)) < (l0.length : Int)) = true := decide_eq_true c3
     clear c3
     (first | rw [c3b0] | (simp only [i64_w, i32_w]; rw [c3b0]) | skip)
     have H' := Aside0.mk H
     clear H
     obtain ⟨Ao4, co4, eo4⟩ := Kd.R_slice HO_3.out
     subst eo4
     go_wp2
     go_meet
     case rel => exact ⟨_, (decide ((x3_1.length : Int) < 24)), (by first|rfl|(simp;done)|(simp [*];done)), H', ⟨by have := HK1.out;first|omega|exact Nat.le_refl _⟩, ⟨by (with_reducible repeat (first|apply Kd.R_alloc|apply Kd.R_drewN|apply Kd.R_drew));exact HO_3.out⟩, ⟨by repeat (first|(with_reducible first|exact HB.out|apply below_alloc|apply pw_below_drewN|apply below_drew1)|exact HB.out)⟩⟩
    ·rw [if_neg c3] at H
     have c3b0 : decide ((wrap64 (x4_1 + 2)) < (l0.length : Int)) = false := decide_eq_false c3
     clear c3
     (first | rw [c3b0] | (simp only [i64_w, i32_w]; rw [c3b0]) | skip)
     have H' := Aside0.mk H
     clear H
     go_wp2
     go_meet
     case rel => exact ⟨_, (false), (by first|rfl|(simp;done)|(simp [*];done)), H', ⟨by have := HK1.out;first|omega|exact Nat.le_refl _⟩, ⟨by (with_reducible repeat (first|apply Kd.R_alloc|apply Kd.R_drewN|apply Kd.R_drew));exact HO_3.out⟩, ⟨by repeat (first|(with_reducible first|exact HB.out|apply below_alloc|apply pw_below_drewN|apply below_drew1)|exact HB.out)⟩⟩
   case rest =>
    clear HC2
    try clear p2
    try clear c3
    try clear c3b0
    obtain ⟨kq, x21_1, rfl, HA, HJ1, HO_3, HB⟩ := hcut
    cases kq with
    | zero => exact absurd HA.out (by simp [law12_Make.j1])
    | succ kj1 =>
     have H := HA.out
     clear HA
     simp only [law12_Make.j1] at H
     by_cases c5 : x21_1 = true
     ·subst c5
      have H1 : (if 0 ≤ x4_1 then (if x4_1 < (l0.length : Int) then (if (x3_1.length : Int) > 0 then (law12_Make.j2 kj1 l0 x3_1 x4_1 (wrap64 (rd l0 x4_1)) (⟨#[]⟩ : ByteArray) (decide ((Int.tmod (wrap64 (rd l0 x4_1)) 3) > 0))) else (law12_Make.j2 kj1 l0 x3_1 x4_1 (wrap64 (rd l0 x4_1)) (⟨#[]⟩ : ByteArray) false)) else (none)) else (none)) = some r := by rw [if_pos rfl] at H; exact H
      clear H
      have H := H1
      clear H1
      by_cases c6 : 0 ≤ x4_1
      ·rw [if_pos c6] at H
       have c6b0 : decide (0 ≤ x4_1) = true := decide_eq_true c6
       clear c6
       by_cases c7 : x4_1 < (l0.length : Int)
       ·rw [if_pos c7] at H
        have c7b0 : decide (x4_1 < (l0.length : Int)) = true := decide_eq_true c7
        clear c7
        have HC8 := Aside0.mk H
        clear H
        have p1 : 0 ≤ (x4_1 : Int) := of_decide_eq_true (by first|(with_reducible assumption)|assumption)
        have q1 : x4_1 < (l0.length : Int) := of_decide_eq_true (by first|(with_reducible assumption)|assumption)
        obtain ⟨ad1, e1, hx1_0⟩ := Kd.at_int HR0.out x4_1 p1 q1
        cases e1
        replace hx1_0 := (HB.out.cell (World.block_lt_of_cell? w _ hx1_0)).trans hx1_0
        replace p1 := eq_true p1
        replace q1 := eq_true q1
        go_upto_region 7 with (fail)
        go_cut [36] (fun v36 wc => ∃ (kq : Nat) (x36_7 : Bool), v36 = .bool x36_7 ∧ Aside0 (law12_Make.j2 kq l0 x3_1 x4_1 (wrap64 (rd l0 x4_1)) (⟨#[]⟩ : ByteArray) x36_7 = some r) ∧ Aside0 (kq ≤ kj1) ∧ Aside0 (Kd.R k31 31 wc w.heap.size (fun _ => True) u3 x3_1) ∧ Aside0 (Below w.heap.size w wc))
        case first =>
         have H := HC8.out
         clear HC8
         by_cases c9 : (x3_1.length : Int) > 0
         ·rw [if_pos c9] at H
          have c9b0 : decide (0 < (x3_1.length : Int)) = true := decide_eq_true c9
          have c9b1 : decide (0 < x3_1.length) = true := decide_eq_true (by omega)
          clear c9
          (first | rw [c9b0] | (simp only [i64_w, i32_w]; rw [c9b0]) | skip)
          have H' := Aside0.mk H
          clear H
          obtain ⟨Ao10, co10, eo10⟩ := Kd.R_slice HO_3.out
          subst eo10
          go_wp2
          go_meet
          case rel => exact ⟨_, (decide ((Int.tmod (wrap64 (rd l0 x4_1)) 3) > 0)), (by first|rfl|(simp;done)|(simp [*];done)), H', ⟨by have := HK1.out;have := HJ1.out;first|omega|exact Nat.le_refl _⟩, ⟨by (with_reducible repeat (first|apply Kd.R_alloc|apply Kd.R_drewN|apply Kd.R_drew));exact HO_3.out⟩, ⟨by repeat (first|(with_reducible first|exact HB.out|apply below_alloc|apply pw_below_drewN|apply below_drew1)|exact HB.out)⟩⟩
         ·rw [if_neg c9] at H
          have c9b0 : decide (0 < (x3_1.length : Int)) = false := decide_eq_false c9
          have c9b1 : decide (0 < x3_1.length) = false := decide_eq_false (by omega)
          clear c9
          (first | rw [c9b0] | (simp only [i64_w, i32_w]; rw [c9b0]) | skip)
          have H' := Aside0.mk H
          clear H
          obtain ⟨Ao11, co11, eo11⟩ := Kd.R_slice HO_3.out
          subst eo11
          go_wp2
          go_meet
          case rel => exact ⟨_, (false), (by first|rfl|(simp;done)|(simp [*];done)), H', ⟨by have := HK1.out;have := HJ1.out;first|omega|exact Nat.le_refl _⟩, ⟨by (with_reducible repeat (first|apply Kd.R_alloc|apply Kd.R_drewN|apply Kd.R_drew));exact HO_3.out⟩, ⟨by repeat (first|(with_reducible first|exact HB.out|apply below_alloc|apply pw_below_drewN|apply below_drew1)|exact HB.out)⟩⟩
        case rest =>
         clear HC8
         try clear p1
         try clear q1
         try clear hx1
         try clear p2
         try clear c3
         try clear c3b0
         try clear c5
         try clear c6
         try clear c6b0
         try clear p6
         try clear c7
         try clear c7b0
         try clear c9
         try clear c9b0
         try clear c9b1
         try clear hx1_0
         try clear p1
         try clear p2
         try clear q1
         obtain ⟨kq, x36_7, rfl, HA, HJ7, HO_3, HB⟩ := hcut
         cases kq with
         | zero => exact absurd HA.out (by simp [law12_Make.j2])
         | succ kj7 =>
          have H := HA.out
          clear HA
          simp only [law12_Make.j2] at H
          have HC12 := Aside0.mk H
          clear H
          go_upto_if 36 with (fail)
          go_cut [6] (fun v6 wc => ∃ (kq : Nat) (x6_11 : ByteArray), v6 = .string x6_11 ∧ Aside0 (law12_Make.j3 kq l0 x3_1 x4_1 x6_11 = some r) ∧ Aside0 (kq ≤ kj7) ∧ Aside0 (Kd.R k31 31 wc w.heap.size (fun _ => True) u3 x3_1) ∧ Aside0 (Below w.heap.size w wc))
          case first =>
           have H := HC12.out
           clear HC12
           by_cases c13 : x36_7 = true
           ·subst c13
            have H1 : (if (x3_1.length : Int) = 0 then (none) else (if 0 ≤ (Int.tmod (wrap64 (Int.tdiv (wrap64 (rd l0 x4_1)) 3)) (x3_1.length : Int)) then (if (Int.tmod (wrap64 (Int.tdiv (wrap64 (rd l0 x4_1)) 3)) (x3_1.length : Int)) < (x3_1.length : Int) then (law12_Make.j3 kj7 l0 x3_1 x4_1 ((rd_T31 x3_1 (Int.tmod (wrap64 (Int.tdiv (wrap64 (rd l0 x4_1)) 3)) (x3_1.length : Int))).f0)) else (none)) else (none))) = some r := by rw [if_pos rfl] at H; exact H
            clear H
            have H := H1
            clear H1
            by_cases c14 : (x3_1.length : Int) = 0
            ·rw [if_pos c14] at H
             exact absurd H (by simp)
            ·rw [if_neg c14] at H
             have c14b0 : ((x3_1.length : Int) == 0) = false := beq_eq_false_iff_ne.mpr c14
             have c14b1 : ((x3_1.length : Int) != 0) = true := bne_iff_ne.mpr c14
             have c14b2 : ¬ (x3_1 = []) := fun h_ => c14 (by rw [h_]; rfl)
             (first | rw [c14b0] | (simp only [i64_w, i32_w]; rw [c14b0]) | skip)
             obtain ⟨ji15, hji15⟩ : ∃ j_ : Int, (Int.tmod (wrap64 (Int.tdiv (wrap64 (rd l0 x4_1)) 3)) (x3_1.length : Int)) = j_ := ⟨_, rfl⟩
             replace H : (if 0 ≤ (ji15) then (if (ji15) < (x3_1.length : Int) then (law12_Make.j3 kj7 l0 x3_1 x4_1 ((rd_T31 x3_1 (ji15)).f0)) else (none)) else (none)) = some r := by first | (rw [hji15] at H; exact H) | (simp only [hji15] at H ⊢; exact H)
             by_cases c16 : 0 ≤ (ji15)
             ·rw [if_pos c16] at H
              have c16b0 : decide (0 ≤ (ji15)) = true := decide_eq_true c16
              clear c16
              by_cases c17 : (ji15) < (x3_1.length : Int)
              ·rw [if_pos c17] at H
               have c17b0 : decide ((ji15) < (x3_1.length : Int)) = true := decide_eq_true c17
               clear c17
               have H' := Aside0.mk H
               clear H
               obtain ⟨Ao18, co18, eo18⟩ := Kd.R_slice HO_3.out
               subst eo18
               have p2 : 0 ≤ ((ji15) : Int) := of_decide_eq_true (by first|(with_reducible assumption)|assumption)
               have q2 : (ji15) < (x3_1.length : Int) := of_decide_eq_true (by first|(with_reducible assumption)|assumption)
               obtain ⟨ad2, e2, hx2_0, hx2_1, hx2_2, hx2_3, hx2_4, hx2_5, hx2_6, hx2_7, hx2_8, hx2_9, hx2_10, hx2_11⟩ := at_T31 (Kd.R_reads' HO_3.out).2.2 (ji15) p2 q2
               cases e2
               replace p2 := eq_true p2
               replace q2 := eq_true q2
               go_wp2
               go_meet
               case rel => exact ⟨_, ((rd_T31 x3_1 (ji15)).f0), (by first|rfl|(simp;done)|(simp only [← hji15] <;> (first|rfl|simp))|(simp [*];done)), H', ⟨by have := HK1.out;have := HJ1.out;have := HJ7.out;first|omega|exact Nat.le_refl _⟩, ⟨by (with_reducible repeat (first|apply Kd.R_alloc|apply Kd.R_drewN|apply Kd.R_drew));exact HO_3.out⟩, ⟨by repeat (first|(with_reducible first|exact HB.out|apply below_alloc|apply pw_below_drewN|apply below_drew1)|exact HB.out)⟩⟩
              ·rw [if_neg c17] at H
               exact absurd H (by simp)
             ·rw [if_neg c16] at H
              exact absurd H (by simp)
           ·replace c13 := Bool.eq_false_iff.mpr c13
            subst c13
            have H1 : (law12_Make.j3 kj7 l0 x3_1 x4_1 (⟨#[]⟩ : ByteArray)) = some r := by rw [if_neg (show ¬ (false = true) by decide)] at H; exact H
            clear H
            have H := H1
            clear H1
            have H' := Aside0.mk H
            clear H
            go_wp2
            go_meet
            case rel => exact ⟨_, ((⟨#[]⟩ : ByteArray)), (by first|rfl|(simp;done)|(simp [*];done)), H', ⟨by have := HK1.out;have := HJ1.out;have := HJ7.out;first|omega|exact Nat.le_refl _⟩, ⟨by (with_reducible repeat (first|apply Kd.R_alloc|apply Kd.R_drewN|apply Kd.R_drew));exact HO_3.out⟩, ⟨by repeat (first|(with_reducible first|exact HB.out|apply below_alloc|apply pw_below_drewN|apply below_drew1)|exact HB.out)⟩⟩
          case rest =>
           clear HC12
           try clear c1
           try clear p1
           try clear q1
           try clear hx1
           try clear p2
           try clear q2
           try clear hx2
           try clear c3
           try clear c3b0
           try clear c5
           try clear c6
           try clear c6b0
           try clear p6
           try clear c7
           try clear c7b0
           try clear c9
           try clear c9b0
           try clear c9b1
           try clear c13
           try clear c14
           try clear c14b0
           try clear c14b1
           try clear c14b2
           try clear c16
           try clear c16b0
           try clear c17
           try clear c17b0
           try clear hx1_0
           try clear hx2_0
           try clear hx2_1
           try clear hx2_10
           try clear hx2_11
           try clear hx2_2
           try clear hx2_3
           try clear hx2_4
           try clear hx2_5
           try clear hx2_6
           try clear hx2_7
           try clear hx2_8
           try clear hx2_9
           try clear p1
           try clear p2
           try clear p6
           try clear q1
           try clear q2
           obtain ⟨kq, x6_11, rfl, HA, HJ11, HO_3, HB⟩ := hcut
           cases kq with
           | zero => exact absurd HA.out (by simp [law12_Make.j3])
           | succ kj11 =>
            have H := HA.out
            clear HA
            simp only [law12_Make.j3] at H
            obtain ⟨ji19, hji19⟩ : ∃ j_ : Int, (wrap64 (x4_1 + 1)) = j_ := ⟨_, rfl⟩
            replace H : (if 0 ≤ (ji19) then (if (ji19) < (l0.length : Int) then ((r10_Create.f kj11 x3_1 (strOfNums (([(wrap64 (97 + (Int.tmod (wrap64 ((x3_1.length : Int) * 5)) 24))) % 256] : List Int))) x6_11 (wrap64 (20 + (wrap64 (rd l0 (ji19))))) (wrap64 (20 + (wrap64 (rd l0 (ji19))))) (wrap64 (20 + (wrap64 (rd l0 (ji19)))))).bind fun bt7 => (if bt7.2 = 0 then (if 0 ≤ (wrap64 (x4_1 + 2)) then (if (wrap64 (x4_1 + 2)) < (l0.length : Int) then (if (bt7.1.length : Int) = 0 then (none) else (if 0 ≤ (Int.tmod (wrap64 (Int.tdiv (wrap64 (rd l0 (wrap64 (x4_1 + 2)))) 16)) (bt7.1.length : Int)) then (if (Int.tmod (wrap64 (Int.tdiv (wrap64 (rd l0 (wrap64 (x4_1 + 2)))) 16)) (bt7.1.length : Int)) < (bt7.1.length : Int) then ((r10_Admit.f kj11 bt7.1 ((rd_T31 bt7.1 (Int.tmod (wrap64 (Int.tdiv (wrap64 (rd l0 (wrap64 (x4_1 + 2)))) 16)) (bt7.1.length : Int))).f0) (Int.tmod (wrap64 (rd l0 (wrap64 (x4_1 + 2)))) 16) (wrap64 (Int.tdiv (Int.tmod (wrap64 (rd l0 (wrap64 (x4_1 + 2)))) 16) 2)) (Int.tmod (Int.tmod (wrap64 (rd l0 (wrap64 (x4_1 + 2)))) 16) 3)).bind fun bt15 => (if bt15.2 = 0 then (law12_Make.l0 kj11 l0 bt15.1 (wrap64 (x4_1 + 3))) else (law12_Make.l0 kj11 l0 bt7.1 (wrap64 (x4_1 + 3))))) else (none)) else (none))) else (none)) else (none)) else (law12_Make.l0 kj11 l0 x3_1 (wrap64 (x4_1 + 3))))) else (none)) else (none)) = some r := by first | (rw [hji19] at H; exact H) | (simp only [hji19] at H ⊢; exact H)
            have hji19w : (IntKind.i64.wrap (x4_1 + 1)) = ji19 := (i64_w _).trans hji19
            by_cases c20 : 0 ≤ (ji19)
            ·rw [if_pos c20] at H
             have c20b0 : decide (0 ≤ (ji19)) = true := decide_eq_true c20
             clear c20
             by_cases c21 : (ji19) < (l0.length : Int)
             ·rw [if_pos c21] at H
              have c21b0 : decide ((ji19) < (l0.length : Int)) = true := decide_eq_true c21
              clear c21
              obtain ⟨y4, hy4⟩ : ∃ y_ : List Int, y_ = (([(wrap64 (97 + (Int.tmod (wrap64 ((x3_1.length : Int) * 5)) 24))) % 256] : List Int)) := ⟨_, rfl⟩
              replace H : ((r10_Create.f kj11 x3_1 (strOfNums y4) x6_11 (wrap64 (20 + (wrap64 (rd l0 (ji19))))) (wrap64 (20 + (wrap64 (rd l0 (ji19))))) (wrap64 (20 + (wrap64 (rd l0 (ji19)))))).bind fun bt7 => (if bt7.2 = 0 then (if 0 ≤ (wrap64 (x4_1 + 2)) then (if (wrap64 (x4_1 + 2)) < (l0.length : Int) then (if (bt7.1.length : Int) = 0 then (none) else (if 0 ≤ (Int.tmod (wrap64 (Int.tdiv (wrap64 (rd l0 (wrap64 (x4_1 + 2)))) 16)) (bt7.1.length : Int)) then (if (Int.tmod (wrap64 (Int.tdiv (wrap64 (rd l0 (wrap64 (x4_1 + 2)))) 16)) (bt7.1.length : Int)) < (bt7.1.length : Int) then ((r10_Admit.f kj11 bt7.1 ((rd_T31 bt7.1 (Int.tmod (wrap64 (Int.tdiv (wrap64 (rd l0 (wrap64 (x4_1 + 2)))) 16)) (bt7.1.length : Int))).f0) (Int.tmod (wrap64 (rd l0 (wrap64 (x4_1 + 2)))) 16) (wrap64 (Int.tdiv (Int.tmod (wrap64 (rd l0 (wrap64 (x4_1 + 2)))) 16) 2)) (Int.tmod (Int.tmod (wrap64 (rd l0 (wrap64 (x4_1 + 2)))) 16) 3)).bind fun bt15 => (if bt15.2 = 0 then (law12_Make.l0 kj11 l0 bt15.1 (wrap64 (x4_1 + 3))) else (law12_Make.l0 kj11 l0 bt7.1 (wrap64 (x4_1 + 3))))) else (none)) else (none))) else (none)) else (none)) else (law12_Make.l0 kj11 l0 x3_1 (wrap64 (x4_1 + 3))))) = some r := by first|(rw [hy4];with_reducible exact H)|(have H2_ := (Option.bind_some _ _).symm.trans H;rw [hy4];with_reducible exact H2_)|(have H2_ := (Option.bind_some _ _).symm.trans H;with_reducible exact H2_)|with_reducible exact H|(rw [hy4];exact H)|exact H
              have Ny4 := Aside0.mk hy4
              clear hy4
              replace H := Option.bind_eq_some_iff.mp H
              obtain ⟨⟨t7, t10⟩, A220, H⟩ := H
              replace H : (if t10 = 0 then (if 0 ≤ (wrap64 (x4_1 + 2)) then (if (wrap64 (x4_1 + 2)) < (l0.length : Int) then (if (t7.length : Int) = 0 then (none) else (if 0 ≤ (Int.tmod (wrap64 (Int.tdiv (wrap64 (rd l0 (wrap64 (x4_1 + 2)))) 16)) (t7.length : Int)) then (if (Int.tmod (wrap64 (Int.tdiv (wrap64 (rd l0 (wrap64 (x4_1 + 2)))) 16)) (t7.length : Int)) < (t7.length : Int) then ((r10_Admit.f kj11 t7 ((rd_T31 t7 (Int.tmod (wrap64 (Int.tdiv (wrap64 (rd l0 (wrap64 (x4_1 + 2)))) 16)) (t7.length : Int))).f0) (Int.tmod (wrap64 (rd l0 (wrap64 (x4_1 + 2)))) 16) (wrap64 (Int.tdiv (Int.tmod (wrap64 (rd l0 (wrap64 (x4_1 + 2)))) 16) 2)) (Int.tmod (Int.tmod (wrap64 (rd l0 (wrap64 (x4_1 + 2)))) 16) 3)).bind fun bt15 => (if bt15.2 = 0 then (law12_Make.l0 kj11 l0 bt15.1 (wrap64 (x4_1 + 3))) else (law12_Make.l0 kj11 l0 t7 (wrap64 (x4_1 + 3))))) else (none)) else (none))) else (none)) else (none)) else (law12_Make.l0 kj11 l0 x3_1 (wrap64 (x4_1 + 3)))) = some r := H
              have A22 := Aside0.mk A220
              clear A220
              by_cases c23 : t10 = 0
              ·rw [if_pos c23] at H
               have c23b0 : (t10 == 0) = true := beq_iff_eq.mpr c23
               have c23b1 : (t10 != 0) = false := bne_eq_false_iff_eq.mpr c23
               clear c23
               obtain ⟨ji24, hji24⟩ : ∃ j_ : Int, (wrap64 (x4_1 + 2)) = j_ := ⟨_, rfl⟩
               replace H : (if 0 ≤ (ji24) then (if (ji24) < (l0.length : Int) then (if (t7.length : Int) = 0 then (none) else (if 0 ≤ (Int.tmod (wrap64 (Int.tdiv (wrap64 (rd l0 (ji24))) 16)) (t7.length : Int)) then (if (Int.tmod (wrap64 (Int.tdiv (wrap64 (rd l0 (ji24))) 16)) (t7.length : Int)) < (t7.length : Int) then ((r10_Admit.f kj11 t7 ((rd_T31 t7 (Int.tmod (wrap64 (Int.tdiv (wrap64 (rd l0 (ji24))) 16)) (t7.length : Int))).f0) (Int.tmod (wrap64 (rd l0 (ji24))) 16) (wrap64 (Int.tdiv (Int.tmod (wrap64 (rd l0 (ji24))) 16) 2)) (Int.tmod (Int.tmod (wrap64 (rd l0 (ji24))) 16) 3)).bind fun bt15 => (if bt15.2 = 0 then (law12_Make.l0 kj11 l0 bt15.1 (wrap64 (x4_1 + 3))) else (law12_Make.l0 kj11 l0 t7 (wrap64 (x4_1 + 3))))) else (none)) else (none))) else (none)) else (none)) = some r := by first | (rw [hji24] at H; exact H) | (simp only [hji24] at H ⊢; exact H)
               (try rw [hji24] at A22)
               have hji24w : (IntKind.i64.wrap (x4_1 + 2)) = ji24 := (i64_w _).trans hji24
               by_cases c25 : 0 ≤ (ji24)
               ·rw [if_pos c25] at H
                have c25b0 : decide (0 ≤ (ji24)) = true := decide_eq_true c25
                clear c25
                by_cases c26 : (ji24) < (l0.length : Int)
                ·rw [if_pos c26] at H
                 have c26b0 : decide ((ji24) < (l0.length : Int)) = true := decide_eq_true c26
                 clear c26
                 by_cases c27 : (t7.length : Int) = 0
                 ·rw [if_pos c27] at H
                  exact absurd H (by simp)
                 ·rw [if_neg c27] at H
                  have c27b0 : ((t7.length : Int) == 0) = false := beq_eq_false_iff_ne.mpr c27
                  have c27b1 : ((t7.length : Int) != 0) = true := bne_iff_ne.mpr c27
                  have c27b2 : ¬ (t7 = []) := fun h_ => c27 (by rw [h_]; rfl)
                  obtain ⟨ji28, hji28⟩ : ∃ j_ : Int, (Int.tmod (wrap64 (Int.tdiv (wrap64 (rd l0 (ji24))) 16)) (t7.length : Int)) = j_ := ⟨_, rfl⟩
                  replace H : (if 0 ≤ (ji28) then (if (ji28) < (t7.length : Int) then ((r10_Admit.f kj11 t7 ((rd_T31 t7 (ji28)).f0) (Int.tmod (wrap64 (rd l0 (ji24))) 16) (wrap64 (Int.tdiv (Int.tmod (wrap64 (rd l0 (ji24))) 16) 2)) (Int.tmod (Int.tmod (wrap64 (rd l0 (ji24))) 16) 3)).bind fun bt15 => (if bt15.2 = 0 then (law12_Make.l0 kj11 l0 bt15.1 (wrap64 (x4_1 + 3))) else (law12_Make.l0 kj11 l0 t7 (wrap64 (x4_1 + 3))))) else (none)) else (none)) = some r := by first | (rw [hji28] at H; exact H) | (simp only [hji28] at H ⊢; exact H)
                  (try rw [hji28] at A22)
                  by_cases c29 : 0 ≤ (ji28)
                  ·rw [if_pos c29] at H
                   have c29b0 : decide (0 ≤ (ji28)) = true := decide_eq_true c29
                   clear c29
                   by_cases c30 : (ji28) < (t7.length : Int)
                   ·rw [if_pos c30] at H
                    have c30b0 : decide ((ji28) < (t7.length : Int)) = true := decide_eq_true c30
                    clear c30
                    replace H := Option.bind_eq_some_iff.mp H
                    obtain ⟨⟨t15, t18⟩, A310, H⟩ := H
                    replace H : (if t18 = 0 then (law12_Make.l0 kj11 l0 t15 (wrap64 (x4_1 + 3))) else (law12_Make.l0 kj11 l0 t7 (wrap64 (x4_1 + 3)))) = some r := H
                    have A31 := Aside0.mk A310
                    clear A310
                    by_cases c32 : t18 = 0
                    ·rw [if_pos c32] at H
                     have c32b0 : (t18 == 0) = true := beq_iff_eq.mpr c32
                     have c32b1 : (t18 != 0) = false := bne_eq_false_iff_eq.mpr c32
                     clear c32
                     have H' := Aside0.mk H
                     clear H
                     have p3 : 0 ≤ ((ji19) : Int) := of_decide_eq_true (by first|(with_reducible assumption)|assumption)
                     have q3 : (ji19) < (l0.length : Int) := of_decide_eq_true (by first|(with_reducible assumption)|assumption)
                     obtain ⟨ad3, e3, hx3_0⟩ := Kd.at_int HR0.out (ji19) p3 q3
                     obtain rfl : ad1 = ad3 := (by injection e3)
                     replace hx3_0 := (HB.out.cell (World.block_lt_of_cell? w _ hx3_0)).trans hx3_0
                     replace p3 := eq_true p3
                     replace q3 := eq_true q3
                     obtain ⟨Ao33, co33, eo33⟩ := Kd.R_slice HO_3.out
                     subst eo33
                     go_wp2_with (first|((with_reducible refine gate_dst (N := 60) rfl ?_);(try (refine gate_guard (by rfl) ?_;dsimp only));refine Kd.R_lit (Kd.int .u8) _ 5 ?hg (N := 60) ?hd (xs := ([(wrap64 (97 + (Int.tmod (wrap64 ((x3_1.length : Int) * 5)) 24))) % 256] : List Int)) (inner := [.int .u8 ((wrap64 (97 + (Int.tmod (wrap64 ((x3_1.length : Int) * 5)) 24))) % 256)]) (ok := fun _ => True) (okp := fun _ => True) ?hr ?hp (fun _ hk => hk) trivial (Below.refl _ _) (Nat.le_refl _) (by simp) ?_;(case hd => rfl);(case hg => rfl);(case hr => first|(go_simp;done)|(go_simp;rfl));(case hp => exact (Reps.one (show Kd.M (Kd.int .u8) _ _ _ ((wrap64 (97 + (Int.tmod (wrap64 ((x3_1.length : Int) * 5)) 24))) % 256) [.int .u8 ((wrap64 (97 + (Int.tmod (wrap64 ((x3_1.length : Int) * 5)) 24))) % 256)] from rfl) (Reps.none _ _)));intro v5 w34 ho35 hb hg_ hnew_;clear hg_ hnew_;(first|rw [← Ny4.out] at ho35|(simp only [Int.reduceToNat] at ho35;rw [← Ny4.out] at ho35));have n0_ := Aside0.mk (Kd.R_below (by (with_reducible repeat (first|apply Kd.R_alloc|apply Kd.R_drewN|apply Kd.R_drew));exact HO_3.out) hb);have n1_ := Aside0.mk (Kd.R_lower ho35 (below_size (by repeat (first|(with_reducible first|exact HB.out|apply below_alloc|apply pw_below_drewN|apply below_drew1)|exact HB.out))));have n2_ := Aside0.mk (below_step (by repeat (first|(with_reducible first|exact HB.out|apply below_alloc|apply pw_below_drewN|apply below_drew1)|exact HB.out)) hb);clear HO_3;clear HB;have HO_3 := n0_;have HO6 := n1_;have HB := n2_;clear n0_ n1_ n2_;clear hb ho35;have hcv36 := own_string (P := Try.prog) Try.underlying22 Try.underlying5 Try.underlying9 (Kd.own_of_R HO6.out))|((with_reducible refine gate_callee (f := 83) rfl ?_);refine goesL_ (some 67) rfl rfl Try.func83 (by kernel_rfl) rfl #[.slice Ao33 x3_1.length co33, .string (strOfNums y4), .string x6_11, .agg #[.int .i64 (wrap64 (20 + (wrap64 (rd l0 (ji19))))), .int .i64 (wrap64 (20 + (wrap64 (rd l0 (ji19))))), .int .i64 (wrap64 (20 + (wrap64 (rd l0 (ji19)))))]] rfl (by (try simp only [List.map_toArray, List.map_cons, List.map_nil]);first|done|(simp only [hji19];rfl)|rfl|(simp only [List.length_drop, List.length_take];rfl)) ?_;(with_reducible refine (r10_Create.calls kj11 _ _ x3_1 (strOfNums y4) x6_11 (wrap64 (20 + (wrap64 (rd l0 (ji19))))) (wrap64 (20 + (wrap64 (rd l0 (ji19))))) (wrap64 (20 + (wrap64 (rd l0 (ji19))))) t7 t10 _ ?side1 ?side2 A22.out).mono ?_);(case side1 => repeat (first|exact (Kd.R_reads' HO_3.out).2.2|(with_reducible refine Kd.C_alloc ?_ _)|(with_reducible refine Kd.C_drewN ?_ _)|(with_reducible refine Kd.C_drew ?_)));(case side2 => exact (Kd.R_reads' HO_3.out).2.1);rintro e w37 ⟨v8, rfl, ho0, hb⟩;refine ⟨_, rfl, ?_⟩;have n0_ := Aside0.mk (Kd.R_elder' (by (with_reducible repeat (first|apply Kd.R_alloc|apply Kd.R_drewN|apply Kd.R_drew));exact HO_3.out) (Kd.R_base ho0) hb);have n1_ := Aside0.mk (Kd.R_below (by (with_reducible repeat (first|apply Kd.R_alloc|apply Kd.R_drewN|apply Kd.R_drew));exact HO6.out) hb);have n2_ := Aside0.mk (Kd.R_lower (Kd.R_new' ho0 (Kd.R_lt (by (with_reducible repeat (first|apply Kd.R_alloc|apply Kd.R_drewN|apply Kd.R_drew));exact HO_3.out))) (below_size (by repeat (first|(with_reducible first|exact HB.out|apply below_alloc|apply pw_below_drewN|apply below_drew1)|exact HB.out))));have n3_ := Aside0.mk (below_step (by repeat (first|(with_reducible first|exact HB.out|apply below_alloc|apply pw_below_drewN|apply below_drew1)|exact HB.out)) hb);clear HO_3;clear HO6;clear HB;have HO_3 := n0_;have HO6 := n1_;have HO9 := n2_;have HB := n3_;clear n0_ n1_ n2_ n3_;(try clear hb);(try clear hb2);(try clear hk);(try clear hi);(try clear ho0))|((with_reducible refine gate_dst (N := 8) rfl ?_);(try (refine gate_guard (by rfl) ?_;dsimp only));refine box_event ?hg (N := 8) ?hd (cs := #[.slice none 0 0, .int .i64 0]) (t := 67) ?hr ?_;(case hd => rfl);(case hg => rfl);(case hr => first|(go_simp;done)|(go_simp;rfl));intro gb11 hg w38 hbox hb;have n0_ := Aside0.mk (Kd.R_below (by (with_reducible repeat (first|apply Kd.R_alloc|apply Kd.R_drewN|apply Kd.R_drew));exact HO_3.out) hb);have n1_ := Aside0.mk (Kd.R_below (by (with_reducible repeat (first|apply Kd.R_alloc|apply Kd.R_drewN|apply Kd.R_drew));exact HO6.out) hb);have n2_ := Aside0.mk (Kd.R_below (by (with_reducible repeat (first|apply Kd.R_alloc|apply Kd.R_drewN|apply Kd.R_drew));exact HO9.out) hb);have n3_ := Aside0.mk (below_step (by repeat (first|(with_reducible first|exact HB.out|apply below_alloc|apply pw_below_drewN|apply below_drew1)|exact HB.out)) hb);have n4_ := Aside0.mk (hbox);have n5_ := Aside0.mk ((by rw [hg];exact (below_size (by repeat (first|(with_reducible first|exact HB.out|apply below_alloc|apply pw_below_drewN|apply below_drew1)|exact HB.out))) : w.heap.size ≤ gb11));have n6_ := Aside0.mk ((by rw [hg];exact (below_size (by repeat (first|(with_reducible first|exact HB.out|apply below_alloc|apply pw_below_drewN|apply below_drew1)|exact HB.out))) : w.heap.size ≤ gb11));clear HO_3;clear HO6;clear HO9;clear HB;have HO_3 := n0_;have HO6 := n1_;have HO9 := n2_;have HB := n3_;have BK11 := n4_;have GW11 := n5_;have GE11 := n6_;clear n0_ n1_ n2_ n3_ n4_ n5_ n6_;clear hb hbox hg;obtain ⟨Ao39, co39, eo39⟩ := Kd.R_slice HO9.out;subst eo39;have hcz40_0 : w38.cell? ⟨gb11, 0, none⟩ = some (.slice none 0 0) := (blk_cell BK11.out 0).trans rfl;have hcz40_1 : w38.cell? ⟨gb11, 1, none⟩ = some (.int .i64 0) := (blk_cell BK11.out 1).trans rfl;have hfz40_0 := blk_frozen BK11.out 0;have hfz40_1 := blk_frozen BK11.out 1;have p12 : 0 ≤ ((ji24) : Int) := of_decide_eq_true (by first|(with_reducible assumption)|assumption);have q12 : (ji24) < (l0.length : Int) := of_decide_eq_true (by first|(with_reducible assumption)|assumption);obtain ⟨ad12, e12, hx12_0⟩ := Kd.at_int HR0.out (ji24) p12 q12;obtain rfl : ad1 = ad12 := (by injection e12);have hn12_0 : ad1.block ≠ gb11 := Nat.ne_of_lt (Nat.lt_of_lt_of_le (by have := World.block_lt_of_cell? _ _ hx12_0;first|rwa [add_block] at this|exact this) GW11.out);have hn12_1 : ad1.block ≠ gb11 := Nat.ne_of_lt (Nat.lt_of_lt_of_le (by have := World.block_lt_of_cell? _ _ hx12_0;first|rwa [add_block] at this|exact this) GW11.out);replace hx12_0 := (HB.out.cell (World.block_lt_of_cell? w _ hx12_0)).trans hx12_0;replace hx12_0 := (cell_far (p := ⟨gb11, 0, none⟩) (by first|(rw [add_block];exact hn12_0)|(show (Addr.add _ _).block ≠ _;rw [add_block];exact hn12_0)|exact hn12_0) (.slice Ao39 t7.length co39)).trans hx12_0;replace hx12_0 := (cell_far (p := ⟨gb11, 1, none⟩) (by first|(rw [add_block];exact hn12_1)|(show (Addr.add _ _).block ≠ _;rw [add_block];exact hn12_1)|exact hn12_1) (.int .i64 t10)).trans hx12_0;clear hn12_0;clear hn12_1;replace p12 := eq_true p12;replace q12 := eq_true q12;have p13 : 0 ≤ ((ji24) : Int) := of_decide_eq_true (by first|(with_reducible assumption)|assumption);have q13 : (ji24) < (l0.length : Int) := of_decide_eq_true (by first|(with_reducible assumption)|assumption);obtain ⟨ad13, e13, hx13_0⟩ := Kd.at_int HR0.out (ji24) p13 q13;obtain rfl : ad1 = ad13 := (by injection e13);have hn13_0 : ad1.block ≠ gb11 := Nat.ne_of_lt (Nat.lt_of_lt_of_le (by have := World.block_lt_of_cell? _ _ hx13_0;first|rwa [add_block] at this|exact this) GW11.out);have hn13_1 : ad1.block ≠ gb11 := Nat.ne_of_lt (Nat.lt_of_lt_of_le (by have := World.block_lt_of_cell? _ _ hx13_0;first|rwa [add_block] at this|exact this) GW11.out);replace hx13_0 := (HB.out.cell (World.block_lt_of_cell? w _ hx13_0)).trans hx13_0;replace hx13_0 := (cell_far (p := ⟨gb11, 0, none⟩) (by first|(rw [add_block];exact hn13_0)|(show (Addr.add _ _).block ≠ _;rw [add_block];exact hn13_0)|exact hn13_0) (.slice Ao39 t7.length co39)).trans hx13_0;replace hx13_0 := (cell_far (p := ⟨gb11, 1, none⟩) (by first|(rw [add_block];exact hn13_1)|(show (Addr.add _ _).block ≠ _;rw [add_block];exact hn13_1)|exact hn13_1) (.int .i64 t10)).trans hx13_0;clear hn13_0;clear hn13_1;replace p13 := eq_true p13;replace q13 := eq_true q13;have p14 : 0 ≤ ((ji28) : Int) := of_decide_eq_true (by first|(with_reducible assumption)|assumption);have q14 : (ji28) < (t7.length : Int) := of_decide_eq_true (by first|(with_reducible assumption)|assumption);obtain ⟨ad14, e14, hx14_0, hx14_1, hx14_2, hx14_3, hx14_4, hx14_5, hx14_6, hx14_7, hx14_8, hx14_9, hx14_10, hx14_11⟩ := at_T31 (Kd.R_reads' HO9.out).2.2 (ji28) p14 q14;cases e14;have hn14_0 : ad14.block ≠ gb11 := Kd.own_blk (Kd.R_ne HO9.out BK11.out (by decide));have hn14_1 : ad14.block ≠ gb11 := Kd.own_blk (Kd.R_ne HO9.out BK11.out (by decide));replace hx14_0 := (cell_far (p := ⟨gb11, 0, none⟩) (by first|(rw [add_block];exact hn14_0)|(show (Addr.add _ _).block ≠ _;rw [add_block];exact hn14_0)|exact hn14_0) (.slice (some ad14) t7.length co39)).trans hx14_0;replace hx14_1 := (cell_far (p := ⟨gb11, 0, none⟩) (by first|(rw [add_block];exact hn14_0)|(show (Addr.add _ _).block ≠ _;rw [add_block];exact hn14_0)|exact hn14_0) (.slice (some ad14) t7.length co39)).trans hx14_1;replace hx14_2 := (cell_far (p := ⟨gb11, 0, none⟩) (by first|(rw [add_block];exact hn14_0)|(show (Addr.add _ _).block ≠ _;rw [add_block];exact hn14_0)|exact hn14_0) (.slice (some ad14) t7.length co39)).trans hx14_2;replace hx14_3 := (cell_far (p := ⟨gb11, 0, none⟩) (by first|(rw [add_block];exact hn14_0)|(show (Addr.add _ _).block ≠ _;rw [add_block];exact hn14_0)|exact hn14_0) (.slice (some ad14) t7.length co39)).trans hx14_3;replace hx14_4 := (cell_far (p := ⟨gb11, 0, none⟩) (by first|(rw [add_block];exact hn14_0)|(show (Addr.add _ _).block ≠ _;rw [add_block];exact hn14_0)|exact hn14_0) (.slice (some ad14) t7.length co39)).trans hx14_4;replace hx14_5 := (cell_far (p := ⟨gb11, 0, none⟩) (by first|(rw [add_block];exact hn14_0)|(show (Addr.add _ _).block ≠ _;rw [add_block];exact hn14_0)|exact hn14_0) (.slice (some ad14) t7.length co39)).trans hx14_5;replace hx14_6 := (cell_far (p := ⟨gb11, 0, none⟩) (by first|(rw [add_block];exact hn14_0)|(show (Addr.add _ _).block ≠ _;rw [add_block];exact hn14_0)|exact hn14_0) (.slice (some ad14) t7.length co39)).trans hx14_6;replace hx14_7 := (cell_far (p := ⟨gb11, 0, none⟩) (by first|(rw [add_block];exact hn14_0)|(show (Addr.add _ _).block ≠ _;rw [add_block];exact hn14_0)|exact hn14_0) (.slice (some ad14) t7.length co39)).trans hx14_7;replace hx14_8 := (cell_far (p := ⟨gb11, 0, none⟩) (by first|(rw [add_block];exact hn14_0)|(show (Addr.add _ _).block ≠ _;rw [add_block];exact hn14_0)|exact hn14_0) (.slice (some ad14) t7.length co39)).trans hx14_8;replace hx14_9 := (cell_far (p := ⟨gb11, 0, none⟩) (by first|(rw [add_block];exact hn14_0)|(show (Addr.add _ _).block ≠ _;rw [add_block];exact hn14_0)|exact hn14_0) (.slice (some ad14) t7.length co39)).trans hx14_9;replace hx14_10 := (cell_far (p := ⟨gb11, 0, none⟩) (by first|(rw [add_block];exact hn14_0)|(show (Addr.add _ _).block ≠ _;rw [add_block];exact hn14_0)|exact hn14_0) (.slice (some ad14) t7.length co39)).trans hx14_10;replace hx14_11 := (cell_far (p := ⟨gb11, 0, none⟩) (by first|(rw [add_block];exact hn14_0)|(show (Addr.add _ _).block ≠ _;rw [add_block];exact hn14_0)|exact hn14_0) (.slice (some ad14) t7.length co39)).trans hx14_11;replace hx14_0 := (cell_far (p := ⟨gb11, 1, none⟩) (by first|(rw [add_block];exact hn14_1)|(show (Addr.add _ _).block ≠ _;rw [add_block];exact hn14_1)|exact hn14_1) (.int .i64 t10)).trans hx14_0;replace hx14_1 := (cell_far (p := ⟨gb11, 1, none⟩) (by first|(rw [add_block];exact hn14_1)|(show (Addr.add _ _).block ≠ _;rw [add_block];exact hn14_1)|exact hn14_1) (.int .i64 t10)).trans hx14_1;replace hx14_2 := (cell_far (p := ⟨gb11, 1, none⟩) (by first|(rw [add_block];exact hn14_1)|(show (Addr.add _ _).block ≠ _;rw [add_block];exact hn14_1)|exact hn14_1) (.int .i64 t10)).trans hx14_2;replace hx14_3 := (cell_far (p := ⟨gb11, 1, none⟩) (by first|(rw [add_block];exact hn14_1)|(show (Addr.add _ _).block ≠ _;rw [add_block];exact hn14_1)|exact hn14_1) (.int .i64 t10)).trans hx14_3;replace hx14_4 := (cell_far (p := ⟨gb11, 1, none⟩) (by first|(rw [add_block];exact hn14_1)|(show (Addr.add _ _).block ≠ _;rw [add_block];exact hn14_1)|exact hn14_1) (.int .i64 t10)).trans hx14_4;replace hx14_5 := (cell_far (p := ⟨gb11, 1, none⟩) (by first|(rw [add_block];exact hn14_1)|(show (Addr.add _ _).block ≠ _;rw [add_block];exact hn14_1)|exact hn14_1) (.int .i64 t10)).trans hx14_5;replace hx14_6 := (cell_far (p := ⟨gb11, 1, none⟩) (by first|(rw [add_block];exact hn14_1)|(show (Addr.add _ _).block ≠ _;rw [add_block];exact hn14_1)|exact hn14_1) (.int .i64 t10)).trans hx14_6;replace hx14_7 := (cell_far (p := ⟨gb11, 1, none⟩) (by first|(rw [add_block];exact hn14_1)|(show (Addr.add _ _).block ≠ _;rw [add_block];exact hn14_1)|exact hn14_1) (.int .i64 t10)).trans hx14_7;replace hx14_8 := (cell_far (p := ⟨gb11, 1, none⟩) (by first|(rw [add_block];exact hn14_1)|(show (Addr.add _ _).block ≠ _;rw [add_block];exact hn14_1)|exact hn14_1) (.int .i64 t10)).trans hx14_8;replace hx14_9 := (cell_far (p := ⟨gb11, 1, none⟩) (by first|(rw [add_block];exact hn14_1)|(show (Addr.add _ _).block ≠ _;rw [add_block];exact hn14_1)|exact hn14_1) (.int .i64 t10)).trans hx14_9;replace hx14_10 := (cell_far (p := ⟨gb11, 1, none⟩) (by first|(rw [add_block];exact hn14_1)|(show (Addr.add _ _).block ≠ _;rw [add_block];exact hn14_1)|exact hn14_1) (.int .i64 t10)).trans hx14_10;replace hx14_11 := (cell_far (p := ⟨gb11, 1, none⟩) (by first|(rw [add_block];exact hn14_1)|(show (Addr.add _ _).block ≠ _;rw [add_block];exact hn14_1)|exact hn14_1) (.int .i64 t10)).trans hx14_11;clear hn14_0;clear hn14_1;replace p14 := eq_true p14;replace q14 := eq_true q14)|((with_reducible refine gate_callee (f := 66) rfl ?_);refine goesL_ (some 102) rfl rfl Try.func66 (by kernel_rfl) rfl #[.slice (some ad14) t7.length co39, .string ((rd_T31 t7 (ji28)).f0), .agg #[.int .i64 (Int.tmod (wrap64 (rd l0 (ji24))) 16), .int .i64 (wrap64 (Int.tdiv (Int.tmod (wrap64 (rd l0 (ji24))) 16) 2)), .int .i64 (Int.tmod (Int.tmod (wrap64 (rd l0 (ji24))) 16) 3)]] rfl (by (try simp only [List.map_toArray, List.map_cons, List.map_nil]);first|done|(simp only [hji24, hji28];rfl)|rfl|(simp only [List.length_drop, List.length_take];rfl)) ?_;(with_reducible refine (r10_Admit.calls kj11 _ _ t7 ((rd_T31 t7 (ji28)).f0) (Int.tmod (wrap64 (rd l0 (ji24))) 16) (wrap64 (Int.tdiv (Int.tmod (wrap64 (rd l0 (ji24))) 16) 2)) (Int.tmod (Int.tmod (wrap64 (rd l0 (ji24))) 16) 3) t15 t18 _ ?side1 ?side2 A31.out).mono ?_);(case side1 => refine (Kd.R_reads' (e := 31) (base := w.heap.size) (ok := fun k_ => (True ∧ some k_ ≠ (.slice Ao33 x3_1.length co33 : Value).ownBlock)) (n := t7.length) (c := co39) ?_).2.2;exact (by (with_reducible repeat (first|apply Kd.R_alloc|apply Kd.R_drewN|apply Kd.R_drew));exact (Kd.R_mono (Kd.R_far (p := ⟨gb11, 1, none⟩) (Kd.R_far (p := ⟨gb11, 0, none⟩) (Kd.R_types HO9.out BK11.out (by decide)) (fun _ hk => hk.2) (.slice (some ad14) t7.length co39)) (fun _ hk => hk.2) (.int .i64 t10)) (fun _ h_ => h_.1))));(case side2 => exact (Kd.R_reads' HO9.out).2.1);rintro e w41 ⟨v16, rfl, ho0, hb⟩;refine ⟨_, rfl, ?_⟩;have n0_ := Aside0.mk (Kd.R_elder' (by (with_reducible repeat (first|apply Kd.R_alloc|apply Kd.R_drewN|apply Kd.R_drew));exact (Kd.R_mono (Kd.R_far (p := ⟨gb11, 1, none⟩) (Kd.R_far (p := ⟨gb11, 0, none⟩) (Kd.R_types HO_3.out BK11.out (by decide)) (fun _ hk => hk.2) (.slice (some ad14) t7.length co39)) (fun _ hk => hk.2) (.int .i64 t10)) (fun _ h_ => h_.1))) (Kd.R_base ho0) hb);have n1_ := Aside0.mk (Kd.R_below (by (with_reducible repeat (first|apply Kd.R_alloc|apply Kd.R_drewN|apply Kd.R_drew));exact (Kd.R_mono (Kd.R_far (p := ⟨gb11, 1, none⟩) (Kd.R_far (p := ⟨gb11, 0, none⟩) (Kd.R_types HO6.out BK11.out (by decide)) (fun _ hk => hk.2) (.slice (some ad14) t7.length co39)) (fun _ hk => hk.2) (.int .i64 t10)) (fun _ h_ => h_.1))) hb);have n2_ := Aside0.mk (Kd.R_elder' (by (with_reducible repeat (first|apply Kd.R_alloc|apply Kd.R_drewN|apply Kd.R_drew));exact (Kd.R_mono (Kd.R_far (p := ⟨gb11, 1, none⟩) (Kd.R_far (p := ⟨gb11, 0, none⟩) (Kd.R_types HO9.out BK11.out (by decide)) (fun _ hk => hk.2) (.slice (some ad14) t7.length co39)) (fun _ hk => hk.2) (.int .i64 t10)) (fun _ h_ => h_.1))) (Kd.R_base ho0) hb);have n3_ := Aside0.mk (Kd.R_lower (Kd.R_new' (Kd.R_new' ho0 (Kd.R_lt (by (with_reducible repeat (first|apply Kd.R_alloc|apply Kd.R_drewN|apply Kd.R_drew));exact (Kd.R_mono (Kd.R_far (p := ⟨gb11, 1, none⟩) (Kd.R_far (p := ⟨gb11, 0, none⟩) (Kd.R_types HO_3.out BK11.out (by decide)) (fun _ hk => hk.2) (.slice (some ad14) t7.length co39)) (fun _ hk => hk.2) (.int .i64 t10)) (fun _ h_ => h_.1))))) (Kd.R_lt (by (with_reducible repeat (first|apply Kd.R_alloc|apply Kd.R_drewN|apply Kd.R_drew));exact (Kd.R_mono (Kd.R_far (p := ⟨gb11, 1, none⟩) (Kd.R_far (p := ⟨gb11, 0, none⟩) (Kd.R_types HO9.out BK11.out (by decide)) (fun _ hk => hk.2) (.slice (some ad14) t7.length co39)) (fun _ hk => hk.2) (.int .i64 t10)) (fun _ h_ => h_.1))))) (below_size (by repeat (first|(with_reducible first|exact HB.out|apply below_alloc|apply pw_below_drewN|apply below_drew1|refine below_set ?_ GE11.out)|exact HB.out))));have n4_ := Aside0.mk (blk_below (g := gb11) (o := .cells #[.slice (some ad14) t7.length co39, .int .i64 t10] 67 (0, 0)) (by (with_reducible repeat (first|refine blk_drewN ?_ _|refine blk_drew ?_|refine blk_alloc ?_ _));refine blk_put (cs := #[.slice (some ad14) t7.length co39, .int .i64 0]) ?_ 1 _ rfl;(with_reducible repeat (first|refine blk_drewN ?_ _|refine blk_drew ?_|refine blk_alloc ?_ _));refine blk_put (cs := #[.slice none 0 0, .int .i64 0]) ?_ 0 _ rfl;(with_reducible repeat (first|refine blk_drewN ?_ _|refine blk_drew ?_|refine blk_alloc ?_ _));exact BK11.out) hb);have n5_ := Aside0.mk (below_step (by repeat (first|(with_reducible first|exact HB.out|apply below_alloc|apply pw_below_drewN|apply below_drew1|refine below_set ?_ GE11.out)|exact HB.out)) hb);clear HO_3;clear HO6;clear HO9;clear BK11;clear HB;have HO_3 := n0_;have HO6 := n1_;have HO9 := n2_;have HO17 := n3_;have BK11 := n4_;have HB := n5_;clear n0_ n1_ n2_ n3_ n4_ n5_;(try clear hb);(try clear hb2);(try clear hk);(try clear hi);(try clear ho0))|((with_reducible refine gate_dst (N := 11) rfl ?_);(try (refine gate_guard (by rfl) ?_;dsimp only));refine box_event ?hg (N := 11) ?hd (cs := #[.slice none 0 0, .int .i64 0]) (t := 67) ?hr ?_;(case hd => rfl);(case hg => rfl);(case hr => first|(go_simp;done)|(go_simp;rfl));intro gb19 hg w42 hbox hb;have n0_ := Aside0.mk (Kd.R_below (by (with_reducible repeat (first|apply Kd.R_alloc|apply Kd.R_drewN|apply Kd.R_drew));exact HO_3.out) hb);have n1_ := Aside0.mk (Kd.R_below (by (with_reducible repeat (first|apply Kd.R_alloc|apply Kd.R_drewN|apply Kd.R_drew));exact HO6.out) hb);have n2_ := Aside0.mk (Kd.R_below (by (with_reducible repeat (first|apply Kd.R_alloc|apply Kd.R_drewN|apply Kd.R_drew));exact HO9.out) hb);have n3_ := Aside0.mk (Kd.R_below (by (with_reducible repeat (first|apply Kd.R_alloc|apply Kd.R_drewN|apply Kd.R_drew));exact HO17.out) hb);have n4_ := Aside0.mk (blk_below (g := gb11) (o := .cells #[.slice (some ad14) t7.length co39, .int .i64 t10] 67 (0, 0)) (by (with_reducible repeat (first|refine blk_drewN ?_ _|refine blk_drew ?_|refine blk_alloc ?_ _));exact BK11.out) hb);have n5_ := Aside0.mk (below_step (by repeat (first|(with_reducible first|exact HB.out|apply below_alloc|apply pw_below_drewN|apply below_drew1|refine below_set ?_ GE11.out)|exact HB.out)) hb);have n6_ := Aside0.mk (hbox);have n7_ := Aside0.mk ((by rw [hg];exact (below_size (by repeat (first|(with_reducible first|exact HB.out|apply below_alloc|apply pw_below_drewN|apply below_drew1|refine below_set ?_ GE11.out)|exact HB.out))) : w.heap.size ≤ gb19));have n8_ := Aside0.mk ((by rw [hg];exact (below_size (by repeat (first|(with_reducible first|exact HB.out|apply below_alloc|apply pw_below_drewN|apply below_drew1|refine below_set ?_ GE11.out)|exact HB.out))) : w.heap.size ≤ gb19));have n9_ := Aside0.mk ((by rw [hg];exact Nat.ne_of_lt (blk_lt (g := gb11) (o := .cells #[.slice (some ad14) t7.length co39, .int .i64 t10] 67 (0, 0)) (by (with_reducible repeat (first|refine blk_drewN ?_ _|refine blk_drew ?_|refine blk_alloc ?_ _));exact BK11.out)) : gb11 ≠ gb19));have n10_ := Aside0.mk ((by rw [hg];exact Nat.ne_of_gt (blk_lt (g := gb11) (o := .cells #[.slice (some ad14) t7.length co39, .int .i64 t10] 67 (0, 0)) (by (with_reducible repeat (first|refine blk_drewN ?_ _|refine blk_drew ?_|refine blk_alloc ?_ _));exact BK11.out)) : gb19 ≠ gb11));clear HO_3;clear HO6;clear HO9;clear HO17;clear BK11;clear HB;have HO_3 := n0_;have HO6 := n1_;have HO9 := n2_;have HO17 := n3_;have BK11 := n4_;have HB := n5_;have BK19 := n6_;have GW19 := n7_;have GE19 := n8_;have NB11_19 := n9_;have NB19_11 := n10_;clear n0_ n1_ n2_ n3_ n4_ n5_ n6_ n7_ n8_ n9_ n10_;clear hb hbox hg;obtain ⟨Ao43, co43, eo43⟩ := Kd.R_slice HO17.out;subst eo43;have hnb44 := NB19_11.out;have hnc44 := NB11_19.out;have hcz45_0 : w42.cell? ⟨gb19, 0, none⟩ = some (.slice none 0 0) := (blk_cell BK19.out 0).trans rfl;have hcz45_1 : w42.cell? ⟨gb19, 1, none⟩ = some (.int .i64 0) := (blk_cell BK19.out 1).trans rfl;have hfz45_0 := blk_frozen BK19.out 0;have hfz45_1 := blk_frozen BK19.out 1))
                     go_roundg kj11
                     case measure => have := HK1.out; have := HJ1.out; have := HJ7.out; have := HJ11.out; omega
                     case rel => exact ⟨(t15), (wrap64 (x4_1 + 3)), (by first|rfl|(simp;done)|(simp [*];done)), H', ⟨by have := HK1.out;have := HJ1.out;have := HJ7.out;have := HJ11.out;omega⟩, ⟨by (with_reducible repeat (first|apply Kd.R_alloc|apply Kd.R_drewN|apply Kd.R_drew));exact Kd.R_mono (Kd.R_far (p := ⟨gb19, 1, none⟩) (Kd.R_far (p := ⟨gb19, 0, none⟩) (Kd.R_types HO17.out BK19.out (by decide)) (fun _ hk => hk.2) (.slice Ao43 t15.length co43)) (fun _ hk => hk.2) (.int .i64 t18)) (fun _ hk => trivial)⟩, ⟨by repeat (first|(with_reducible first|exact HB.out|apply below_alloc|apply pw_below_drewN|apply below_drew1|refine below_set ?_ GE11.out|refine below_set ?_ GE19.out)|exact HB.out)⟩⟩
                    ·rw [if_neg c32] at H
                     have c32b0 : (t18 == 0) = false := beq_eq_false_iff_ne.mpr c32
                     have c32b1 : (t18 != 0) = true := bne_iff_ne.mpr c32
                     have H' := Aside0.mk H
                     clear H
                     have p3 : 0 ≤ ((ji19) : Int) := of_decide_eq_true (by first|(with_reducible assumption)|assumption)
                     have q3 : (ji19) < (l0.length : Int) := of_decide_eq_true (by first|(with_reducible assumption)|assumption)
                     obtain ⟨ad3, e3, hx3_0⟩ := Kd.at_int HR0.out (ji19) p3 q3
                     obtain rfl : ad1 = ad3 := (by injection e3)
                     replace hx3_0 := (HB.out.cell (World.block_lt_of_cell? w _ hx3_0)).trans hx3_0
                     replace p3 := eq_true p3
                     replace q3 := eq_true q3
                     obtain ⟨Ao46, co46, eo46⟩ := Kd.R_slice HO_3.out
                     subst eo46
                     go_wp2_with (first|((with_reducible refine gate_dst (N := 60) rfl ?_);(try (refine gate_guard (by rfl) ?_;dsimp only));refine Kd.R_lit (Kd.int .u8) _ 5 ?hg (N := 60) ?hd (xs := ([(wrap64 (97 + (Int.tmod (wrap64 ((x3_1.length : Int) * 5)) 24))) % 256] : List Int)) (inner := [.int .u8 ((wrap64 (97 + (Int.tmod (wrap64 ((x3_1.length : Int) * 5)) 24))) % 256)]) (ok := fun _ => True) (okp := fun _ => True) ?hr ?hp (fun _ hk => hk) trivial (Below.refl _ _) (Nat.le_refl _) (by simp) ?_;(case hd => rfl);(case hg => rfl);(case hr => first|(go_simp;done)|(go_simp;rfl));(case hp => exact (Reps.one (show Kd.M (Kd.int .u8) _ _ _ ((wrap64 (97 + (Int.tmod (wrap64 ((x3_1.length : Int) * 5)) 24))) % 256) [.int .u8 ((wrap64 (97 + (Int.tmod (wrap64 ((x3_1.length : Int) * 5)) 24))) % 256)] from rfl) (Reps.none _ _)));intro v5 w47 ho48 hb hg_ hnew_;clear hg_ hnew_;(first|rw [← Ny4.out] at ho48|(simp only [Int.reduceToNat] at ho48;rw [← Ny4.out] at ho48));have n0_ := Aside0.mk (Kd.R_below (by (with_reducible repeat (first|apply Kd.R_alloc|apply Kd.R_drewN|apply Kd.R_drew));exact HO_3.out) hb);have n1_ := Aside0.mk (Kd.R_lower ho48 (below_size (by repeat (first|(with_reducible first|exact HB.out|apply below_alloc|apply pw_below_drewN|apply below_drew1)|exact HB.out))));have n2_ := Aside0.mk (below_step (by repeat (first|(with_reducible first|exact HB.out|apply below_alloc|apply pw_below_drewN|apply below_drew1)|exact HB.out)) hb);clear HO_3;clear HB;have HO_3 := n0_;have HO6 := n1_;have HB := n2_;clear n0_ n1_ n2_;clear hb ho48;have hcv49 := own_string (P := Try.prog) Try.underlying22 Try.underlying5 Try.underlying9 (Kd.own_of_R HO6.out))|((with_reducible refine gate_callee (f := 83) rfl ?_);refine goesL_ (some 67) rfl rfl Try.func83 (by kernel_rfl) rfl #[.slice Ao46 x3_1.length co46, .string (strOfNums y4), .string x6_11, .agg #[.int .i64 (wrap64 (20 + (wrap64 (rd l0 (ji19))))), .int .i64 (wrap64 (20 + (wrap64 (rd l0 (ji19))))), .int .i64 (wrap64 (20 + (wrap64 (rd l0 (ji19)))))]] rfl (by (try simp only [List.map_toArray, List.map_cons, List.map_nil]);first|done|(simp only [hji19];rfl)|rfl|(simp only [List.length_drop, List.length_take];rfl)) ?_;(with_reducible refine (r10_Create.calls kj11 _ _ x3_1 (strOfNums y4) x6_11 (wrap64 (20 + (wrap64 (rd l0 (ji19))))) (wrap64 (20 + (wrap64 (rd l0 (ji19))))) (wrap64 (20 + (wrap64 (rd l0 (ji19))))) t7 t10 _ ?side1 ?side2 A22.out).mono ?_);(case side1 => repeat (first|exact (Kd.R_reads' HO_3.out).2.2|(with_reducible refine Kd.C_alloc ?_ _)|(with_reducible refine Kd.C_drewN ?_ _)|(with_reducible refine Kd.C_drew ?_)));(case side2 => exact (Kd.R_reads' HO_3.out).2.1);rintro e w50 ⟨v8, rfl, ho0, hb⟩;refine ⟨_, rfl, ?_⟩;have n0_ := Aside0.mk (Kd.R_elder' (by (with_reducible repeat (first|apply Kd.R_alloc|apply Kd.R_drewN|apply Kd.R_drew));exact HO_3.out) (Kd.R_base ho0) hb);have n1_ := Aside0.mk (Kd.R_below (by (with_reducible repeat (first|apply Kd.R_alloc|apply Kd.R_drewN|apply Kd.R_drew));exact HO6.out) hb);have n2_ := Aside0.mk (Kd.R_lower (Kd.R_new' ho0 (Kd.R_lt (by (with_reducible repeat (first|apply Kd.R_alloc|apply Kd.R_drewN|apply Kd.R_drew));exact HO_3.out))) (below_size (by repeat (first|(with_reducible first|exact HB.out|apply below_alloc|apply pw_below_drewN|apply below_drew1)|exact HB.out))));have n3_ := Aside0.mk (below_step (by repeat (first|(with_reducible first|exact HB.out|apply below_alloc|apply pw_below_drewN|apply below_drew1)|exact HB.out)) hb);clear HO_3;clear HO6;clear HB;have HO_3 := n0_;have HO6 := n1_;have HO9 := n2_;have HB := n3_;clear n0_ n1_ n2_ n3_;(try clear hb);(try clear hb2);(try clear hk);(try clear hi);(try clear ho0))|((with_reducible refine gate_dst (N := 8) rfl ?_);(try (refine gate_guard (by rfl) ?_;dsimp only));refine box_event ?hg (N := 8) ?hd (cs := #[.slice none 0 0, .int .i64 0]) (t := 67) ?hr ?_;(case hd => rfl);(case hg => rfl);(case hr => first|(go_simp;done)|(go_simp;rfl));intro gb11 hg w51 hbox hb;have n0_ := Aside0.mk (Kd.R_below (by (with_reducible repeat (first|apply Kd.R_alloc|apply Kd.R_drewN|apply Kd.R_drew));exact HO_3.out) hb);have n1_ := Aside0.mk (Kd.R_below (by (with_reducible repeat (first|apply Kd.R_alloc|apply Kd.R_drewN|apply Kd.R_drew));exact HO6.out) hb);have n2_ := Aside0.mk (Kd.R_below (by (with_reducible repeat (first|apply Kd.R_alloc|apply Kd.R_drewN|apply Kd.R_drew));exact HO9.out) hb);have n3_ := Aside0.mk (below_step (by repeat (first|(with_reducible first|exact HB.out|apply below_alloc|apply pw_below_drewN|apply below_drew1)|exact HB.out)) hb);have n4_ := Aside0.mk (hbox);have n5_ := Aside0.mk ((by rw [hg];exact (below_size (by repeat (first|(with_reducible first|exact HB.out|apply below_alloc|apply pw_below_drewN|apply below_drew1)|exact HB.out))) : w.heap.size ≤ gb11));have n6_ := Aside0.mk ((by rw [hg];exact (below_size (by repeat (first|(with_reducible first|exact HB.out|apply below_alloc|apply pw_below_drewN|apply below_drew1)|exact HB.out))) : w.heap.size ≤ gb11));clear HO_3;clear HO6;clear HO9;clear HB;have HO_3 := n0_;have HO6 := n1_;have HO9 := n2_;have HB := n3_;have BK11 := n4_;have GW11 := n5_;have GE11 := n6_;clear n0_ n1_ n2_ n3_ n4_ n5_ n6_;clear hb hbox hg;obtain ⟨Ao52, co52, eo52⟩ := Kd.R_slice HO9.out;subst eo52;have hcz53_0 : w51.cell? ⟨gb11, 0, none⟩ = some (.slice none 0 0) := (blk_cell BK11.out 0).trans rfl;have hcz53_1 : w51.cell? ⟨gb11, 1, none⟩ = some (.int .i64 0) := (blk_cell BK11.out 1).trans rfl;have hfz53_0 := blk_frozen BK11.out 0;have hfz53_1 := blk_frozen BK11.out 1;have p12 : 0 ≤ ((ji24) : Int) := of_decide_eq_true (by first|(with_reducible assumption)|assumption);have q12 : (ji24) < (l0.length : Int) := of_decide_eq_true (by first|(with_reducible assumption)|assumption);obtain ⟨ad12, e12, hx12_0⟩ := Kd.at_int HR0.out (ji24) p12 q12;obtain rfl : ad1 = ad12 := (by injection e12);have hn12_0 : ad1.block ≠ gb11 := Nat.ne_of_lt (Nat.lt_of_lt_of_le (by have := World.block_lt_of_cell? _ _ hx12_0;first|rwa [add_block] at this|exact this) GW11.out);have hn12_1 : ad1.block ≠ gb11 := Nat.ne_of_lt (Nat.lt_of_lt_of_le (by have := World.block_lt_of_cell? _ _ hx12_0;first|rwa [add_block] at this|exact this) GW11.out);replace hx12_0 := (HB.out.cell (World.block_lt_of_cell? w _ hx12_0)).trans hx12_0;replace hx12_0 := (cell_far (p := ⟨gb11, 0, none⟩) (by first|(rw [add_block];exact hn12_0)|(show (Addr.add _ _).block ≠ _;rw [add_block];exact hn12_0)|exact hn12_0) (.slice Ao52 t7.length co52)).trans hx12_0;replace hx12_0 := (cell_far (p := ⟨gb11, 1, none⟩) (by first|(rw [add_block];exact hn12_1)|(show (Addr.add _ _).block ≠ _;rw [add_block];exact hn12_1)|exact hn12_1) (.int .i64 t10)).trans hx12_0;clear hn12_0;clear hn12_1;replace p12 := eq_true p12;replace q12 := eq_true q12;have p13 : 0 ≤ ((ji24) : Int) := of_decide_eq_true (by first|(with_reducible assumption)|assumption);have q13 : (ji24) < (l0.length : Int) := of_decide_eq_true (by first|(with_reducible assumption)|assumption);obtain ⟨ad13, e13, hx13_0⟩ := Kd.at_int HR0.out (ji24) p13 q13;obtain rfl : ad1 = ad13 := (by injection e13);have hn13_0 : ad1.block ≠ gb11 := Nat.ne_of_lt (Nat.lt_of_lt_of_le (by have := World.block_lt_of_cell? _ _ hx13_0;first|rwa [add_block] at this|exact this) GW11.out);have hn13_1 : ad1.block ≠ gb11 := Nat.ne_of_lt (Nat.lt_of_lt_of_le (by have := World.block_lt_of_cell? _ _ hx13_0;first|rwa [add_block] at this|exact this) GW11.out);replace hx13_0 := (HB.out.cell (World.block_lt_of_cell? w _ hx13_0)).trans hx13_0;replace hx13_0 := (cell_far (p := ⟨gb11, 0, none⟩) (by first|(rw [add_block];exact hn13_0)|(show (Addr.add _ _).block ≠ _;rw [add_block];exact hn13_0)|exact hn13_0) (.slice Ao52 t7.length co52)).trans hx13_0;replace hx13_0 := (cell_far (p := ⟨gb11, 1, none⟩) (by first|(rw [add_block];exact hn13_1)|(show (Addr.add _ _).block ≠ _;rw [add_block];exact hn13_1)|exact hn13_1) (.int .i64 t10)).trans hx13_0;clear hn13_0;clear hn13_1;replace p13 := eq_true p13;replace q13 := eq_true q13;have p14 : 0 ≤ ((ji28) : Int) := of_decide_eq_true (by first|(with_reducible assumption)|assumption);have q14 : (ji28) < (t7.length : Int) := of_decide_eq_true (by first|(with_reducible assumption)|assumption);obtain ⟨ad14, e14, hx14_0, hx14_1, hx14_2, hx14_3, hx14_4, hx14_5, hx14_6, hx14_7, hx14_8, hx14_9, hx14_10, hx14_11⟩ := at_T31 (Kd.R_reads' HO9.out).2.2 (ji28) p14 q14;cases e14;have hn14_0 : ad14.block ≠ gb11 := Kd.own_blk (Kd.R_ne HO9.out BK11.out (by decide));have hn14_1 : ad14.block ≠ gb11 := Kd.own_blk (Kd.R_ne HO9.out BK11.out (by decide));replace hx14_0 := (cell_far (p := ⟨gb11, 0, none⟩) (by first|(rw [add_block];exact hn14_0)|(show (Addr.add _ _).block ≠ _;rw [add_block];exact hn14_0)|exact hn14_0) (.slice (some ad14) t7.length co52)).trans hx14_0;replace hx14_1 := (cell_far (p := ⟨gb11, 0, none⟩) (by first|(rw [add_block];exact hn14_0)|(show (Addr.add _ _).block ≠ _;rw [add_block];exact hn14_0)|exact hn14_0) (.slice (some ad14) t7.length co52)).trans hx14_1;replace hx14_2 := (cell_far (p := ⟨gb11, 0, none⟩) (by first|(rw [add_block];exact hn14_0)|(show (Addr.add _ _).block ≠ _;rw [add_block];exact hn14_0)|exact hn14_0) (.slice (some ad14) t7.length co52)).trans hx14_2;replace hx14_3 := (cell_far (p := ⟨gb11, 0, none⟩) (by first|(rw [add_block];exact hn14_0)|(show (Addr.add _ _).block ≠ _;rw [add_block];exact hn14_0)|exact hn14_0) (.slice (some ad14) t7.length co52)).trans hx14_3;replace hx14_4 := (cell_far (p := ⟨gb11, 0, none⟩) (by first|(rw [add_block];exact hn14_0)|(show (Addr.add _ _).block ≠ _;rw [add_block];exact hn14_0)|exact hn14_0) (.slice (some ad14) t7.length co52)).trans hx14_4;replace hx14_5 := (cell_far (p := ⟨gb11, 0, none⟩) (by first|(rw [add_block];exact hn14_0)|(show (Addr.add _ _).block ≠ _;rw [add_block];exact hn14_0)|exact hn14_0) (.slice (some ad14) t7.length co52)).trans hx14_5;replace hx14_6 := (cell_far (p := ⟨gb11, 0, none⟩) (by first|(rw [add_block];exact hn14_0)|(show (Addr.add _ _).block ≠ _;rw [add_block];exact hn14_0)|exact hn14_0) (.slice (some ad14) t7.length co52)).trans hx14_6;replace hx14_7 := (cell_far (p := ⟨gb11, 0, none⟩) (by first|(rw [add_block];exact hn14_0)|(show (Addr.add _ _).block ≠ _;rw [add_block];exact hn14_0)|exact hn14_0) (.slice (some ad14) t7.length co52)).trans hx14_7;replace hx14_8 := (cell_far (p := ⟨gb11, 0, none⟩) (by first|(rw [add_block];exact hn14_0)|(show (Addr.add _ _).block ≠ _;rw [add_block];exact hn14_0)|exact hn14_0) (.slice (some ad14) t7.length co52)).trans hx14_8;replace hx14_9 := (cell_far (p := ⟨gb11, 0, none⟩) (by first|(rw [add_block];exact hn14_0)|(show (Addr.add _ _).block ≠ _;rw [add_block];exact hn14_0)|exact hn14_0) (.slice (some ad14) t7.length co52)).trans hx14_9;replace hx14_10 := (cell_far (p := ⟨gb11, 0, none⟩) (by first|(rw [add_block];exact hn14_0)|(show (Addr.add _ _).block ≠ _;rw [add_block];exact hn14_0)|exact hn14_0) (.slice (some ad14) t7.length co52)).trans hx14_10;replace hx14_11 := (cell_far (p := ⟨gb11, 0, none⟩) (by first|(rw [add_block];exact hn14_0)|(show (Addr.add _ _).block ≠ _;rw [add_block];exact hn14_0)|exact hn14_0) (.slice (some ad14) t7.length co52)).trans hx14_11;replace hx14_0 := (cell_far (p := ⟨gb11, 1, none⟩) (by first|(rw [add_block];exact hn14_1)|(show (Addr.add _ _).block ≠ _;rw [add_block];exact hn14_1)|exact hn14_1) (.int .i64 t10)).trans hx14_0;replace hx14_1 := (cell_far (p := ⟨gb11, 1, none⟩) (by first|(rw [add_block];exact hn14_1)|(show (Addr.add _ _).block ≠ _;rw [add_block];exact hn14_1)|exact hn14_1) (.int .i64 t10)).trans hx14_1;replace hx14_2 := (cell_far (p := ⟨gb11, 1, none⟩) (by first|(rw [add_block];exact hn14_1)|(show (Addr.add _ _).block ≠ _;rw [add_block];exact hn14_1)|exact hn14_1) (.int .i64 t10)).trans hx14_2;replace hx14_3 := (cell_far (p := ⟨gb11, 1, none⟩) (by first|(rw [add_block];exact hn14_1)|(show (Addr.add _ _).block ≠ _;rw [add_block];exact hn14_1)|exact hn14_1) (.int .i64 t10)).trans hx14_3;replace hx14_4 := (cell_far (p := ⟨gb11, 1, none⟩) (by first|(rw [add_block];exact hn14_1)|(show (Addr.add _ _).block ≠ _;rw [add_block];exact hn14_1)|exact hn14_1) (.int .i64 t10)).trans hx14_4;replace hx14_5 := (cell_far (p := ⟨gb11, 1, none⟩) (by first|(rw [add_block];exact hn14_1)|(show (Addr.add _ _).block ≠ _;rw [add_block];exact hn14_1)|exact hn14_1) (.int .i64 t10)).trans hx14_5;replace hx14_6 := (cell_far (p := ⟨gb11, 1, none⟩) (by first|(rw [add_block];exact hn14_1)|(show (Addr.add _ _).block ≠ _;rw [add_block];exact hn14_1)|exact hn14_1) (.int .i64 t10)).trans hx14_6;replace hx14_7 := (cell_far (p := ⟨gb11, 1, none⟩) (by first|(rw [add_block];exact hn14_1)|(show (Addr.add _ _).block ≠ _;rw [add_block];exact hn14_1)|exact hn14_1) (.int .i64 t10)).trans hx14_7;replace hx14_8 := (cell_far (p := ⟨gb11, 1, none⟩) (by first|(rw [add_block];exact hn14_1)|(show (Addr.add _ _).block ≠ _;rw [add_block];exact hn14_1)|exact hn14_1) (.int .i64 t10)).trans hx14_8;replace hx14_9 := (cell_far (p := ⟨gb11, 1, none⟩) (by first|(rw [add_block];exact hn14_1)|(show (Addr.add _ _).block ≠ _;rw [add_block];exact hn14_1)|exact hn14_1) (.int .i64 t10)).trans hx14_9;replace hx14_10 := (cell_far (p := ⟨gb11, 1, none⟩) (by first|(rw [add_block];exact hn14_1)|(show (Addr.add _ _).block ≠ _;rw [add_block];exact hn14_1)|exact hn14_1) (.int .i64 t10)).trans hx14_10;replace hx14_11 := (cell_far (p := ⟨gb11, 1, none⟩) (by first|(rw [add_block];exact hn14_1)|(show (Addr.add _ _).block ≠ _;rw [add_block];exact hn14_1)|exact hn14_1) (.int .i64 t10)).trans hx14_11;clear hn14_0;clear hn14_1;replace p14 := eq_true p14;replace q14 := eq_true q14)|((with_reducible refine gate_callee (f := 66) rfl ?_);refine goesL_ (some 102) rfl rfl Try.func66 (by kernel_rfl) rfl #[.slice (some ad14) t7.length co52, .string ((rd_T31 t7 (ji28)).f0), .agg #[.int .i64 (Int.tmod (wrap64 (rd l0 (ji24))) 16), .int .i64 (wrap64 (Int.tdiv (Int.tmod (wrap64 (rd l0 (ji24))) 16) 2)), .int .i64 (Int.tmod (Int.tmod (wrap64 (rd l0 (ji24))) 16) 3)]] rfl (by (try simp only [List.map_toArray, List.map_cons, List.map_nil]);first|done|(simp only [hji24, hji28];rfl)|rfl|(simp only [List.length_drop, List.length_take];rfl)) ?_;(with_reducible refine (r10_Admit.calls kj11 _ _ t7 ((rd_T31 t7 (ji28)).f0) (Int.tmod (wrap64 (rd l0 (ji24))) 16) (wrap64 (Int.tdiv (Int.tmod (wrap64 (rd l0 (ji24))) 16) 2)) (Int.tmod (Int.tmod (wrap64 (rd l0 (ji24))) 16) 3) t15 t18 _ ?side1 ?side2 A31.out).mono ?_);(case side1 => refine (Kd.R_reads' (e := 31) (base := w.heap.size) (ok := fun k_ => (True ∧ some k_ ≠ (.slice Ao46 x3_1.length co46 : Value).ownBlock)) (n := t7.length) (c := co52) ?_).2.2;exact (by (with_reducible repeat (first|apply Kd.R_alloc|apply Kd.R_drewN|apply Kd.R_drew));exact (Kd.R_mono (Kd.R_far (p := ⟨gb11, 1, none⟩) (Kd.R_far (p := ⟨gb11, 0, none⟩) (Kd.R_types HO9.out BK11.out (by decide)) (fun _ hk => hk.2) (.slice (some ad14) t7.length co52)) (fun _ hk => hk.2) (.int .i64 t10)) (fun _ h_ => h_.1))));(case side2 => exact (Kd.R_reads' HO9.out).2.1);rintro e w54 ⟨v16, rfl, ho0, hb⟩;refine ⟨_, rfl, ?_⟩;have n0_ := Aside0.mk (Kd.R_elder' (by (with_reducible repeat (first|apply Kd.R_alloc|apply Kd.R_drewN|apply Kd.R_drew));exact (Kd.R_mono (Kd.R_far (p := ⟨gb11, 1, none⟩) (Kd.R_far (p := ⟨gb11, 0, none⟩) (Kd.R_types HO_3.out BK11.out (by decide)) (fun _ hk => hk.2) (.slice (some ad14) t7.length co52)) (fun _ hk => hk.2) (.int .i64 t10)) (fun _ h_ => h_.1))) (Kd.R_base ho0) hb);have n1_ := Aside0.mk (Kd.R_below (by (with_reducible repeat (first|apply Kd.R_alloc|apply Kd.R_drewN|apply Kd.R_drew));exact (Kd.R_mono (Kd.R_far (p := ⟨gb11, 1, none⟩) (Kd.R_far (p := ⟨gb11, 0, none⟩) (Kd.R_types HO6.out BK11.out (by decide)) (fun _ hk => hk.2) (.slice (some ad14) t7.length co52)) (fun _ hk => hk.2) (.int .i64 t10)) (fun _ h_ => h_.1))) hb);have n2_ := Aside0.mk (Kd.R_elder' (by (with_reducible repeat (first|apply Kd.R_alloc|apply Kd.R_drewN|apply Kd.R_drew));exact (Kd.R_mono (Kd.R_far (p := ⟨gb11, 1, none⟩) (Kd.R_far (p := ⟨gb11, 0, none⟩) (Kd.R_types HO9.out BK11.out (by decide)) (fun _ hk => hk.2) (.slice (some ad14) t7.length co52)) (fun _ hk => hk.2) (.int .i64 t10)) (fun _ h_ => h_.1))) (Kd.R_base ho0) hb);have n3_ := Aside0.mk (Kd.R_lower (Kd.R_new' (Kd.R_new' ho0 (Kd.R_lt (by (with_reducible repeat (first|apply Kd.R_alloc|apply Kd.R_drewN|apply Kd.R_drew));exact (Kd.R_mono (Kd.R_far (p := ⟨gb11, 1, none⟩) (Kd.R_far (p := ⟨gb11, 0, none⟩) (Kd.R_types HO_3.out BK11.out (by decide)) (fun _ hk => hk.2) (.slice (some ad14) t7.length co52)) (fun _ hk => hk.2) (.int .i64 t10)) (fun _ h_ => h_.1))))) (Kd.R_lt (by (with_reducible repeat (first|apply Kd.R_alloc|apply Kd.R_drewN|apply Kd.R_drew));exact (Kd.R_mono (Kd.R_far (p := ⟨gb11, 1, none⟩) (Kd.R_far (p := ⟨gb11, 0, none⟩) (Kd.R_types HO9.out BK11.out (by decide)) (fun _ hk => hk.2) (.slice (some ad14) t7.length co52)) (fun _ hk => hk.2) (.int .i64 t10)) (fun _ h_ => h_.1))))) (below_size (by repeat (first|(with_reducible first|exact HB.out|apply below_alloc|apply pw_below_drewN|apply below_drew1|refine below_set ?_ GE11.out)|exact HB.out))));have n4_ := Aside0.mk (blk_below (g := gb11) (o := .cells #[.slice (some ad14) t7.length co52, .int .i64 t10] 67 (0, 0)) (by (with_reducible repeat (first|refine blk_drewN ?_ _|refine blk_drew ?_|refine blk_alloc ?_ _));refine blk_put (cs := #[.slice (some ad14) t7.length co52, .int .i64 0]) ?_ 1 _ rfl;(with_reducible repeat (first|refine blk_drewN ?_ _|refine blk_drew ?_|refine blk_alloc ?_ _));refine blk_put (cs := #[.slice none 0 0, .int .i64 0]) ?_ 0 _ rfl;(with_reducible repeat (first|refine blk_drewN ?_ _|refine blk_drew ?_|refine blk_alloc ?_ _));exact BK11.out) hb);have n5_ := Aside0.mk (below_step (by repeat (first|(with_reducible first|exact HB.out|apply below_alloc|apply pw_below_drewN|apply below_drew1|refine below_set ?_ GE11.out)|exact HB.out)) hb);clear HO_3;clear HO6;clear HO9;clear BK11;clear HB;have HO_3 := n0_;have HO6 := n1_;have HO9 := n2_;have HO17 := n3_;have BK11 := n4_;have HB := n5_;clear n0_ n1_ n2_ n3_ n4_ n5_;(try clear hb);(try clear hb2);(try clear hk);(try clear hi);(try clear ho0))|((with_reducible refine gate_dst (N := 11) rfl ?_);(try (refine gate_guard (by rfl) ?_;dsimp only));refine box_event ?hg (N := 11) ?hd (cs := #[.slice none 0 0, .int .i64 0]) (t := 67) ?hr ?_;(case hd => rfl);(case hg => rfl);(case hr => first|(go_simp;done)|(go_simp;rfl));intro gb19 hg w55 hbox hb;have n0_ := Aside0.mk (Kd.R_below (by (with_reducible repeat (first|apply Kd.R_alloc|apply Kd.R_drewN|apply Kd.R_drew));exact HO_3.out) hb);have n1_ := Aside0.mk (Kd.R_below (by (with_reducible repeat (first|apply Kd.R_alloc|apply Kd.R_drewN|apply Kd.R_drew));exact HO6.out) hb);have n2_ := Aside0.mk (Kd.R_below (by (with_reducible repeat (first|apply Kd.R_alloc|apply Kd.R_drewN|apply Kd.R_drew));exact HO9.out) hb);have n3_ := Aside0.mk (Kd.R_below (by (with_reducible repeat (first|apply Kd.R_alloc|apply Kd.R_drewN|apply Kd.R_drew));exact HO17.out) hb);have n4_ := Aside0.mk (blk_below (g := gb11) (o := .cells #[.slice (some ad14) t7.length co52, .int .i64 t10] 67 (0, 0)) (by (with_reducible repeat (first|refine blk_drewN ?_ _|refine blk_drew ?_|refine blk_alloc ?_ _));exact BK11.out) hb);have n5_ := Aside0.mk (below_step (by repeat (first|(with_reducible first|exact HB.out|apply below_alloc|apply pw_below_drewN|apply below_drew1|refine below_set ?_ GE11.out)|exact HB.out)) hb);have n6_ := Aside0.mk (hbox);have n7_ := Aside0.mk ((by rw [hg];exact (below_size (by repeat (first|(with_reducible first|exact HB.out|apply below_alloc|apply pw_below_drewN|apply below_drew1|refine below_set ?_ GE11.out)|exact HB.out))) : w.heap.size ≤ gb19));have n8_ := Aside0.mk ((by rw [hg];exact (below_size (by repeat (first|(with_reducible first|exact HB.out|apply below_alloc|apply pw_below_drewN|apply below_drew1|refine below_set ?_ GE11.out)|exact HB.out))) : w.heap.size ≤ gb19));have n9_ := Aside0.mk ((by rw [hg];exact Nat.ne_of_lt (blk_lt (g := gb11) (o := .cells #[.slice (some ad14) t7.length co52, .int .i64 t10] 67 (0, 0)) (by (with_reducible repeat (first|refine blk_drewN ?_ _|refine blk_drew ?_|refine blk_alloc ?_ _));exact BK11.out)) : gb11 ≠ gb19));have n10_ := Aside0.mk ((by rw [hg];exact Nat.ne_of_gt (blk_lt (g := gb11) (o := .cells #[.slice (some ad14) t7.length co52, .int .i64 t10] 67 (0, 0)) (by (with_reducible repeat (first|refine blk_drewN ?_ _|refine blk_drew ?_|refine blk_alloc ?_ _));exact BK11.out)) : gb19 ≠ gb11));clear HO_3;clear HO6;clear HO9;clear HO17;clear BK11;clear HB;have HO_3 := n0_;have HO6 := n1_;have HO9 := n2_;have HO17 := n3_;have BK11 := n4_;have HB := n5_;have BK19 := n6_;have GW19 := n7_;have GE19 := n8_;have NB11_19 := n9_;have NB19_11 := n10_;clear n0_ n1_ n2_ n3_ n4_ n5_ n6_ n7_ n8_ n9_ n10_;clear hb hbox hg;obtain ⟨Ao56, co56, eo56⟩ := Kd.R_slice HO17.out;subst eo56;have hnb57 := NB19_11.out;have hnc57 := NB11_19.out;have hcz58_0 : w55.cell? ⟨gb19, 0, none⟩ = some (.slice none 0 0) := (blk_cell BK19.out 0).trans rfl;have hcz58_1 : w55.cell? ⟨gb19, 1, none⟩ = some (.int .i64 0) := (blk_cell BK19.out 1).trans rfl;have hfz58_0 := blk_frozen BK19.out 0;have hfz58_1 := blk_frozen BK19.out 1))
                     go_roundg kj11
                     case measure => have := HK1.out; have := HJ1.out; have := HJ7.out; have := HJ11.out; omega
                     case rel => exact ⟨(t7), (wrap64 (x4_1 + 3)), (by first|rfl|(simp;done)|(simp [*];done)), H', ⟨by have := HK1.out;have := HJ1.out;have := HJ7.out;have := HJ11.out;omega⟩, ⟨by (with_reducible repeat (first|apply Kd.R_alloc|apply Kd.R_drewN|apply Kd.R_drew));exact Kd.R_mono (Kd.R_far (p := ⟨gb19, 1, none⟩) (Kd.R_far (p := ⟨gb19, 0, none⟩) (Kd.R_types HO9.out BK19.out (by decide)) (fun _ hk => hk.2) (.slice Ao56 t15.length co56)) (fun _ hk => hk.2) (.int .i64 t18)) (fun _ hk => trivial)⟩, ⟨by repeat (first|(with_reducible first|exact HB.out|apply below_alloc|apply pw_below_drewN|apply below_drew1|refine below_set ?_ GE11.out|refine below_set ?_ GE19.out)|exact HB.out)⟩⟩
                   ·rw [if_neg c30] at H
                    exact absurd H (by simp)
                  ·rw [if_neg c29] at H
                   exact absurd H (by simp)
                ·rw [if_neg c26] at H
                 exact absurd H (by simp)
               ·rw [if_neg c25] at H
                exact absurd H (by simp)
              ·rw [if_neg c23] at H
               have c23b0 : (t10 == 0) = false := beq_eq_false_iff_ne.mpr c23
               have c23b1 : (t10 != 0) = true := bne_iff_ne.mpr c23
               have H' := Aside0.mk H
               clear H
               have p3 : 0 ≤ ((ji19) : Int) := of_decide_eq_true (by first|(with_reducible assumption)|assumption)
               have q3 : (ji19) < (l0.length : Int) := of_decide_eq_true (by first|(with_reducible assumption)|assumption)
               obtain ⟨ad3, e3, hx3_0⟩ := Kd.at_int HR0.out (ji19) p3 q3
               obtain rfl : ad1 = ad3 := (by injection e3)
               replace hx3_0 := (HB.out.cell (World.block_lt_of_cell? w _ hx3_0)).trans hx3_0
               replace p3 := eq_true p3
               replace q3 := eq_true q3
               obtain ⟨Ao59, co59, eo59⟩ := Kd.R_slice HO_3.out
               subst eo59
               go_wp2_with (first|((with_reducible refine gate_dst (N := 60) rfl ?_);(try (refine gate_guard (by rfl) ?_;dsimp only));refine Kd.R_lit (Kd.int .u8) _ 5 ?hg (N := 60) ?hd (xs := ([(wrap64 (97 + (Int.tmod (wrap64 ((x3_1.length : Int) * 5)) 24))) % 256] : List Int)) (inner := [.int .u8 ((wrap64 (97 + (Int.tmod (wrap64 ((x3_1.length : Int) * 5)) 24))) % 256)]) (ok := fun _ => True) (okp := fun _ => True) ?hr ?hp (fun _ hk => hk) trivial (Below.refl _ _) (Nat.le_refl _) (by simp) ?_;(case hd => rfl);(case hg => rfl);(case hr => first|(go_simp;done)|(go_simp;rfl));(case hp => exact (Reps.one (show Kd.M (Kd.int .u8) _ _ _ ((wrap64 (97 + (Int.tmod (wrap64 ((x3_1.length : Int) * 5)) 24))) % 256) [.int .u8 ((wrap64 (97 + (Int.tmod (wrap64 ((x3_1.length : Int) * 5)) 24))) % 256)] from rfl) (Reps.none _ _)));intro v5 w60 ho61 hb hg_ hnew_;clear hg_ hnew_;(first|rw [← Ny4.out] at ho61|(simp only [Int.reduceToNat] at ho61;rw [← Ny4.out] at ho61));have n0_ := Aside0.mk (Kd.R_below (by (with_reducible repeat (first|apply Kd.R_alloc|apply Kd.R_drewN|apply Kd.R_drew));exact HO_3.out) hb);have n1_ := Aside0.mk (Kd.R_lower ho61 (below_size (by repeat (first|(with_reducible first|exact HB.out|apply below_alloc|apply pw_below_drewN|apply below_drew1)|exact HB.out))));have n2_ := Aside0.mk (below_step (by repeat (first|(with_reducible first|exact HB.out|apply below_alloc|apply pw_below_drewN|apply below_drew1)|exact HB.out)) hb);clear HO_3;clear HB;have HO_3 := n0_;have HO6 := n1_;have HB := n2_;clear n0_ n1_ n2_;clear hb ho61;have hcv62 := own_string (P := Try.prog) Try.underlying22 Try.underlying5 Try.underlying9 (Kd.own_of_R HO6.out))|((with_reducible refine gate_callee (f := 83) rfl ?_);refine goesL_ (some 67) rfl rfl Try.func83 (by kernel_rfl) rfl #[.slice Ao59 x3_1.length co59, .string (strOfNums y4), .string x6_11, .agg #[.int .i64 (wrap64 (20 + (wrap64 (rd l0 (ji19))))), .int .i64 (wrap64 (20 + (wrap64 (rd l0 (ji19))))), .int .i64 (wrap64 (20 + (wrap64 (rd l0 (ji19)))))]] rfl (by (try simp only [List.map_toArray, List.map_cons, List.map_nil]);first|done|(simp only [hji19];rfl)|rfl|(simp only [List.length_drop, List.length_take];rfl)) ?_;(with_reducible refine (r10_Create.calls kj11 _ _ x3_1 (strOfNums y4) x6_11 (wrap64 (20 + (wrap64 (rd l0 (ji19))))) (wrap64 (20 + (wrap64 (rd l0 (ji19))))) (wrap64 (20 + (wrap64 (rd l0 (ji19))))) t7 t10 _ ?side1 ?side2 A22.out).mono ?_);(case side1 => repeat (first|exact (Kd.R_reads' HO_3.out).2.2|(with_reducible refine Kd.C_alloc ?_ _)|(with_reducible refine Kd.C_drewN ?_ _)|(with_reducible refine Kd.C_drew ?_)));(case side2 => exact (Kd.R_reads' HO_3.out).2.1);rintro e w63 ⟨v8, rfl, ho0, hb⟩;refine ⟨_, rfl, ?_⟩;have n0_ := Aside0.mk (Kd.R_elder' (by (with_reducible repeat (first|apply Kd.R_alloc|apply Kd.R_drewN|apply Kd.R_drew));exact HO_3.out) (Kd.R_base ho0) hb);have n1_ := Aside0.mk (Kd.R_below (by (with_reducible repeat (first|apply Kd.R_alloc|apply Kd.R_drewN|apply Kd.R_drew));exact HO6.out) hb);have n2_ := Aside0.mk (Kd.R_lower (Kd.R_new' ho0 (Kd.R_lt (by (with_reducible repeat (first|apply Kd.R_alloc|apply Kd.R_drewN|apply Kd.R_drew));exact HO_3.out))) (below_size (by repeat (first|(with_reducible first|exact HB.out|apply below_alloc|apply pw_below_drewN|apply below_drew1)|exact HB.out))));have n3_ := Aside0.mk (below_step (by repeat (first|(with_reducible first|exact HB.out|apply below_alloc|apply pw_below_drewN|apply below_drew1)|exact HB.out)) hb);clear HO_3;clear HO6;clear HB;have HO_3 := n0_;have HO6 := n1_;have HO9 := n2_;have HB := n3_;clear n0_ n1_ n2_ n3_;(try clear hb);(try clear hb2);(try clear hk);(try clear hi);(try clear ho0))|((with_reducible refine gate_dst (N := 8) rfl ?_);(try (refine gate_guard (by rfl) ?_;dsimp only));refine box_event ?hg (N := 8) ?hd (cs := #[.slice none 0 0, .int .i64 0]) (t := 67) ?hr ?_;(case hd => rfl);(case hg => rfl);(case hr => first|(go_simp;done)|(go_simp;rfl));intro gb11 hg w64 hbox hb;have n0_ := Aside0.mk (Kd.R_below (by (with_reducible repeat (first|apply Kd.R_alloc|apply Kd.R_drewN|apply Kd.R_drew));exact HO_3.out) hb);have n1_ := Aside0.mk (Kd.R_below (by (with_reducible repeat (first|apply Kd.R_alloc|apply Kd.R_drewN|apply Kd.R_drew));exact HO6.out) hb);have n2_ := Aside0.mk (Kd.R_below (by (with_reducible repeat (first|apply Kd.R_alloc|apply Kd.R_drewN|apply Kd.R_drew));exact HO9.out) hb);have n3_ := Aside0.mk (below_step (by repeat (first|(with_reducible first|exact HB.out|apply below_alloc|apply pw_below_drewN|apply below_drew1)|exact HB.out)) hb);have n4_ := Aside0.mk (hbox);have n5_ := Aside0.mk ((by rw [hg];exact (below_size (by repeat (first|(with_reducible first|exact HB.out|apply below_alloc|apply pw_below_drewN|apply below_drew1)|exact HB.out))) : w.heap.size ≤ gb11));have n6_ := Aside0.mk ((by rw [hg];exact (below_size (by repeat (first|(with_reducible first|exact HB.out|apply below_alloc|apply pw_below_drewN|apply below_drew1)|exact HB.out))) : w.heap.size ≤ gb11));clear HO_3;clear HO6;clear HO9;clear HB;have HO_3 := n0_;have HO6 := n1_;have HO9 := n2_;have HB := n3_;have BK11 := n4_;have GW11 := n5_;have GE11 := n6_;clear n0_ n1_ n2_ n3_ n4_ n5_ n6_;clear hb hbox hg;obtain ⟨Ao65, co65, eo65⟩ := Kd.R_slice HO9.out;subst eo65;have hcz66_0 : w64.cell? ⟨gb11, 0, none⟩ = some (.slice none 0 0) := (blk_cell BK11.out 0).trans rfl;have hcz66_1 : w64.cell? ⟨gb11, 1, none⟩ = some (.int .i64 0) := (blk_cell BK11.out 1).trans rfl;have hfz66_0 := blk_frozen BK11.out 0;have hfz66_1 := blk_frozen BK11.out 1))
               go_roundg kj11
               case measure => have := HK1.out; have := HJ1.out; have := HJ7.out; have := HJ11.out; omega
               case rel => exact ⟨(x3_1), (wrap64 (x4_1 + 3)), (by first|rfl|(simp;done)|(simp [*];done)), H', ⟨by have := HK1.out;have := HJ1.out;have := HJ7.out;have := HJ11.out;omega⟩, ⟨by (with_reducible repeat (first|apply Kd.R_alloc|apply Kd.R_drewN|apply Kd.R_drew));exact Kd.R_mono (Kd.R_far (p := ⟨gb11, 1, none⟩) (Kd.R_far (p := ⟨gb11, 0, none⟩) (Kd.R_types HO_3.out BK11.out (by decide)) (fun _ hk => hk.2) (.slice Ao65 t7.length co65)) (fun _ hk => hk.2) (.int .i64 t10)) (fun _ hk => trivial)⟩, ⟨by repeat (first|(with_reducible first|exact HB.out|apply below_alloc|apply pw_below_drewN|apply below_drew1|refine below_set ?_ GE11.out)|exact HB.out)⟩⟩
             ·rw [if_neg c21] at H
              exact absurd H (by simp)
            ·rw [if_neg c20] at H
             exact absurd H (by simp)
       ·rw [if_neg c7] at H
        exact absurd H (by simp)
      ·rw [if_neg c6] at H
       exact absurd H (by simp)
     ·replace c5 := Bool.eq_false_iff.mpr c5
      subst c5
      have H1 : (some x3_1) = some r := by rw [if_neg (show ¬ (false = true) by decide)] at H; exact H
      clear H
      have H := H1
      clear H1
      obtain rfl := Option.some.inj H
      go_wp2
      go_ret
      exact ⟨_, by first|rfl|(simp [errW_none, errW_some] <;> rfl)|(simp [*, errW_none, errW_some] <;> rfl), by (with_reducible repeat (first|apply Kd.R_alloc|apply Kd.R_drewN|apply Kd.R_drew));exact HO_3.out, by repeat (first|(with_reducible first|exact HB.out|apply below_alloc|apply pw_below_drewN|apply below_drew1)|exact HB.out)⟩
end Go.Proofs.Ytcgefpklljclgaa.Print

namespace Go.Proofs.Ytcgefpklljclgaa.Print
open Go.RowKit Go.Proofs.YtcgefpklljclgaaW.PrintWords Go.Proofs.YtcgefpklljclgaaW.PrintLast Go.Proofs.YtcgefpklljclgaaW.PrintMore
attribute [local go_sem] max2_int min2_int max_two min_two max_three min_three max_four min_four   -- for this text's walks alone
set_option linter.unusedVariables false
set_option linter.unusedSimpArgs false
/-! ### law1_Num: function 61 -/
def law1_Num.f (a0 : Int) : Option (Int) := some a0
set_option maxHeartbeats 8000000 in
set_option maxRecDepth 100000 in
theorem law1_Num.calls (a0 : Int) (r : Int) (w : World) (h : law1_Num.f a0 = some r) :
  Calls Try.prog 61 #[.int .i64 a0] w fun e w' => e = .returned (.int .i64 r) ∧ Drawn0 w w' := by
 have H : (some a0) = some r := h
 clear h
 obtain rfl := Option.some.inj H
 go_enter Try.func61, Try.ntmps61
 go_wp2
 go_ret
 exact ⟨by first | rfl | (simp; done) | (simp [*]; done), by repeat (first | exact Drawn0.refl _ | apply Drawn0.step)⟩
end Go.Proofs.Ytcgefpklljclgaa.Print

namespace Go.Proofs.Ytcgefpklljclgaa.Print
open Go.RowKit Go.Proofs.YtcgefpklljclgaaW.PrintWords Go.Proofs.YtcgefpklljclgaaW.PrintLast Go.Proofs.YtcgefpklljclgaaW.PrintMore
attribute [local go_sem] max2_int min2_int max_two min_two max_three min_three max_four min_four   -- for this text's walks alone
set_option linter.unusedVariables false
set_option linter.unusedSimpArgs false
/-! ### law14_awake: function 59 -/
def law14_awake.f (k : Nat)  : Option (Bool) := (admit_Admit.f k ([] : List (S31)) (⟨#[97]⟩ : ByteArray) 0 0 0).bind fun bt1 => ((admit_Admit.f k (([(⟨(⟨#[97]⟩ : ByteArray), (⟨#[]⟩ : ByteArray), (⟨5, 0, 0⟩ : S27), (⟨0, 0, 0⟩ : S27), (⟨0, 0, 0⟩ : S27), 1⟩ : S31)] : List (S31))) (⟨#[97]⟩ : ByteArray) 3 0 0).bind fun bt8 => ((law1_Num.f bt1.2).bind fun t12 => (if t12 = 2 then ((law1_Num.f bt8.2).bind fun t13 => (if t13 = 0 then (if (bt8.1.length : Int) = 1 then (if 0 < (bt8.1.length : Int) then (if ((rd_T31 bt8.1 0).f3.f0) = 3 then (some (((rd_T31 bt8.1 0).f4.f0) == 3)) else (some false)) else (none)) else (some false)) else (some false))) else (some false))))
theorem law14_awake.mono : ∀ k, LeO (law14_awake.f k ) (law14_awake.f (k + 1) ) := by
 intro  k
 unfold law14_awake.f
 repeat' first
   | (with_reducible exact admit_Admit.mono _ _ _ _ _ _)
   | (with_reducible exact LeO.refl _)
   | (with_reducible exact LeO.none _)
   | (with_reducible refine LeO.ite ?_ ?_)
   | (with_reducible refine LeO.bind ?_ (fun _ => ?_))
   | exact admit_Admit.mono _ _ _ _ _ _
   | exact LeO.none _
   | refine LeO.ite ?_ ?_
   | refine LeO.bind ?_ (fun _ => ?_)
set_option maxHeartbeats 8000000 in
set_option maxRecDepth 100000 in
theorem law14_awake.calls (k : Nat)  (r : Bool) (w : World) (h : law14_awake.f k  = some r) :
  Calls Try.prog 59 #[] w fun e w' => e = .returned (.bool r) ∧ Below w.heap.size w w' := by
 have hu27 := Try.underlying27
 have hu31 := Try.underlying31
 have HB := Aside0.mk (Below.refl w.heap.size w)
 have H : ((admit_Admit.f k ([] : List (S31)) (⟨#[97]⟩ : ByteArray) 0 0 0).bind fun bt1 => ((admit_Admit.f k (([(⟨(⟨#[97]⟩ : ByteArray), (⟨#[]⟩ : ByteArray), (⟨5, 0, 0⟩ : S27), (⟨0, 0, 0⟩ : S27), (⟨0, 0, 0⟩ : S27), 1⟩ : S31)] : List (S31))) (⟨#[97]⟩ : ByteArray) 3 0 0).bind fun bt8 => ((law1_Num.f bt1.2).bind fun t12 => (if t12 = 2 then ((law1_Num.f bt8.2).bind fun t13 => (if t13 = 0 then (if (bt8.1.length : Int) = 1 then (if 0 < (bt8.1.length : Int) then (if ((rd_T31 bt8.1 0).f3.f0) = 3 then (some (((rd_T31 bt8.1 0).f4.f0) == 3)) else (some false)) else (none)) else (some false)) else (some false))) else (some false))))) = some r := h
 clear h
 replace H := Option.bind_eq_some_iff.mp H
 obtain ⟨⟨t1, t4⟩, A10, H⟩ := H
 replace H : ((admit_Admit.f k (([(⟨(⟨#[97]⟩ : ByteArray), (⟨#[]⟩ : ByteArray), (⟨5, 0, 0⟩ : S27), (⟨0, 0, 0⟩ : S27), (⟨0, 0, 0⟩ : S27), 1⟩ : S31)] : List (S31))) (⟨#[97]⟩ : ByteArray) 3 0 0).bind fun bt8 => ((law1_Num.f t4).bind fun t12 => (if t12 = 2 then ((law1_Num.f bt8.2).bind fun t13 => (if t13 = 0 then (if (bt8.1.length : Int) = 1 then (if 0 < (bt8.1.length : Int) then (if ((rd_T31 bt8.1 0).f3.f0) = 3 then (some (((rd_T31 bt8.1 0).f4.f0) == 3)) else (some false)) else (none)) else (some false)) else (some false))) else (some false)))) = some r := H
 have A1 := Aside0.mk A10
 clear A10
 obtain ⟨y5, hy5⟩ : ∃ y_ : List (S31), y_ = (([(⟨(⟨#[97]⟩ : ByteArray), (⟨#[]⟩ : ByteArray), (⟨5, 0, 0⟩ : S27), (⟨0, 0, 0⟩ : S27), (⟨0, 0, 0⟩ : S27), 1⟩ : S31)] : List (S31))) := ⟨_, rfl⟩
 replace H : ((admit_Admit.f k y5 (⟨#[97]⟩ : ByteArray) 3 0 0).bind fun bt8 => ((law1_Num.f t4).bind fun t12 => (if t12 = 2 then ((law1_Num.f bt8.2).bind fun t13 => (if t13 = 0 then (if (bt8.1.length : Int) = 1 then (if 0 < (bt8.1.length : Int) then (if ((rd_T31 bt8.1 0).f3.f0) = 3 then (some (((rd_T31 bt8.1 0).f4.f0) == 3)) else (some false)) else (none)) else (some false)) else (some false))) else (some false)))) = some r := by first|(rw [hy5];with_reducible exact H)|(have H2_ := (Option.bind_some _ _).symm.trans H;rw [hy5];with_reducible exact H2_)|(have H2_ := (Option.bind_some _ _).symm.trans H;with_reducible exact H2_)|with_reducible exact H|(rw [hy5];exact H)|exact H
 have Ny5 := Aside0.mk hy5
 clear hy5
 replace H := Option.bind_eq_some_iff.mp H
 obtain ⟨⟨t8, t11⟩, A20, H⟩ := H
 replace H : ((law1_Num.f t4).bind fun t12 => (if t12 = 2 then ((law1_Num.f t11).bind fun t13 => (if t13 = 0 then (if (t8.length : Int) = 1 then (if 0 < (t8.length : Int) then (if ((rd_T31 t8 0).f3.f0) = 3 then (some (((rd_T31 t8 0).f4.f0) == 3)) else (some false)) else (none)) else (some false)) else (some false))) else (some false))) = some r := H
 have A2 := Aside0.mk A20
 clear A20
 replace H := Option.bind_eq_some_iff.mp H
 obtain ⟨t12, A30, H⟩ := H
 replace H : (if t12 = 2 then ((law1_Num.f t11).bind fun t13 => (if t13 = 0 then (if (t8.length : Int) = 1 then (if 0 < (t8.length : Int) then (if ((rd_T31 t8 0).f3.f0) = 3 then (some (((rd_T31 t8 0).f4.f0) == 3)) else (some false)) else (none)) else (some false)) else (some false))) else (some false)) = some r := H
 have A3 := Aside0.mk A30
 clear A30
 by_cases c4 : t12 = 2
 ·rw [if_pos c4] at H
  have c4b0 : (t12 == 2) = true := beq_iff_eq.mpr c4
  have c4b1 : (t12 != 2) = false := bne_eq_false_iff_eq.mpr c4
  clear c4
  replace H := Option.bind_eq_some_iff.mp H
  obtain ⟨t13, A50, H⟩ := H
  replace H : (if t13 = 0 then (if (t8.length : Int) = 1 then (if 0 < (t8.length : Int) then (if ((rd_T31 t8 0).f3.f0) = 3 then (some (((rd_T31 t8 0).f4.f0) == 3)) else (some false)) else (none)) else (some false)) else (some false)) = some r := H
  have A5 := Aside0.mk A50
  clear A50
  by_cases c6 : t13 = 0
  ·rw [if_pos c6] at H
   have c6b0 : (t13 == 0) = true := beq_iff_eq.mpr c6
   have c6b1 : (t13 != 0) = false := bne_eq_false_iff_eq.mpr c6
   clear c6
   by_cases c7 : (t8.length : Int) = 1
   ·rw [if_pos c7] at H
    have c7b0 : ((t8.length : Int) == 1) = true := beq_iff_eq.mpr c7
    have c7b1 : ((t8.length : Int) != 1) = false := bne_eq_false_iff_eq.mpr c7
    clear c7
    by_cases c8 : 0 < (t8.length : Int)
    ·rw [if_pos c8] at H
     have c8b0 : decide (0 < (t8.length : Int)) = true := decide_eq_true c8
     have c8b1 : decide (0 < t8.length) = true := decide_eq_true (by omega)
     clear c8
     by_cases c9 : ((rd_T31 t8 0).f3.f0) = 3
     ·rw [if_pos c9] at H
      have c9b0 : (((rd_T31 t8 0).f3.f0) == 3) = true := beq_iff_eq.mpr c9
      have c9b1 : (((rd_T31 t8 0).f3.f0) != 3) = false := bne_eq_false_iff_eq.mpr c9
      clear c9
      obtain rfl := Option.some.inj H
      go_enter Try.func59, Try.ntmps59
      go_wp2_with (first|((with_reducible refine gate_callee (f := 60) rfl ?_);refine goesL_ (some 7) rfl rfl Try.func60 (by kernel_rfl) rfl #[.slice none 0 0, .string (⟨#[97]⟩ : ByteArray), .agg #[.int .i64 0, .int .i64 0, .int .i64 0]] rfl (by (try simp only [List.map_toArray, List.map_cons, List.map_nil]);first|done|rfl|(simp only [List.length_drop, List.length_take];rfl)) ?_;(refine (admit_Admit.calls k _ _ ([] : List (S31)) (⟨#[97]⟩ : ByteArray) 0 0 0 t1 t4 _ ?side1 ?side2 A1.out).mono ?_);(case side1 => exact Kd.C_nil _ _);(case side2 => exact Nat.le_refl _);rintro e w10 ⟨v2, rfl, ho0, hb⟩;refine ⟨_, rfl, ?_⟩;have n0_ := Aside0.mk (Kd.R_lower ho0 (below_size (by repeat (first|(with_reducible first|exact HB.out|apply below_alloc|apply pw_below_drewN|apply below_drew1)|exact HB.out))));have n1_ := Aside0.mk (below_step (by repeat (first|(with_reducible first|exact HB.out|apply below_alloc|apply pw_below_drewN|apply below_drew1)|exact HB.out)) hb);clear HB;have HO3 := n0_;have HB := n1_;clear n0_ n1_;(try clear hb);(try clear hb2);(try clear hk);(try clear hi);(try clear ho0))|((with_reducible refine gate_dst (N := 13) rfl ?_);(try (refine gate_guard (by rfl) ?_;dsimp only));refine Kd.R_lit k31 _ 31 ?hg (N := 13) ?hd (xs := ([(⟨(⟨#[97]⟩ : ByteArray), (⟨#[]⟩ : ByteArray), (⟨5, 0, 0⟩ : S27), (⟨0, 0, 0⟩ : S27), (⟨0, 0, 0⟩ : S27), 1⟩ : S31)] : List (S31))) (inner := [.string (⟨#[97]⟩ : ByteArray), .string (⟨#[]⟩ : ByteArray), .int .i64 5, .int .i64 0, .int .i64 0, .int .i64 0, .int .i64 0, .int .i64 0, .int .i64 0, .int .i64 0, .int .i64 0, .int .i64 1]) (ok := fun _ => True) (okp := fun _ => True) ?hr ?hp (fun _ hk => hk) trivial (Below.refl _ _) (Nat.le_refl _) (by simp) ?_;(case hd => rfl);(case hg => rfl);(case hr => first|(go_simp;done)|(go_simp;rfl));(case hp => exact (Reps.front (show Kd.M k31 _ _ _ (⟨(⟨#[97]⟩ : ByteArray), (⟨#[]⟩ : ByteArray), (⟨5, 0, 0⟩ : S27), (⟨0, 0, 0⟩ : S27), (⟨0, 0, 0⟩ : S27), 1⟩ : S31) [.string (⟨#[97]⟩ : ByteArray), .string (⟨#[]⟩ : ByteArray), .int .i64 5, .int .i64 0, .int .i64 0, .int .i64 0, .int .i64 0, .int .i64 0, .int .i64 0, .int .i64 0, .int .i64 0, .int .i64 1] from (k31_mkM _ _ _ (⟨(⟨#[97]⟩ : ByteArray), (⟨#[]⟩ : ByteArray), (⟨5, 0, 0⟩ : S27), (⟨0, 0, 0⟩ : S27), (⟨0, 0, 0⟩ : S27), 1⟩ : S31) )) rfl (Reps.none _ _) rfl));intro v6 w11 ho12 hb hg_ hnew_;clear hg_ hnew_;(first|rw [← Ny5.out] at ho12|(simp only [Int.reduceToNat] at ho12;rw [← Ny5.out] at ho12));have n0_ := Aside0.mk (Kd.R_elder' (by (with_reducible repeat (first|apply Kd.R_alloc|apply Kd.R_drewN|apply Kd.R_drew));exact HO3.out) (Kd.R_base ho12) hb);have n1_ := Aside0.mk (Kd.R_lower (Kd.R_new' ho12 (Kd.R_lt (by (with_reducible repeat (first|apply Kd.R_alloc|apply Kd.R_drewN|apply Kd.R_drew));exact HO3.out))) (below_size (by repeat (first|(with_reducible first|exact HB.out|apply below_alloc|apply pw_below_drewN|apply below_drew1)|exact HB.out))));have n2_ := Aside0.mk (below_step (by repeat (first|(with_reducible first|exact HB.out|apply below_alloc|apply pw_below_drewN|apply below_drew1)|exact HB.out)) hb);clear HO3;clear HB;have HO3 := n0_;have HO7 := n1_;have HB := n2_;clear n0_ n1_ n2_;clear hb ho12;obtain ⟨Ao13, co13, eo13⟩ := Kd.R_slice HO7.out;subst eo13)|((with_reducible refine gate_callee (f := 60) rfl ?_);refine goesL_ (some 15) rfl rfl Try.func60 (by kernel_rfl) rfl #[.slice Ao13 y5.length co13, .string (⟨#[97]⟩ : ByteArray), .agg #[.int .i64 3, .int .i64 0, .int .i64 0]] rfl (by (try simp only [List.map_toArray, List.map_cons, List.map_nil]);first|done|rfl|(simp only [List.length_drop, List.length_take];rfl)) ?_;(with_reducible refine (admit_Admit.calls k _ _ y5 (⟨#[97]⟩ : ByteArray) 3 0 0 t8 t11 _ ?side1 ?side2 A2.out).mono ?_);(case side1 => repeat (first|exact (Kd.R_reads' HO7.out).2.2|(with_reducible refine Kd.C_alloc ?_ _)|(with_reducible refine Kd.C_drewN ?_ _)|(with_reducible refine Kd.C_drew ?_)));(case side2 => exact (Kd.R_reads' HO7.out).2.1);rintro e w14 ⟨v9, rfl, ho0, hb⟩;refine ⟨_, rfl, ?_⟩;have n0_ := Aside0.mk (Kd.R_elder' (by (with_reducible repeat (first|apply Kd.R_alloc|apply Kd.R_drewN|apply Kd.R_drew));exact HO3.out) (Kd.R_base ho0) hb);have n1_ := Aside0.mk (Kd.R_elder' (by (with_reducible repeat (first|apply Kd.R_alloc|apply Kd.R_drewN|apply Kd.R_drew));exact HO7.out) (Kd.R_base ho0) hb);have n2_ := Aside0.mk (Kd.R_lower (Kd.R_new' (Kd.R_new' ho0 (Kd.R_lt (by (with_reducible repeat (first|apply Kd.R_alloc|apply Kd.R_drewN|apply Kd.R_drew));exact HO3.out))) (Kd.R_lt (by (with_reducible repeat (first|apply Kd.R_alloc|apply Kd.R_drewN|apply Kd.R_drew));exact HO7.out))) (below_size (by repeat (first|(with_reducible first|exact HB.out|apply below_alloc|apply pw_below_drewN|apply below_drew1)|exact HB.out))));have n3_ := Aside0.mk (below_step (by repeat (first|(with_reducible first|exact HB.out|apply below_alloc|apply pw_below_drewN|apply below_drew1)|exact HB.out)) hb);clear HO3;clear HO7;clear HB;have HO3 := n0_;have HO7 := n1_;have HO10 := n2_;have HB := n3_;clear n0_ n1_ n2_ n3_;(try clear hb);(try clear hb2);(try clear hk);(try clear hi);(try clear ho0))|((with_reducible refine gate_callee (f := 61) rfl ?_);refine goesL_ (some 19) rfl rfl Try.func61 (by kernel_rfl) rfl #[.int .i64 t4] rfl (by (try simp only [List.map_toArray, List.map_cons, List.map_nil]);first|done|rfl|(simp only [List.length_drop, List.length_take];rfl)) ?_;(with_reducible refine (law1_Num.calls t4 t12 _ A3.out).mono ?_);rintro e w' ⟨rfl, ⟨nd, rfl⟩⟩;refine ⟨_, rfl, ?_⟩)|(go_at_call 61;(with_reducible refine (law1_Num.calls t11 t13 _ A5.out).mono ?_);rintro e w' ⟨rfl, ⟨nd, rfl⟩⟩;obtain ⟨Ao15, co15, eo15⟩ := Kd.R_slice HO10.out;subst eo15;have p14 : 0 ≤ (0 : Int) := (by omega);have q14 : 0 < (t8.length : Int) := of_decide_eq_true (by first|(with_reducible assumption)|assumption);obtain ⟨ad14, e14, hx14_0, hx14_1, hx14_2, hx14_3, hx14_4, hx14_5, hx14_6, hx14_7, hx14_8, hx14_9, hx14_10, hx14_11⟩ := at_T31 (Kd.R_reads' HO10.out).2.2 0 p14 q14;cases e14;have qi14 : (0 < t8.length) = True := eq_true (by omega);(try rw [show ((0 : Int)).toNat = 0 from rfl] at hx14_0);(try rw [show 0 * 12 = 0 from rfl] at hx14_0);(try rw [Addr.add_zero'] at hx14_0);(try rw [show ((0 : Int)).toNat = 0 from rfl] at hx14_1);(try rw [show 0 * 12 = 0 from rfl] at hx14_1);(try rw [Addr.add_zero'] at hx14_1);(try rw [show ((0 : Int)).toNat = 0 from rfl] at hx14_2);(try rw [show 0 * 12 = 0 from rfl] at hx14_2);(try rw [Addr.add_zero'] at hx14_2);(try rw [show ((0 : Int)).toNat = 0 from rfl] at hx14_3);(try rw [show 0 * 12 = 0 from rfl] at hx14_3);(try rw [Addr.add_zero'] at hx14_3);(try rw [show ((0 : Int)).toNat = 0 from rfl] at hx14_4);(try rw [show 0 * 12 = 0 from rfl] at hx14_4);(try rw [Addr.add_zero'] at hx14_4);(try rw [show ((0 : Int)).toNat = 0 from rfl] at hx14_5);(try rw [show 0 * 12 = 0 from rfl] at hx14_5);(try rw [Addr.add_zero'] at hx14_5);(try rw [show ((0 : Int)).toNat = 0 from rfl] at hx14_6);(try rw [show 0 * 12 = 0 from rfl] at hx14_6);(try rw [Addr.add_zero'] at hx14_6);(try rw [show ((0 : Int)).toNat = 0 from rfl] at hx14_7);(try rw [show 0 * 12 = 0 from rfl] at hx14_7);(try rw [Addr.add_zero'] at hx14_7);(try rw [show ((0 : Int)).toNat = 0 from rfl] at hx14_8);(try rw [show 0 * 12 = 0 from rfl] at hx14_8);(try rw [Addr.add_zero'] at hx14_8);(try rw [show ((0 : Int)).toNat = 0 from rfl] at hx14_9);(try rw [show 0 * 12 = 0 from rfl] at hx14_9);(try rw [Addr.add_zero'] at hx14_9);(try rw [show ((0 : Int)).toNat = 0 from rfl] at hx14_10);(try rw [show 0 * 12 = 0 from rfl] at hx14_10);(try rw [Addr.add_zero'] at hx14_10);(try rw [show ((0 : Int)).toNat = 0 from rfl] at hx14_11);(try rw [show 0 * 12 = 0 from rfl] at hx14_11);(try rw [Addr.add_zero'] at hx14_11);replace p14 := eq_true p14;replace q14 := eq_true q14;have p15 : 0 ≤ (0 : Int) := (by omega);have q15 : 0 < (t8.length : Int) := of_decide_eq_true (by first|(with_reducible assumption)|assumption);obtain ⟨ad15, e15, hx15_0, hx15_1, hx15_2, hx15_3, hx15_4, hx15_5, hx15_6, hx15_7, hx15_8, hx15_9, hx15_10, hx15_11⟩ := at_T31 (Kd.R_reads' HO10.out).2.2 0 p15 q15;obtain rfl : ad14 = ad15 := (by injection e15);have qi15 : (0 < t8.length) = True := eq_true (by omega);(try rw [show ((0 : Int)).toNat = 0 from rfl] at hx15_0);(try rw [show 0 * 12 = 0 from rfl] at hx15_0);(try rw [Addr.add_zero'] at hx15_0);(try rw [show ((0 : Int)).toNat = 0 from rfl] at hx15_1);(try rw [show 0 * 12 = 0 from rfl] at hx15_1);(try rw [Addr.add_zero'] at hx15_1);(try rw [show ((0 : Int)).toNat = 0 from rfl] at hx15_2);(try rw [show 0 * 12 = 0 from rfl] at hx15_2);(try rw [Addr.add_zero'] at hx15_2);(try rw [show ((0 : Int)).toNat = 0 from rfl] at hx15_3);(try rw [show 0 * 12 = 0 from rfl] at hx15_3);(try rw [Addr.add_zero'] at hx15_3);(try rw [show ((0 : Int)).toNat = 0 from rfl] at hx15_4);(try rw [show 0 * 12 = 0 from rfl] at hx15_4);(try rw [Addr.add_zero'] at hx15_4);(try rw [show ((0 : Int)).toNat = 0 from rfl] at hx15_5);(try rw [show 0 * 12 = 0 from rfl] at hx15_5);(try rw [Addr.add_zero'] at hx15_5);(try rw [show ((0 : Int)).toNat = 0 from rfl] at hx15_6);(try rw [show 0 * 12 = 0 from rfl] at hx15_6);(try rw [Addr.add_zero'] at hx15_6);(try rw [show ((0 : Int)).toNat = 0 from rfl] at hx15_7);(try rw [show 0 * 12 = 0 from rfl] at hx15_7);(try rw [Addr.add_zero'] at hx15_7);(try rw [show ((0 : Int)).toNat = 0 from rfl] at hx15_8);(try rw [show 0 * 12 = 0 from rfl] at hx15_8);(try rw [Addr.add_zero'] at hx15_8);(try rw [show ((0 : Int)).toNat = 0 from rfl] at hx15_9);(try rw [show 0 * 12 = 0 from rfl] at hx15_9);(try rw [Addr.add_zero'] at hx15_9);(try rw [show ((0 : Int)).toNat = 0 from rfl] at hx15_10);(try rw [show 0 * 12 = 0 from rfl] at hx15_10);(try rw [Addr.add_zero'] at hx15_10);(try rw [show ((0 : Int)).toNat = 0 from rfl] at hx15_11);(try rw [show 0 * 12 = 0 from rfl] at hx15_11);(try rw [Addr.add_zero'] at hx15_11);replace p15 := eq_true p15;replace q15 := eq_true q15))
      go_ret
      exact ⟨by first|rfl|(simp [errW_none, errW_some] <;> rfl)|(simp [*, errW_none, errW_some] <;> rfl), by repeat (first|(with_reducible first|exact HB.out|apply below_alloc|apply pw_below_drewN|apply below_drew1)|exact HB.out)⟩
     ·rw [if_neg c9] at H
      have c9b0 : (((rd_T31 t8 0).f3.f0) == 3) = false := beq_eq_false_iff_ne.mpr c9
      have c9b1 : (((rd_T31 t8 0).f3.f0) != 3) = true := bne_iff_ne.mpr c9
      obtain rfl := Option.some.inj H
      go_enter Try.func59, Try.ntmps59
      go_wp2_with (first|((with_reducible refine gate_callee (f := 60) rfl ?_);refine goesL_ (some 7) rfl rfl Try.func60 (by kernel_rfl) rfl #[.slice none 0 0, .string (⟨#[97]⟩ : ByteArray), .agg #[.int .i64 0, .int .i64 0, .int .i64 0]] rfl (by (try simp only [List.map_toArray, List.map_cons, List.map_nil]);first|done|rfl|(simp only [List.length_drop, List.length_take];rfl)) ?_;(refine (admit_Admit.calls k _ _ ([] : List (S31)) (⟨#[97]⟩ : ByteArray) 0 0 0 t1 t4 _ ?side1 ?side2 A1.out).mono ?_);(case side1 => exact Kd.C_nil _ _);(case side2 => exact Nat.le_refl _);rintro e w16 ⟨v2, rfl, ho0, hb⟩;refine ⟨_, rfl, ?_⟩;have n0_ := Aside0.mk (Kd.R_lower ho0 (below_size (by repeat (first|(with_reducible first|exact HB.out|apply below_alloc|apply pw_below_drewN|apply below_drew1)|exact HB.out))));have n1_ := Aside0.mk (below_step (by repeat (first|(with_reducible first|exact HB.out|apply below_alloc|apply pw_below_drewN|apply below_drew1)|exact HB.out)) hb);clear HB;have HO3 := n0_;have HB := n1_;clear n0_ n1_;(try clear hb);(try clear hb2);(try clear hk);(try clear hi);(try clear ho0))|((with_reducible refine gate_dst (N := 13) rfl ?_);(try (refine gate_guard (by rfl) ?_;dsimp only));refine Kd.R_lit k31 _ 31 ?hg (N := 13) ?hd (xs := ([(⟨(⟨#[97]⟩ : ByteArray), (⟨#[]⟩ : ByteArray), (⟨5, 0, 0⟩ : S27), (⟨0, 0, 0⟩ : S27), (⟨0, 0, 0⟩ : S27), 1⟩ : S31)] : List (S31))) (inner := [.string (⟨#[97]⟩ : ByteArray), .string (⟨#[]⟩ : ByteArray), .int .i64 5, .int .i64 0, .int .i64 0, .int .i64 0, .int .i64 0, .int .i64 0, .int .i64 0, .int .i64 0, .int .i64 0, .int .i64 1]) (ok := fun _ => True) (okp := fun _ => True) ?hr ?hp (fun _ hk => hk) trivial (Below.refl _ _) (Nat.le_refl _) (by simp) ?_;(case hd => rfl);(case hg => rfl);(case hr => first|(go_simp;done)|(go_simp;rfl));(case hp => exact (Reps.front (show Kd.M k31 _ _ _ (⟨(⟨#[97]⟩ : ByteArray), (⟨#[]⟩ : ByteArray), (⟨5, 0, 0⟩ : S27), (⟨0, 0, 0⟩ : S27), (⟨0, 0, 0⟩ : S27), 1⟩ : S31) [.string (⟨#[97]⟩ : ByteArray), .string (⟨#[]⟩ : ByteArray), .int .i64 5, .int .i64 0, .int .i64 0, .int .i64 0, .int .i64 0, .int .i64 0, .int .i64 0, .int .i64 0, .int .i64 0, .int .i64 1] from (k31_mkM _ _ _ (⟨(⟨#[97]⟩ : ByteArray), (⟨#[]⟩ : ByteArray), (⟨5, 0, 0⟩ : S27), (⟨0, 0, 0⟩ : S27), (⟨0, 0, 0⟩ : S27), 1⟩ : S31) )) rfl (Reps.none _ _) rfl));intro v6 w17 ho18 hb hg_ hnew_;clear hg_ hnew_;(first|rw [← Ny5.out] at ho18|(simp only [Int.reduceToNat] at ho18;rw [← Ny5.out] at ho18));have n0_ := Aside0.mk (Kd.R_elder' (by (with_reducible repeat (first|apply Kd.R_alloc|apply Kd.R_drewN|apply Kd.R_drew));exact HO3.out) (Kd.R_base ho18) hb);have n1_ := Aside0.mk (Kd.R_lower (Kd.R_new' ho18 (Kd.R_lt (by (with_reducible repeat (first|apply Kd.R_alloc|apply Kd.R_drewN|apply Kd.R_drew));exact HO3.out))) (below_size (by repeat (first|(with_reducible first|exact HB.out|apply below_alloc|apply pw_below_drewN|apply below_drew1)|exact HB.out))));have n2_ := Aside0.mk (below_step (by repeat (first|(with_reducible first|exact HB.out|apply below_alloc|apply pw_below_drewN|apply below_drew1)|exact HB.out)) hb);clear HO3;clear HB;have HO3 := n0_;have HO7 := n1_;have HB := n2_;clear n0_ n1_ n2_;clear hb ho18;obtain ⟨Ao19, co19, eo19⟩ := Kd.R_slice HO7.out;subst eo19)|((with_reducible refine gate_callee (f := 60) rfl ?_);refine goesL_ (some 15) rfl rfl Try.func60 (by kernel_rfl) rfl #[.slice Ao19 y5.length co19, .string (⟨#[97]⟩ : ByteArray), .agg #[.int .i64 3, .int .i64 0, .int .i64 0]] rfl (by (try simp only [List.map_toArray, List.map_cons, List.map_nil]);first|done|rfl|(simp only [List.length_drop, List.length_take];rfl)) ?_;(with_reducible refine (admit_Admit.calls k _ _ y5 (⟨#[97]⟩ : ByteArray) 3 0 0 t8 t11 _ ?side1 ?side2 A2.out).mono ?_);(case side1 => repeat (first|exact (Kd.R_reads' HO7.out).2.2|(with_reducible refine Kd.C_alloc ?_ _)|(with_reducible refine Kd.C_drewN ?_ _)|(with_reducible refine Kd.C_drew ?_)));(case side2 => exact (Kd.R_reads' HO7.out).2.1);rintro e w20 ⟨v9, rfl, ho0, hb⟩;refine ⟨_, rfl, ?_⟩;have n0_ := Aside0.mk (Kd.R_elder' (by (with_reducible repeat (first|apply Kd.R_alloc|apply Kd.R_drewN|apply Kd.R_drew));exact HO3.out) (Kd.R_base ho0) hb);have n1_ := Aside0.mk (Kd.R_elder' (by (with_reducible repeat (first|apply Kd.R_alloc|apply Kd.R_drewN|apply Kd.R_drew));exact HO7.out) (Kd.R_base ho0) hb);have n2_ := Aside0.mk (Kd.R_lower (Kd.R_new' (Kd.R_new' ho0 (Kd.R_lt (by (with_reducible repeat (first|apply Kd.R_alloc|apply Kd.R_drewN|apply Kd.R_drew));exact HO3.out))) (Kd.R_lt (by (with_reducible repeat (first|apply Kd.R_alloc|apply Kd.R_drewN|apply Kd.R_drew));exact HO7.out))) (below_size (by repeat (first|(with_reducible first|exact HB.out|apply below_alloc|apply pw_below_drewN|apply below_drew1)|exact HB.out))));have n3_ := Aside0.mk (below_step (by repeat (first|(with_reducible first|exact HB.out|apply below_alloc|apply pw_below_drewN|apply below_drew1)|exact HB.out)) hb);clear HO3;clear HO7;clear HB;have HO3 := n0_;have HO7 := n1_;have HO10 := n2_;have HB := n3_;clear n0_ n1_ n2_ n3_;(try clear hb);(try clear hb2);(try clear hk);(try clear hi);(try clear ho0))|((with_reducible refine gate_callee (f := 61) rfl ?_);refine goesL_ (some 19) rfl rfl Try.func61 (by kernel_rfl) rfl #[.int .i64 t4] rfl (by (try simp only [List.map_toArray, List.map_cons, List.map_nil]);first|done|rfl|(simp only [List.length_drop, List.length_take];rfl)) ?_;(with_reducible refine (law1_Num.calls t4 t12 _ A3.out).mono ?_);rintro e w' ⟨rfl, ⟨nd, rfl⟩⟩;refine ⟨_, rfl, ?_⟩)|(go_at_call 61;(with_reducible refine (law1_Num.calls t11 t13 _ A5.out).mono ?_);rintro e w' ⟨rfl, ⟨nd, rfl⟩⟩;obtain ⟨Ao21, co21, eo21⟩ := Kd.R_slice HO10.out;subst eo21;have p14 : 0 ≤ (0 : Int) := (by omega);have q14 : 0 < (t8.length : Int) := of_decide_eq_true (by first|(with_reducible assumption)|assumption);obtain ⟨ad14, e14, hx14_0, hx14_1, hx14_2, hx14_3, hx14_4, hx14_5, hx14_6, hx14_7, hx14_8, hx14_9, hx14_10, hx14_11⟩ := at_T31 (Kd.R_reads' HO10.out).2.2 0 p14 q14;cases e14;have qi14 : (0 < t8.length) = True := eq_true (by omega);(try rw [show ((0 : Int)).toNat = 0 from rfl] at hx14_0);(try rw [show 0 * 12 = 0 from rfl] at hx14_0);(try rw [Addr.add_zero'] at hx14_0);(try rw [show ((0 : Int)).toNat = 0 from rfl] at hx14_1);(try rw [show 0 * 12 = 0 from rfl] at hx14_1);(try rw [Addr.add_zero'] at hx14_1);(try rw [show ((0 : Int)).toNat = 0 from rfl] at hx14_2);(try rw [show 0 * 12 = 0 from rfl] at hx14_2);(try rw [Addr.add_zero'] at hx14_2);(try rw [show ((0 : Int)).toNat = 0 from rfl] at hx14_3);(try rw [show 0 * 12 = 0 from rfl] at hx14_3);(try rw [Addr.add_zero'] at hx14_3);(try rw [show ((0 : Int)).toNat = 0 from rfl] at hx14_4);(try rw [show 0 * 12 = 0 from rfl] at hx14_4);(try rw [Addr.add_zero'] at hx14_4);(try rw [show ((0 : Int)).toNat = 0 from rfl] at hx14_5);(try rw [show 0 * 12 = 0 from rfl] at hx14_5);(try rw [Addr.add_zero'] at hx14_5);(try rw [show ((0 : Int)).toNat = 0 from rfl] at hx14_6);(try rw [show 0 * 12 = 0 from rfl] at hx14_6);(try rw [Addr.add_zero'] at hx14_6);(try rw [show ((0 : Int)).toNat = 0 from rfl] at hx14_7);(try rw [show 0 * 12 = 0 from rfl] at hx14_7);(try rw [Addr.add_zero'] at hx14_7);(try rw [show ((0 : Int)).toNat = 0 from rfl] at hx14_8);(try rw [show 0 * 12 = 0 from rfl] at hx14_8);(try rw [Addr.add_zero'] at hx14_8);(try rw [show ((0 : Int)).toNat = 0 from rfl] at hx14_9);(try rw [show 0 * 12 = 0 from rfl] at hx14_9);(try rw [Addr.add_zero'] at hx14_9);(try rw [show ((0 : Int)).toNat = 0 from rfl] at hx14_10);(try rw [show 0 * 12 = 0 from rfl] at hx14_10);(try rw [Addr.add_zero'] at hx14_10);(try rw [show ((0 : Int)).toNat = 0 from rfl] at hx14_11);(try rw [show 0 * 12 = 0 from rfl] at hx14_11);(try rw [Addr.add_zero'] at hx14_11);replace p14 := eq_true p14;replace q14 := eq_true q14))
      go_ret
      exact ⟨by first|rfl|(simp [errW_none, errW_some] <;> rfl)|(simp [*, errW_none, errW_some] <;> rfl), by repeat (first|(with_reducible first|exact HB.out|apply below_alloc|apply pw_below_drewN|apply below_drew1)|exact HB.out)⟩
    ·rw [if_neg c8] at H
     exact absurd H (by simp)
   ·rw [if_neg c7] at H
    have c7b0 : ((t8.length : Int) == 1) = false := beq_eq_false_iff_ne.mpr c7
    have c7b1 : ((t8.length : Int) != 1) = true := bne_iff_ne.mpr c7
    obtain rfl := Option.some.inj H
    go_enter Try.func59, Try.ntmps59
    go_wp2_with (first|((with_reducible refine gate_callee (f := 60) rfl ?_);refine goesL_ (some 7) rfl rfl Try.func60 (by kernel_rfl) rfl #[.slice none 0 0, .string (⟨#[97]⟩ : ByteArray), .agg #[.int .i64 0, .int .i64 0, .int .i64 0]] rfl (by (try simp only [List.map_toArray, List.map_cons, List.map_nil]);first|done|rfl|(simp only [List.length_drop, List.length_take];rfl)) ?_;(refine (admit_Admit.calls k _ _ ([] : List (S31)) (⟨#[97]⟩ : ByteArray) 0 0 0 t1 t4 _ ?side1 ?side2 A1.out).mono ?_);(case side1 => exact Kd.C_nil _ _);(case side2 => exact Nat.le_refl _);rintro e w22 ⟨v2, rfl, ho0, hb⟩;refine ⟨_, rfl, ?_⟩;have n0_ := Aside0.mk (Kd.R_lower ho0 (below_size (by repeat (first|(with_reducible first|exact HB.out|apply below_alloc|apply pw_below_drewN|apply below_drew1)|exact HB.out))));have n1_ := Aside0.mk (below_step (by repeat (first|(with_reducible first|exact HB.out|apply below_alloc|apply pw_below_drewN|apply below_drew1)|exact HB.out)) hb);clear HB;have HO3 := n0_;have HB := n1_;clear n0_ n1_;(try clear hb);(try clear hb2);(try clear hk);(try clear hi);(try clear ho0))|((with_reducible refine gate_dst (N := 13) rfl ?_);(try (refine gate_guard (by rfl) ?_;dsimp only));refine Kd.R_lit k31 _ 31 ?hg (N := 13) ?hd (xs := ([(⟨(⟨#[97]⟩ : ByteArray), (⟨#[]⟩ : ByteArray), (⟨5, 0, 0⟩ : S27), (⟨0, 0, 0⟩ : S27), (⟨0, 0, 0⟩ : S27), 1⟩ : S31)] : List (S31))) (inner := [.string (⟨#[97]⟩ : ByteArray), .string (⟨#[]⟩ : ByteArray), .int .i64 5, .int .i64 0, .int .i64 0, .int .i64 0, .int .i64 0, .int .i64 0, .int .i64 0, .int .i64 0, .int .i64 0, .int .i64 1]) (ok := fun _ => True) (okp := fun _ => True) ?hr ?hp (fun _ hk => hk) trivial (Below.refl _ _) (Nat.le_refl _) (by simp) ?_;(case hd => rfl);(case hg => rfl);(case hr => first|(go_simp;done)|(go_simp;rfl));(case hp => exact (Reps.front (show Kd.M k31 _ _ _ (⟨(⟨#[97]⟩ : ByteArray), (⟨#[]⟩ : ByteArray), (⟨5, 0, 0⟩ : S27), (⟨0, 0, 0⟩ : S27), (⟨0, 0, 0⟩ : S27), 1⟩ : S31) [.string (⟨#[97]⟩ : ByteArray), .string (⟨#[]⟩ : ByteArray), .int .i64 5, .int .i64 0, .int .i64 0, .int .i64 0, .int .i64 0, .int .i64 0, .int .i64 0, .int .i64 0, .int .i64 0, .int .i64 1] from (k31_mkM _ _ _ (⟨(⟨#[97]⟩ : ByteArray), (⟨#[]⟩ : ByteArray), (⟨5, 0, 0⟩ : S27), (⟨0, 0, 0⟩ : S27), (⟨0, 0, 0⟩ : S27), 1⟩ : S31) )) rfl (Reps.none _ _) rfl));intro v6 w23 ho24 hb hg_ hnew_;clear hg_ hnew_;(first|rw [← Ny5.out] at ho24|(simp only [Int.reduceToNat] at ho24;rw [← Ny5.out] at ho24));have n0_ := Aside0.mk (Kd.R_elder' (by (with_reducible repeat (first|apply Kd.R_alloc|apply Kd.R_drewN|apply Kd.R_drew));exact HO3.out) (Kd.R_base ho24) hb);have n1_ := Aside0.mk (Kd.R_lower (Kd.R_new' ho24 (Kd.R_lt (by (with_reducible repeat (first|apply Kd.R_alloc|apply Kd.R_drewN|apply Kd.R_drew));exact HO3.out))) (below_size (by repeat (first|(with_reducible first|exact HB.out|apply below_alloc|apply pw_below_drewN|apply below_drew1)|exact HB.out))));have n2_ := Aside0.mk (below_step (by repeat (first|(with_reducible first|exact HB.out|apply below_alloc|apply pw_below_drewN|apply below_drew1)|exact HB.out)) hb);clear HO3;clear HB;have HO3 := n0_;have HO7 := n1_;have HB := n2_;clear n0_ n1_ n2_;clear hb ho24;obtain ⟨Ao25, co25, eo25⟩ := Kd.R_slice HO7.out;subst eo25)|((with_reducible refine gate_callee (f := 60) rfl ?_);refine goesL_ (some 15) rfl rfl Try.func60 (by kernel_rfl) rfl #[.slice Ao25 y5.length co25, .string (⟨#[97]⟩ : ByteArray), .agg #[.int .i64 3, .int .i64 0, .int .i64 0]] rfl (by (try simp only [List.map_toArray, List.map_cons, List.map_nil]);first|done|rfl|(simp only [List.length_drop, List.length_take];rfl)) ?_;(with_reducible refine (admit_Admit.calls k _ _ y5 (⟨#[97]⟩ : ByteArray) 3 0 0 t8 t11 _ ?side1 ?side2 A2.out).mono ?_);(case side1 => repeat (first|exact (Kd.R_reads' HO7.out).2.2|(with_reducible refine Kd.C_alloc ?_ _)|(with_reducible refine Kd.C_drewN ?_ _)|(with_reducible refine Kd.C_drew ?_)));(case side2 => exact (Kd.R_reads' HO7.out).2.1);rintro e w26 ⟨v9, rfl, ho0, hb⟩;refine ⟨_, rfl, ?_⟩;have n0_ := Aside0.mk (Kd.R_elder' (by (with_reducible repeat (first|apply Kd.R_alloc|apply Kd.R_drewN|apply Kd.R_drew));exact HO3.out) (Kd.R_base ho0) hb);have n1_ := Aside0.mk (Kd.R_elder' (by (with_reducible repeat (first|apply Kd.R_alloc|apply Kd.R_drewN|apply Kd.R_drew));exact HO7.out) (Kd.R_base ho0) hb);have n2_ := Aside0.mk (Kd.R_lower (Kd.R_new' (Kd.R_new' ho0 (Kd.R_lt (by (with_reducible repeat (first|apply Kd.R_alloc|apply Kd.R_drewN|apply Kd.R_drew));exact HO3.out))) (Kd.R_lt (by (with_reducible repeat (first|apply Kd.R_alloc|apply Kd.R_drewN|apply Kd.R_drew));exact HO7.out))) (below_size (by repeat (first|(with_reducible first|exact HB.out|apply below_alloc|apply pw_below_drewN|apply below_drew1)|exact HB.out))));have n3_ := Aside0.mk (below_step (by repeat (first|(with_reducible first|exact HB.out|apply below_alloc|apply pw_below_drewN|apply below_drew1)|exact HB.out)) hb);clear HO3;clear HO7;clear HB;have HO3 := n0_;have HO7 := n1_;have HO10 := n2_;have HB := n3_;clear n0_ n1_ n2_ n3_;(try clear hb);(try clear hb2);(try clear hk);(try clear hi);(try clear ho0))|((with_reducible refine gate_callee (f := 61) rfl ?_);refine goesL_ (some 19) rfl rfl Try.func61 (by kernel_rfl) rfl #[.int .i64 t4] rfl (by (try simp only [List.map_toArray, List.map_cons, List.map_nil]);first|done|rfl|(simp only [List.length_drop, List.length_take];rfl)) ?_;(with_reducible refine (law1_Num.calls t4 t12 _ A3.out).mono ?_);rintro e w' ⟨rfl, ⟨nd, rfl⟩⟩;refine ⟨_, rfl, ?_⟩)|(go_at_call 61;(with_reducible refine (law1_Num.calls t11 t13 _ A5.out).mono ?_);rintro e w' ⟨rfl, ⟨nd, rfl⟩⟩;obtain ⟨Ao27, co27, eo27⟩ := Kd.R_slice HO10.out;subst eo27))
    go_ret
    exact ⟨by first|rfl|(simp [errW_none, errW_some] <;> rfl)|(simp [*, errW_none, errW_some] <;> rfl), by repeat (first|(with_reducible first|exact HB.out|apply below_alloc|apply pw_below_drewN|apply below_drew1)|exact HB.out)⟩
  ·rw [if_neg c6] at H
   have c6b0 : (t13 == 0) = false := beq_eq_false_iff_ne.mpr c6
   have c6b1 : (t13 != 0) = true := bne_iff_ne.mpr c6
   obtain rfl := Option.some.inj H
   go_enter Try.func59, Try.ntmps59
   go_wp2_with (first|((with_reducible refine gate_callee (f := 60) rfl ?_);refine goesL_ (some 7) rfl rfl Try.func60 (by kernel_rfl) rfl #[.slice none 0 0, .string (⟨#[97]⟩ : ByteArray), .agg #[.int .i64 0, .int .i64 0, .int .i64 0]] rfl (by (try simp only [List.map_toArray, List.map_cons, List.map_nil]);first|done|rfl|(simp only [List.length_drop, List.length_take];rfl)) ?_;(refine (admit_Admit.calls k _ _ ([] : List (S31)) (⟨#[97]⟩ : ByteArray) 0 0 0 t1 t4 _ ?side1 ?side2 A1.out).mono ?_);(case side1 => exact Kd.C_nil _ _);(case side2 => exact Nat.le_refl _);rintro e w28 ⟨v2, rfl, ho0, hb⟩;refine ⟨_, rfl, ?_⟩;have n0_ := Aside0.mk (Kd.R_lower ho0 (below_size (by repeat (first|(with_reducible first|exact HB.out|apply below_alloc|apply pw_below_drewN|apply below_drew1)|exact HB.out))));have n1_ := Aside0.mk (below_step (by repeat (first|(with_reducible first|exact HB.out|apply below_alloc|apply pw_below_drewN|apply below_drew1)|exact HB.out)) hb);clear HB;have HO3 := n0_;have HB := n1_;clear n0_ n1_;(try clear hb);(try clear hb2);(try clear hk);(try clear hi);(try clear ho0))|((with_reducible refine gate_dst (N := 13) rfl ?_);(try (refine gate_guard (by rfl) ?_;dsimp only));refine Kd.R_lit k31 _ 31 ?hg (N := 13) ?hd (xs := ([(⟨(⟨#[97]⟩ : ByteArray), (⟨#[]⟩ : ByteArray), (⟨5, 0, 0⟩ : S27), (⟨0, 0, 0⟩ : S27), (⟨0, 0, 0⟩ : S27), 1⟩ : S31)] : List (S31))) (inner := [.string (⟨#[97]⟩ : ByteArray), .string (⟨#[]⟩ : ByteArray), .int .i64 5, .int .i64 0, .int .i64 0, .int .i64 0, .int .i64 0, .int .i64 0, .int .i64 0, .int .i64 0, .int .i64 0, .int .i64 1]) (ok := fun _ => True) (okp := fun _ => True) ?hr ?hp (fun _ hk => hk) trivial (Below.refl _ _) (Nat.le_refl _) (by simp) ?_;(case hd => rfl);(case hg => rfl);(case hr => first|(go_simp;done)|(go_simp;rfl));(case hp => exact (Reps.front (show Kd.M k31 _ _ _ (⟨(⟨#[97]⟩ : ByteArray), (⟨#[]⟩ : ByteArray), (⟨5, 0, 0⟩ : S27), (⟨0, 0, 0⟩ : S27), (⟨0, 0, 0⟩ : S27), 1⟩ : S31) [.string (⟨#[97]⟩ : ByteArray), .string (⟨#[]⟩ : ByteArray), .int .i64 5, .int .i64 0, .int .i64 0, .int .i64 0, .int .i64 0, .int .i64 0, .int .i64 0, .int .i64 0, .int .i64 0, .int .i64 1] from (k31_mkM _ _ _ (⟨(⟨#[97]⟩ : ByteArray), (⟨#[]⟩ : ByteArray), (⟨5, 0, 0⟩ : S27), (⟨0, 0, 0⟩ : S27), (⟨0, 0, 0⟩ : S27), 1⟩ : S31) )) rfl (Reps.none _ _) rfl));intro v6 w29 ho30 hb hg_ hnew_;clear hg_ hnew_;(first|rw [← Ny5.out] at ho30|(simp only [Int.reduceToNat] at ho30;rw [← Ny5.out] at ho30));have n0_ := Aside0.mk (Kd.R_elder' (by (with_reducible repeat (first|apply Kd.R_alloc|apply Kd.R_drewN|apply Kd.R_drew));exact HO3.out) (Kd.R_base ho30) hb);have n1_ := Aside0.mk (Kd.R_lower (Kd.R_new' ho30 (Kd.R_lt (by (with_reducible repeat (first|apply Kd.R_alloc|apply Kd.R_drewN|apply Kd.R_drew));exact HO3.out))) (below_size (by repeat (first|(with_reducible first|exact HB.out|apply below_alloc|apply pw_below_drewN|apply below_drew1)|exact HB.out))));have n2_ := Aside0.mk (below_step (by repeat (first|(with_reducible first|exact HB.out|apply below_alloc|apply pw_below_drewN|apply below_drew1)|exact HB.out)) hb);clear HO3;clear HB;have HO3 := n0_;have HO7 := n1_;have HB := n2_;clear n0_ n1_ n2_;clear hb ho30;obtain ⟨Ao31, co31, eo31⟩ := Kd.R_slice HO7.out;subst eo31)|((with_reducible refine gate_callee (f := 60) rfl ?_);refine goesL_ (some 15) rfl rfl Try.func60 (by kernel_rfl) rfl #[.slice Ao31 y5.length co31, .string (⟨#[97]⟩ : ByteArray), .agg #[.int .i64 3, .int .i64 0, .int .i64 0]] rfl (by (try simp only [List.map_toArray, List.map_cons, List.map_nil]);first|done|rfl|(simp only [List.length_drop, List.length_take];rfl)) ?_;(with_reducible refine (admit_Admit.calls k _ _ y5 (⟨#[97]⟩ : ByteArray) 3 0 0 t8 t11 _ ?side1 ?side2 A2.out).mono ?_);(case side1 => repeat (first|exact (Kd.R_reads' HO7.out).2.2|(with_reducible refine Kd.C_alloc ?_ _)|(with_reducible refine Kd.C_drewN ?_ _)|(with_reducible refine Kd.C_drew ?_)));(case side2 => exact (Kd.R_reads' HO7.out).2.1);rintro e w32 ⟨v9, rfl, ho0, hb⟩;refine ⟨_, rfl, ?_⟩;have n0_ := Aside0.mk (Kd.R_elder' (by (with_reducible repeat (first|apply Kd.R_alloc|apply Kd.R_drewN|apply Kd.R_drew));exact HO3.out) (Kd.R_base ho0) hb);have n1_ := Aside0.mk (Kd.R_elder' (by (with_reducible repeat (first|apply Kd.R_alloc|apply Kd.R_drewN|apply Kd.R_drew));exact HO7.out) (Kd.R_base ho0) hb);have n2_ := Aside0.mk (Kd.R_lower (Kd.R_new' (Kd.R_new' ho0 (Kd.R_lt (by (with_reducible repeat (first|apply Kd.R_alloc|apply Kd.R_drewN|apply Kd.R_drew));exact HO3.out))) (Kd.R_lt (by (with_reducible repeat (first|apply Kd.R_alloc|apply Kd.R_drewN|apply Kd.R_drew));exact HO7.out))) (below_size (by repeat (first|(with_reducible first|exact HB.out|apply below_alloc|apply pw_below_drewN|apply below_drew1)|exact HB.out))));have n3_ := Aside0.mk (below_step (by repeat (first|(with_reducible first|exact HB.out|apply below_alloc|apply pw_below_drewN|apply below_drew1)|exact HB.out)) hb);clear HO3;clear HO7;clear HB;have HO3 := n0_;have HO7 := n1_;have HO10 := n2_;have HB := n3_;clear n0_ n1_ n2_ n3_;(try clear hb);(try clear hb2);(try clear hk);(try clear hi);(try clear ho0))|((with_reducible refine gate_callee (f := 61) rfl ?_);refine goesL_ (some 19) rfl rfl Try.func61 (by kernel_rfl) rfl #[.int .i64 t4] rfl (by (try simp only [List.map_toArray, List.map_cons, List.map_nil]);first|done|rfl|(simp only [List.length_drop, List.length_take];rfl)) ?_;(with_reducible refine (law1_Num.calls t4 t12 _ A3.out).mono ?_);rintro e w' ⟨rfl, ⟨nd, rfl⟩⟩;refine ⟨_, rfl, ?_⟩)|(go_at_call 61;(with_reducible refine (law1_Num.calls t11 t13 _ A5.out).mono ?_);rintro e w' ⟨rfl, ⟨nd, rfl⟩⟩))
   go_ret
   exact ⟨by first|rfl|(simp [errW_none, errW_some] <;> rfl)|(simp [*, errW_none, errW_some] <;> rfl), by repeat (first|(with_reducible first|exact HB.out|apply below_alloc|apply pw_below_drewN|apply below_drew1)|exact HB.out)⟩
 ·rw [if_neg c4] at H
  have c4b0 : (t12 == 2) = false := beq_eq_false_iff_ne.mpr c4
  have c4b1 : (t12 != 2) = true := bne_iff_ne.mpr c4
  obtain rfl := Option.some.inj H
  go_enter Try.func59, Try.ntmps59
  go_wp2_with (first|((with_reducible refine gate_callee (f := 60) rfl ?_);refine goesL_ (some 7) rfl rfl Try.func60 (by kernel_rfl) rfl #[.slice none 0 0, .string (⟨#[97]⟩ : ByteArray), .agg #[.int .i64 0, .int .i64 0, .int .i64 0]] rfl (by (try simp only [List.map_toArray, List.map_cons, List.map_nil]);first|done|rfl|(simp only [List.length_drop, List.length_take];rfl)) ?_;(refine (admit_Admit.calls k _ _ ([] : List (S31)) (⟨#[97]⟩ : ByteArray) 0 0 0 t1 t4 _ ?side1 ?side2 A1.out).mono ?_);(case side1 => exact Kd.C_nil _ _);(case side2 => exact Nat.le_refl _);rintro e w33 ⟨v2, rfl, ho0, hb⟩;refine ⟨_, rfl, ?_⟩;have n0_ := Aside0.mk (Kd.R_lower ho0 (below_size (by repeat (first|(with_reducible first|exact HB.out|apply below_alloc|apply pw_below_drewN|apply below_drew1)|exact HB.out))));have n1_ := Aside0.mk (below_step (by repeat (first|(with_reducible first|exact HB.out|apply below_alloc|apply pw_below_drewN|apply below_drew1)|exact HB.out)) hb);clear HB;have HO3 := n0_;have HB := n1_;clear n0_ n1_;(try clear hb);(try clear hb2);(try clear hk);(try clear hi);(try clear ho0))|((with_reducible refine gate_dst (N := 13) rfl ?_);(try (refine gate_guard (by rfl) ?_;dsimp only));refine Kd.R_lit k31 _ 31 ?hg (N := 13) ?hd (xs := ([(⟨(⟨#[97]⟩ : ByteArray), (⟨#[]⟩ : ByteArray), (⟨5, 0, 0⟩ : S27), (⟨0, 0, 0⟩ : S27), (⟨0, 0, 0⟩ : S27), 1⟩ : S31)] : List (S31))) (inner := [.string (⟨#[97]⟩ : ByteArray), .string (⟨#[]⟩ : ByteArray), .int .i64 5, .int .i64 0, .int .i64 0, .int .i64 0, .int .i64 0, .int .i64 0, .int .i64 0, .int .i64 0, .int .i64 0, .int .i64 1]) (ok := fun _ => True) (okp := fun _ => True) ?hr ?hp (fun _ hk => hk) trivial (Below.refl _ _) (Nat.le_refl _) (by simp) ?_;(case hd => rfl);(case hg => rfl);(case hr => first|(go_simp;done)|(go_simp;rfl));(case hp => exact (Reps.front (show Kd.M k31 _ _ _ (⟨(⟨#[97]⟩ : ByteArray), (⟨#[]⟩ : ByteArray), (⟨5, 0, 0⟩ : S27), (⟨0, 0, 0⟩ : S27), (⟨0, 0, 0⟩ : S27), 1⟩ : S31) [.string (⟨#[97]⟩ : ByteArray), .string (⟨#[]⟩ : ByteArray), .int .i64 5, .int .i64 0, .int .i64 0, .int .i64 0, .int .i64 0, .int .i64 0, .int .i64 0, .int .i64 0, .int .i64 0, .int .i64 1] from (k31_mkM _ _ _ (⟨(⟨#[97]⟩ : ByteArray), (⟨#[]⟩ : ByteArray), (⟨5, 0, 0⟩ : S27), (⟨0, 0, 0⟩ : S27), (⟨0, 0, 0⟩ : S27), 1⟩ : S31) )) rfl (Reps.none _ _) rfl));intro v6 w34 ho35 hb hg_ hnew_;clear hg_ hnew_;(first|rw [← Ny5.out] at ho35|(simp only [Int.reduceToNat] at ho35;rw [← Ny5.out] at ho35));have n0_ := Aside0.mk (Kd.R_elder' (by (with_reducible repeat (first|apply Kd.R_alloc|apply Kd.R_drewN|apply Kd.R_drew));exact HO3.out) (Kd.R_base ho35) hb);have n1_ := Aside0.mk (Kd.R_lower (Kd.R_new' ho35 (Kd.R_lt (by (with_reducible repeat (first|apply Kd.R_alloc|apply Kd.R_drewN|apply Kd.R_drew));exact HO3.out))) (below_size (by repeat (first|(with_reducible first|exact HB.out|apply below_alloc|apply pw_below_drewN|apply below_drew1)|exact HB.out))));have n2_ := Aside0.mk (below_step (by repeat (first|(with_reducible first|exact HB.out|apply below_alloc|apply pw_below_drewN|apply below_drew1)|exact HB.out)) hb);clear HO3;clear HB;have HO3 := n0_;have HO7 := n1_;have HB := n2_;clear n0_ n1_ n2_;clear hb ho35;obtain ⟨Ao36, co36, eo36⟩ := Kd.R_slice HO7.out;subst eo36)|((with_reducible refine gate_callee (f := 60) rfl ?_);refine goesL_ (some 15) rfl rfl Try.func60 (by kernel_rfl) rfl #[.slice Ao36 y5.length co36, .string (⟨#[97]⟩ : ByteArray), .agg #[.int .i64 3, .int .i64 0, .int .i64 0]] rfl (by (try simp only [List.map_toArray, List.map_cons, List.map_nil]);first|done|rfl|(simp only [List.length_drop, List.length_take];rfl)) ?_;(with_reducible refine (admit_Admit.calls k _ _ y5 (⟨#[97]⟩ : ByteArray) 3 0 0 t8 t11 _ ?side1 ?side2 A2.out).mono ?_);(case side1 => repeat (first|exact (Kd.R_reads' HO7.out).2.2|(with_reducible refine Kd.C_alloc ?_ _)|(with_reducible refine Kd.C_drewN ?_ _)|(with_reducible refine Kd.C_drew ?_)));(case side2 => exact (Kd.R_reads' HO7.out).2.1);rintro e w37 ⟨v9, rfl, ho0, hb⟩;refine ⟨_, rfl, ?_⟩;have n0_ := Aside0.mk (Kd.R_elder' (by (with_reducible repeat (first|apply Kd.R_alloc|apply Kd.R_drewN|apply Kd.R_drew));exact HO3.out) (Kd.R_base ho0) hb);have n1_ := Aside0.mk (Kd.R_elder' (by (with_reducible repeat (first|apply Kd.R_alloc|apply Kd.R_drewN|apply Kd.R_drew));exact HO7.out) (Kd.R_base ho0) hb);have n2_ := Aside0.mk (Kd.R_lower (Kd.R_new' (Kd.R_new' ho0 (Kd.R_lt (by (with_reducible repeat (first|apply Kd.R_alloc|apply Kd.R_drewN|apply Kd.R_drew));exact HO3.out))) (Kd.R_lt (by (with_reducible repeat (first|apply Kd.R_alloc|apply Kd.R_drewN|apply Kd.R_drew));exact HO7.out))) (below_size (by repeat (first|(with_reducible first|exact HB.out|apply below_alloc|apply pw_below_drewN|apply below_drew1)|exact HB.out))));have n3_ := Aside0.mk (below_step (by repeat (first|(with_reducible first|exact HB.out|apply below_alloc|apply pw_below_drewN|apply below_drew1)|exact HB.out)) hb);clear HO3;clear HO7;clear HB;have HO3 := n0_;have HO7 := n1_;have HO10 := n2_;have HB := n3_;clear n0_ n1_ n2_ n3_;(try clear hb);(try clear hb2);(try clear hk);(try clear hi);(try clear ho0))|((with_reducible refine gate_callee (f := 61) rfl ?_);refine goesL_ (some 19) rfl rfl Try.func61 (by kernel_rfl) rfl #[.int .i64 t4] rfl (by (try simp only [List.map_toArray, List.map_cons, List.map_nil]);first|done|rfl|(simp only [List.length_drop, List.length_take];rfl)) ?_;(with_reducible refine (law1_Num.calls t4 t12 _ A3.out).mono ?_);rintro e w' ⟨rfl, ⟨nd, rfl⟩⟩;refine ⟨_, rfl, ?_⟩))
  go_ret
  exact ⟨by first|rfl|(simp [errW_none, errW_some] <;> rfl)|(simp [*, errW_none, errW_some] <;> rfl), by repeat (first|(with_reducible first|exact HB.out|apply below_alloc|apply pw_below_drewN|apply below_drew1)|exact HB.out)⟩
end Go.Proofs.Ytcgefpklljclgaa.Print

namespace Go.Proofs.Ytcgefpklljclgaa.Print
open Go.RowKit Go.Proofs.YtcgefpklljclgaaW.PrintWords Go.Proofs.YtcgefpklljclgaaW.PrintLast Go.Proofs.YtcgefpklljclgaaW.PrintMore
attribute [local go_sem] max2_int min2_int max_two min_two max_three min_three max_four min_four   -- for this text's walks alone
set_option linter.unusedVariables false
set_option linter.unusedSimpArgs false
mutual
def law14_AdmitMade.j0 : Nat → List Int → List Int → Bool → Option (Bool)
 | 0, _, _, _ => none
 | k + 1, x0, x1, x20 => if x20 = true then ((law14_awake.f k).bind fun t1 => (some t1)) else ((law12_Make.f k x0).bind fun t2 => (law14_AdmitMade.l0 k x1 t2 0))
def law14_AdmitMade.l0 : Nat → List Int → List (S31) → Int → Option (Bool)
 | 0, _, _, _ => none
 | k + 1, x1, x5, x6 => if (wrap64 (x6 + 1)) < (x1.length : Int) then (if 0 ≤ x6 then (if x6 < (x1.length : Int) then ((some (([(97 + (Int.tmod (rd x1 x6) 26)) % 256] : List Int) : List Int)).bind fun y7 => (if 0 ≤ (wrap64 (x6 + 1)) then ((admit_Admit.f k x5 (strOfNums y7) (Int.tmod (wrap64 (Int.tdiv (wrap64 (rd x1 (wrap64 (x6 + 1)))) 2)) 40) (wrap64 (Int.tdiv (wrap64 (Int.tdiv (wrap64 (rd x1 (wrap64 (x6 + 1)))) 2)) 3)) (Int.tmod (wrap64 (Int.tdiv (wrap64 (rd x1 (wrap64 (x6 + 1)))) 2)) 7)).bind fun bt12 => ((r10_Admit.f k x5 (strOfNums y7) (Int.tmod (wrap64 (Int.tdiv (wrap64 (rd x1 (wrap64 (x6 + 1)))) 2)) 40) (wrap64 (Int.tdiv (wrap64 (Int.tdiv (wrap64 (rd x1 (wrap64 (x6 + 1)))) 2)) 3)) (Int.tmod (wrap64 (Int.tdiv (wrap64 (rd x1 (wrap64 (x6 + 1)))) 2)) 7)).bind fun bt16 => (if (Int.tmod (rd x1 (wrap64 (x6 + 1))) 2) > 0 then ((admit_Release.f k x5 (strOfNums y7) (Int.tmod (wrap64 (Int.tdiv (wrap64 (rd x1 (wrap64 (x6 + 1)))) 2)) 40) (wrap64 (Int.tdiv (wrap64 (Int.tdiv (wrap64 (rd x1 (wrap64 (x6 + 1)))) 2)) 3)) (Int.tmod (wrap64 (Int.tdiv (wrap64 (rd x1 (wrap64 (x6 + 1)))) 2)) 7)).bind fun bt22 => ((r10_Release.f k x5 (strOfNums y7) (Int.tmod (wrap64 (Int.tdiv (wrap64 (rd x1 (wrap64 (x6 + 1)))) 2)) 40) (wrap64 (Int.tdiv (wrap64 (Int.tdiv (wrap64 (rd x1 (wrap64 (x6 + 1)))) 2)) 3)) (Int.tmod (wrap64 (Int.tdiv (wrap64 (rd x1 (wrap64 (x6 + 1)))) 2)) 7)).bind fun bt26 => (law14_AdmitMade.j2 k x1 x5 x6 bt22.1 bt22.2 bt26.1 bt26.2))) else (law14_AdmitMade.j2 k x1 x5 x6 bt12.1 bt12.2 bt16.1 bt16.2)))) else (none))) else (none)) else (none)) else ((law14_awake.f k).bind fun t5 => (some t5))
def law14_AdmitMade.j2 : Nat → List Int → List (S31) → Int → List (S31) → Int → List (S31) → Int → Option (Bool)
 | 0, _, _, _, _, _, _, _ => none
 | k + 1, x1, x5, x6, x10, x11, x21000, x21001 => (r10_SameItems.f k x10 x21000).bind fun t30 => (if t30 = true then ((law1_Num.f x11).bind fun t31 => (if t31 = x21001 then (if x21001 = 0 then ((r10_Right.f k x10).bind fun t32 => (law14_AdmitMade.j3 k x1 x5 x6 (!t32) x21000 x21001)) else (law14_AdmitMade.j3 k x1 x5 x6 false x21000 x21001)) else (law14_AdmitMade.j3 k x1 x5 x6 true x21000 x21001))) else (law14_AdmitMade.j3 k x1 x5 x6 true x21000 x21001))
def law14_AdmitMade.j3 : Nat → List Int → List (S31) → Int → Bool → List (S31) → Int → Option (Bool)
 | 0, _, _, _, _, _, _ => none
 | k + 1, x1, x5, x6, x103, x21000, x21001 => if x103 = true then (some false) else (if x21001 = 0 then (law14_AdmitMade.l0 k x1 x21000 (wrap64 (x6 + 2))) else (law14_AdmitMade.l0 k x1 x5 (wrap64 (x6 + 2))))
end
def law14_AdmitMade.f (k : Nat) (l0 : List Int) (l1 : List Int) : Option (Bool) := if (l0.length : Int) > 90 then (law14_AdmitMade.j0 k l0 l1 true) else (law14_AdmitMade.j0 k l0 l1 (decide ((l1.length : Int) > 60)))
theorem law14_AdmitMade.mono_l : ∀ k, (∀ y0 y1 y2, LeO (law14_AdmitMade.j0 k y0 y1 y2) (law14_AdmitMade.j0 (k + 1) y0 y1 y2)) ∧ (∀ y0 y1 y2, LeO (law14_AdmitMade.l0 k y0 y1 y2) (law14_AdmitMade.l0 (k + 1) y0 y1 y2)) ∧ (∀ y0 y1 y2 y3 y4 y5 y6, LeO (law14_AdmitMade.j2 k y0 y1 y2 y3 y4 y5 y6) (law14_AdmitMade.j2 (k + 1) y0 y1 y2 y3 y4 y5 y6)) ∧ (∀ y0 y1 y2 y3 y4 y5, LeO (law14_AdmitMade.j3 k y0 y1 y2 y3 y4 y5) (law14_AdmitMade.j3 (k + 1) y0 y1 y2 y3 y4 y5))
 | 0 => ⟨fun _ _ _ r h => by simp [law14_AdmitMade.j0] at h, fun _ _ _ r h => by simp [law14_AdmitMade.l0] at h, fun _ _ _ _ _ _ _ r h => by simp [law14_AdmitMade.j2] at h, fun _ _ _ _ _ _ r h => by simp [law14_AdmitMade.j3] at h⟩
 | k + 1 => by
  obtain ⟨ih0, ih1, ih2, ih3⟩ := law14_AdmitMade.mono_l k
  refine ⟨?_, ?_, ?_, ?_⟩
  ·intro y0 y1 y2
   unfold law14_AdmitMade.j0
   repeat' first
   | (with_reducible exact ih0 _ _ _)
   | (with_reducible exact ih1 _ _ _)
   | (with_reducible exact ih2 _ _ _ _ _ _ _)
   | (with_reducible exact ih3 _ _ _ _ _ _)
   | (with_reducible exact admit_Admit.mono _ _ _ _ _ _)
   | (with_reducible exact admit_Release.mono _ _ _ _ _ _)
   | (with_reducible exact law12_Make.mono _ _)
   | (with_reducible exact law14_awake.mono _)
   | (with_reducible exact r10_Admit.mono _ _ _ _ _ _)
   | (with_reducible exact r10_Release.mono _ _ _ _ _ _)
   | (with_reducible exact r10_Right.mono _ _)
   | (with_reducible exact r10_SameItems.mono _ _ _)
   | (with_reducible exact LeO.refl _)
   | (with_reducible exact LeO.none _)
   | (with_reducible refine LeO.ite ?_ ?_)
   | (with_reducible refine LeO.bind ?_ (fun _ => ?_))
   | exact ih0 _ _ _
   | exact ih1 _ _ _
   | exact ih2 _ _ _ _ _ _ _
   | exact ih3 _ _ _ _ _ _
   | exact admit_Admit.mono _ _ _ _ _ _
   | exact admit_Release.mono _ _ _ _ _ _
   | exact law12_Make.mono _ _
   | exact law14_awake.mono _
   | exact r10_Admit.mono _ _ _ _ _ _
   | exact r10_Release.mono _ _ _ _ _ _
   | exact r10_Right.mono _ _
   | exact r10_SameItems.mono _ _ _
   | exact LeO.none _
   | refine LeO.ite ?_ ?_
   | refine LeO.bind ?_ (fun _ => ?_)
  ·intro y0 y1 y2
   unfold law14_AdmitMade.l0
   repeat' first
   | (with_reducible exact ih0 _ _ _)
   | (with_reducible exact ih1 _ _ _)
   | (with_reducible exact ih2 _ _ _ _ _ _ _)
   | (with_reducible exact ih3 _ _ _ _ _ _)
   | (with_reducible exact admit_Admit.mono _ _ _ _ _ _)
   | (with_reducible exact admit_Release.mono _ _ _ _ _ _)
   | (with_reducible exact law12_Make.mono _ _)
   | (with_reducible exact law14_awake.mono _)
   | (with_reducible exact r10_Admit.mono _ _ _ _ _ _)
   | (with_reducible exact r10_Release.mono _ _ _ _ _ _)
   | (with_reducible exact r10_Right.mono _ _)
   | (with_reducible exact r10_SameItems.mono _ _ _)
   | (with_reducible exact LeO.refl _)
   | (with_reducible exact LeO.none _)
   | (with_reducible refine LeO.ite ?_ ?_)
   | (with_reducible refine LeO.bind ?_ (fun _ => ?_))
   | exact ih0 _ _ _
   | exact ih1 _ _ _
   | exact ih2 _ _ _ _ _ _ _
   | exact ih3 _ _ _ _ _ _
   | exact admit_Admit.mono _ _ _ _ _ _
   | exact admit_Release.mono _ _ _ _ _ _
   | exact law12_Make.mono _ _
   | exact law14_awake.mono _
   | exact r10_Admit.mono _ _ _ _ _ _
   | exact r10_Release.mono _ _ _ _ _ _
   | exact r10_Right.mono _ _
   | exact r10_SameItems.mono _ _ _
   | exact LeO.none _
   | refine LeO.ite ?_ ?_
   | refine LeO.bind ?_ (fun _ => ?_)
  ·intro y0 y1 y2 y3 y4 y5 y6
   unfold law14_AdmitMade.j2
   repeat' first
   | (with_reducible exact ih0 _ _ _)
   | (with_reducible exact ih1 _ _ _)
   | (with_reducible exact ih2 _ _ _ _ _ _ _)
   | (with_reducible exact ih3 _ _ _ _ _ _)
   | (with_reducible exact admit_Admit.mono _ _ _ _ _ _)
   | (with_reducible exact admit_Release.mono _ _ _ _ _ _)
   | (with_reducible exact law12_Make.mono _ _)
   | (with_reducible exact law14_awake.mono _)
   | (with_reducible exact r10_Admit.mono _ _ _ _ _ _)
   | (with_reducible exact r10_Release.mono _ _ _ _ _ _)
   | (with_reducible exact r10_Right.mono _ _)
   | (with_reducible exact r10_SameItems.mono _ _ _)
   | (with_reducible exact LeO.refl _)
   | (with_reducible exact LeO.none _)
   | (with_reducible refine LeO.ite ?_ ?_)
   | (with_reducible refine LeO.bind ?_ (fun _ => ?_))
   | exact ih0 _ _ _
   | exact ih1 _ _ _
   | exact ih2 _ _ _ _ _ _ _
   | exact ih3 _ _ _ _ _ _
   | exact admit_Admit.mono _ _ _ _ _ _
   | exact admit_Release.mono _ _ _ _ _ _
   | exact law12_Make.mono _ _
   | exact law14_awake.mono _
   | exact r10_Admit.mono _ _ _ _ _ _
   | exact r10_Release.mono _ _ _ _ _ _
   | exact r10_Right.mono _ _
   | exact r10_SameItems.mono _ _ _
   | exact LeO.none _
   | refine LeO.ite ?_ ?_
   | refine LeO.bind ?_ (fun _ => ?_)
  ·intro y0 y1 y2 y3 y4 y5
   unfold law14_AdmitMade.j3
   repeat' first
   | (with_reducible exact ih0 _ _ _)
   | (with_reducible exact ih1 _ _ _)
   | (with_reducible exact ih2 _ _ _ _ _ _ _)
   | (with_reducible exact ih3 _ _ _ _ _ _)
   | (with_reducible exact admit_Admit.mono _ _ _ _ _ _)
   | (with_reducible exact admit_Release.mono _ _ _ _ _ _)
   | (with_reducible exact law12_Make.mono _ _)
   | (with_reducible exact law14_awake.mono _)
   | (with_reducible exact r10_Admit.mono _ _ _ _ _ _)
   | (with_reducible exact r10_Release.mono _ _ _ _ _ _)
   | (with_reducible exact r10_Right.mono _ _)
   | (with_reducible exact r10_SameItems.mono _ _ _)
   | (with_reducible exact LeO.refl _)
   | (with_reducible exact LeO.none _)
   | (with_reducible refine LeO.ite ?_ ?_)
   | (with_reducible refine LeO.bind ?_ (fun _ => ?_))
   | exact ih0 _ _ _
   | exact ih1 _ _ _
   | exact ih2 _ _ _ _ _ _ _
   | exact ih3 _ _ _ _ _ _
   | exact admit_Admit.mono _ _ _ _ _ _
   | exact admit_Release.mono _ _ _ _ _ _
   | exact law12_Make.mono _ _
   | exact law14_awake.mono _
   | exact r10_Admit.mono _ _ _ _ _ _
   | exact r10_Release.mono _ _ _ _ _ _
   | exact r10_Right.mono _ _
   | exact r10_SameItems.mono _ _ _
   | exact LeO.none _
   | refine LeO.ite ?_ ?_
   | refine LeO.bind ?_ (fun _ => ?_)
theorem law14_AdmitMade.mono : ∀ a0 a1 k, LeO (law14_AdmitMade.f k a0 a1) (law14_AdmitMade.f (k + 1) a0 a1) := by
 intro a0 a1 k
 obtain ⟨ih0, ih1, ih2, ih3⟩ := law14_AdmitMade.mono_l k
 unfold law14_AdmitMade.f
 repeat' first
   | (with_reducible exact ih0 _ _ _)
   | (with_reducible exact ih1 _ _ _)
   | (with_reducible exact ih2 _ _ _ _ _ _ _)
   | (with_reducible exact ih3 _ _ _ _ _ _)
   | (with_reducible exact admit_Admit.mono _ _ _ _ _ _)
   | (with_reducible exact admit_Release.mono _ _ _ _ _ _)
   | (with_reducible exact law12_Make.mono _ _)
   | (with_reducible exact law14_awake.mono _)
   | (with_reducible exact r10_Admit.mono _ _ _ _ _ _)
   | (with_reducible exact r10_Release.mono _ _ _ _ _ _)
   | (with_reducible exact r10_Right.mono _ _)
   | (with_reducible exact r10_SameItems.mono _ _ _)
   | (with_reducible exact LeO.refl _)
   | (with_reducible exact LeO.none _)
   | (with_reducible refine LeO.ite ?_ ?_)
   | (with_reducible refine LeO.bind ?_ (fun _ => ?_))
   | exact ih0 _ _ _
   | exact ih1 _ _ _
   | exact ih2 _ _ _ _ _ _ _
   | exact ih3 _ _ _ _ _ _
   | exact admit_Admit.mono _ _ _ _ _ _
   | exact admit_Release.mono _ _ _ _ _ _
   | exact law12_Make.mono _ _
   | exact law14_awake.mono _
   | exact r10_Admit.mono _ _ _ _ _ _
   | exact r10_Release.mono _ _ _ _ _ _
   | exact r10_Right.mono _ _
   | exact r10_SameItems.mono _ _ _
   | exact LeO.none _
   | refine LeO.ite ?_ ?_
   | refine LeO.bind ?_ (fun _ => ?_)
def law14_AdmitMade.T15 : Bool × List (List Nat × List Nat) := (true, [([], []), ([], []), ([1], [1]), ([0, 2], [0, 2]), ([3], [3]), ([4, 3], [4]), ([5], [5]), ([6, 5, 5], [5, 6]), ([5], [5]), ([8, 5], [5, 8]), ([7, 9, 5], [5, 7, 9]), ([5, 10], [5, 10]), ([11, 7], [11]), ([12], [12]), ([13, 12], [12, 13]), ([14, 12], [12, 14]), ([15, 12, 12], [12, 15]), ([16], [16]), ([17, 16, 16], [16, 17]), ([18, 16], [16, 18]), ([16, 19, 12], [12, 16, 19]), ([12, 20], [12, 20])])
def law14_AdmitMade.B15 : List Nat := [0, 0, 2, 7, 15, 31, 63, 127, 63, 319, 1023, 2047, 4095, 8191, 16383, 32767, 65535, 131071, 262143, 524287, 1048575, 2097151]
theorem law14_AdmitMade.tab15 : rtab .any (opsOf Try.f17 15) = law14_AdmitMade.T15 := by kernel_rfl
theorem law14_AdmitMade.bits15 : waitsOk law14_AdmitMade.T15.2 law14_AdmitMade.B15 = true := by kernel_rfl
set_option maxHeartbeats 8000000 in
set_option maxRecDepth 100000 in
theorem law14_AdmitMade.calls (k : Nat) (A0 : Option Addr) (c0 : Nat) (l0 : List Int) (A1 : Option Addr) (c1 : Nat) (l1 : List Int) (r : Bool) (w : World) (hr0 : Kd.C (Kd.int .u8) w A0 l0.length l0) (hc0 : l0.length ≤ c0) (hr1 : Kd.C (Kd.int .u8) w A1 l1.length l1) (hc1 : l1.length ≤ c1) (h : law14_AdmitMade.f k l0 l1 = some r) :
  Calls Try.prog 17 #[.slice A0 l0.length c0, .slice A1 l1.length c1] w fun e w' => e = .returned (.bool r) ∧ Below w.heap.size w w' := by
 have hu27 := Try.underlying27
 have hu67 := Try.underlying67
 have HR0 := Aside0.mk hr0
 have HC0 := Aside0.mk hc0
 clear hr0 hc0
 have HR1 := Aside0.mk hr1
 have HC1 := Aside0.mk hc1
 clear hr1 hc1
 have HB := Aside0.mk (Below.refl w.heap.size w)
 have H : (if (l0.length : Int) > 90 then (law14_AdmitMade.j0 k l0 l1 true) else (law14_AdmitMade.j0 k l0 l1 (decide ((l1.length : Int) > 60)))) = some r := h
 clear h
 have HC3 := Aside0.mk H
 clear H
 go_enter Try.func17, Try.ntmps17
 go_upto_region 1 with (fail)
 go_cut [20] (fun v20 wc => ∃ (kq : Nat) (x20_2 : Bool), v20 = .bool x20_2 ∧ Aside0 (law14_AdmitMade.j0 kq l0 l1 x20_2 = some r) ∧ Aside0 (kq ≤ k) ∧ Aside0 (Below w.heap.size w wc))
 case first =>
  have H := HC3.out
  clear HC3
  by_cases c4 : (l0.length : Int) > 90
  ·rw [if_pos c4] at H
   have c4b0 : decide (90 < (l0.length : Int)) = true := decide_eq_true c4
   have c4b1 : decide (90 < l0.length) = true := decide_eq_true (by omega)
   clear c4
   (first | rw [c4b0] | (simp only [i64_w, i32_w]; rw [c4b0]) | skip)
   have H' := Aside0.mk H
   clear H
   go_wp2
   go_meet
   case rel => exact ⟨_, (true), (by first|rfl|(simp;done)|(simp [*];done)), H', ⟨by first|omega|exact Nat.le_refl _⟩, ⟨by repeat (first|(with_reducible first|exact HB.out|apply below_alloc|apply pw_below_drewN|apply below_drew1)|exact HB.out)⟩⟩
  ·rw [if_neg c4] at H
   have c4b0 : decide (90 < (l0.length : Int)) = false := decide_eq_false c4
   have c4b1 : decide (90 < l0.length) = false := decide_eq_false (by omega)
   clear c4
   (first | rw [c4b0] | (simp only [i64_w, i32_w]; rw [c4b0]) | skip)
   have H' := Aside0.mk H
   clear H
   go_wp2
   go_meet
   case rel => exact ⟨_, (decide ((l1.length : Int) > 60)), (by first|rfl|(simp;done)|(simp [*];done)), H', ⟨by first|omega|exact Nat.le_refl _⟩, ⟨by repeat (first|(with_reducible first|exact HB.out|apply below_alloc|apply pw_below_drewN|apply below_drew1)|exact HB.out)⟩⟩
 case rest =>
  clear HC3
  try clear c1
  try clear p2
  try clear c4
  try clear c4b0
  try clear c4b1
  obtain ⟨kq, x20_2, rfl, HA, HJ2, HB⟩ := hcut
  cases kq with
  | zero => exact absurd HA.out (by simp [law14_AdmitMade.j0])
  | succ kj2 =>
   have H := HA.out
   clear HA
   simp only [law14_AdmitMade.j0] at H
   by_cases c5 : x20_2 = true
   ·subst c5
    have H1 : ((law14_awake.f kj2).bind fun t1 => (some t1)) = some r := by rw [if_pos rfl] at H; exact H
    clear H
    have H := H1
    clear H1
    replace H := Option.bind_eq_some_iff.mp H
    obtain ⟨t1, A60, H⟩ := H
    replace H : (some t1) = some r := H
    have A6 := Aside0.mk A60
    clear A60
    obtain rfl := Option.some.inj H
    go_wp2_with (first|((with_reducible refine gate_callee (f := 59) rfl ?_);refine goesL_ (some 21) rfl rfl Try.func59 (by kernel_rfl) rfl #[] rfl (by (try simp only [List.map_toArray, List.map_cons, List.map_nil]);first|done|rfl|(simp only [List.length_drop, List.length_take];rfl)) ?_;(with_reducible refine (law14_awake.calls kj2  t1 _ A6.out).mono ?_);rintro e w7 ⟨rfl, hb⟩;refine ⟨_, rfl, ?_⟩;have n0_ := Aside0.mk (below_step (by repeat (first|(with_reducible first|exact HB.out|apply below_alloc|apply pw_below_drewN|apply below_drew1)|exact HB.out)) hb);clear HB;have HB := n0_;clear n0_;(try clear hb);(try clear hb2);(try clear hk);(try clear hi)))
    go_ret
    exact ⟨by first|rfl|(simp [errW_none, errW_some] <;> rfl)|(simp [*, errW_none, errW_some] <;> rfl), by repeat (first|(with_reducible first|exact HB.out|apply below_alloc|apply pw_below_drewN|apply below_drew1)|exact HB.out)⟩
   ·replace c5 := Bool.eq_false_iff.mpr c5
    subst c5
    have H1 : ((law12_Make.f kj2 l0).bind fun t2 => (law14_AdmitMade.l0 kj2 l1 t2 0)) = some r := by rw [if_neg (show ¬ (false = true) by decide)] at H; exact H
    clear H
    have H := H1
    clear H1
    replace H := Option.bind_eq_some_iff.mp H
    obtain ⟨t2, A80, H⟩ := H
    replace H : (law14_AdmitMade.l0 kj2 l1 t2 0) = some r := H
    have A8 := Aside0.mk A80
    clear A80
    have H' := Aside0.mk H
    clear H
    go_wp2_with (first|((with_reducible refine gate_callee (f := 32) rfl ?_);refine goesL_ (some 23) rfl rfl Try.func32 (by kernel_rfl) rfl #[.slice A0 l0.length c0] rfl (by (try simp only [List.map_toArray, List.map_cons, List.map_nil]);first|done|rfl|(simp only [List.length_drop, List.length_take];rfl)) ?_;(with_reducible refine (law12_Make.calls kj2 _ _ l0 t2 _ ?side1 ?side2 A8.out).mono ?_);(case side1 => repeat (first|exact (Kd.C_below HR0.out HB.out)|(with_reducible refine Kd.C_alloc ?_ _)|(with_reducible refine Kd.C_drewN ?_ _)|(with_reducible refine Kd.C_drew ?_)));(case side2 => exact HC0.out);rintro e w9 ⟨v3, rfl, ho0, hb⟩;refine ⟨_, rfl, ?_⟩;have n0_ := Aside0.mk (Kd.R_lower ho0 (below_size (by repeat (first|(with_reducible first|exact HB.out|apply below_alloc|apply pw_below_drewN|apply below_drew1)|exact HB.out))));have n1_ := Aside0.mk (below_step (by repeat (first|(with_reducible first|exact HB.out|apply below_alloc|apply pw_below_drewN|apply below_drew1)|exact HB.out)) hb);clear HB;have HO4 := n0_;have HB := n1_;clear n0_ n1_;(try clear hb);(try clear hb2);(try clear hk);(try clear hi);(try clear ho0)))
    go_loopg [5, 6] kj2 (fun kq v5 v6 w' => ∃ (x5_2 : List (S31)) (x6_2 : Int), v6 = .int .i64 x6_2 ∧ Aside0 (law14_AdmitMade.l0 kq l1 x5_2 x6_2 = some r) ∧ Aside0 (kq ≤ kj2) ∧ Aside0 (Kd.R k31 31 w' w.heap.size (fun _ => True) v5 x5_2) ∧ Aside0 (Below w.heap.size w w'))
    case atStart => exact ⟨(t2), (0), (by first|rfl|(simp;done)|(simp [*];done)), H', ⟨Nat.le_refl _⟩, ⟨by (with_reducible repeat (first|apply Kd.R_alloc|apply Kd.R_drewN|apply Kd.R_drew));exact HO4.out⟩, ⟨by repeat (first|(with_reducible first|exact HB.out|apply below_alloc|apply pw_below_drewN|apply below_drew1)|exact HB.out)⟩⟩
    case round =>
     clear H'
     try clear c1
     try clear p2
     try clear c3
     try clear c4
     try clear c4b0
     try clear c4b1
     try clear c5
     try clear p2
     obtain ⟨x5_2, x6_2, rfl, HA, HK2, HO_5, HB⟩ := hrel
     cases gk with
     | zero => exact absurd HA.out (by simp [law14_AdmitMade.l0])
     | succ k2 =>
      have H := HA.out
      clear HA
      simp only [law14_AdmitMade.l0] at H
      by_cases c10 : (wrap64 (x6_2 + 1)) < (l1.length : Int)
      ·rw [if_pos c10] at H
       have c10b0 : decide ((wrap64 (x6_2 + 1)) < (l1.length : Int)) = true := decide_eq_true c10
       clear c10
       by_cases c11 : 0 ≤ x6_2
       ·rw [if_pos c11] at H
        have c11b0 : decide (0 ≤ x6_2) = true := decide_eq_true c11
        clear c11
        by_cases c12 : x6_2 < (l1.length : Int)
        ·rw [if_pos c12] at H
         have c12b0 : decide (x6_2 < (l1.length : Int)) = true := decide_eq_true c12
         clear c12
         obtain ⟨y7, hy7⟩ : ∃ y_ : List Int, y_ = (([(97 + (Int.tmod (rd l1 x6_2) 26)) % 256] : List Int)) := ⟨_, rfl⟩
         replace H : (if 0 ≤ (wrap64 (x6_2 + 1)) then ((admit_Admit.f k2 x5_2 (strOfNums y7) (Int.tmod (wrap64 (Int.tdiv (wrap64 (rd l1 (wrap64 (x6_2 + 1)))) 2)) 40) (wrap64 (Int.tdiv (wrap64 (Int.tdiv (wrap64 (rd l1 (wrap64 (x6_2 + 1)))) 2)) 3)) (Int.tmod (wrap64 (Int.tdiv (wrap64 (rd l1 (wrap64 (x6_2 + 1)))) 2)) 7)).bind fun bt12 => ((r10_Admit.f k2 x5_2 (strOfNums y7) (Int.tmod (wrap64 (Int.tdiv (wrap64 (rd l1 (wrap64 (x6_2 + 1)))) 2)) 40) (wrap64 (Int.tdiv (wrap64 (Int.tdiv (wrap64 (rd l1 (wrap64 (x6_2 + 1)))) 2)) 3)) (Int.tmod (wrap64 (Int.tdiv (wrap64 (rd l1 (wrap64 (x6_2 + 1)))) 2)) 7)).bind fun bt16 => (if (Int.tmod (rd l1 (wrap64 (x6_2 + 1))) 2) > 0 then ((admit_Release.f k2 x5_2 (strOfNums y7) (Int.tmod (wrap64 (Int.tdiv (wrap64 (rd l1 (wrap64 (x6_2 + 1)))) 2)) 40) (wrap64 (Int.tdiv (wrap64 (Int.tdiv (wrap64 (rd l1 (wrap64 (x6_2 + 1)))) 2)) 3)) (Int.tmod (wrap64 (Int.tdiv (wrap64 (rd l1 (wrap64 (x6_2 + 1)))) 2)) 7)).bind fun bt22 => ((r10_Release.f k2 x5_2 (strOfNums y7) (Int.tmod (wrap64 (Int.tdiv (wrap64 (rd l1 (wrap64 (x6_2 + 1)))) 2)) 40) (wrap64 (Int.tdiv (wrap64 (Int.tdiv (wrap64 (rd l1 (wrap64 (x6_2 + 1)))) 2)) 3)) (Int.tmod (wrap64 (Int.tdiv (wrap64 (rd l1 (wrap64 (x6_2 + 1)))) 2)) 7)).bind fun bt26 => (law14_AdmitMade.j2 k2 l1 x5_2 x6_2 bt22.1 bt22.2 bt26.1 bt26.2))) else (law14_AdmitMade.j2 k2 l1 x5_2 x6_2 bt12.1 bt12.2 bt16.1 bt16.2)))) else (none)) = some r := by first|(rw [hy7];with_reducible exact H)|(have H2_ := (Option.bind_some _ _).symm.trans H;rw [hy7];with_reducible exact H2_)|(have H2_ := (Option.bind_some _ _).symm.trans H;with_reducible exact H2_)|with_reducible exact H|(rw [hy7];exact H)|exact H
         have Ny7 := Aside0.mk hy7
         clear hy7
         obtain ⟨ji13, hji13⟩ : ∃ j_ : Int, (wrap64 (x6_2 + 1)) = j_ := ⟨_, rfl⟩
         replace H : (if 0 ≤ (ji13) then ((admit_Admit.f k2 x5_2 (strOfNums y7) (Int.tmod (wrap64 (Int.tdiv (wrap64 (rd l1 (ji13))) 2)) 40) (wrap64 (Int.tdiv (wrap64 (Int.tdiv (wrap64 (rd l1 (ji13))) 2)) 3)) (Int.tmod (wrap64 (Int.tdiv (wrap64 (rd l1 (ji13))) 2)) 7)).bind fun bt12 => ((r10_Admit.f k2 x5_2 (strOfNums y7) (Int.tmod (wrap64 (Int.tdiv (wrap64 (rd l1 (ji13))) 2)) 40) (wrap64 (Int.tdiv (wrap64 (Int.tdiv (wrap64 (rd l1 (ji13))) 2)) 3)) (Int.tmod (wrap64 (Int.tdiv (wrap64 (rd l1 (ji13))) 2)) 7)).bind fun bt16 => (if (Int.tmod (rd l1 (ji13)) 2) > 0 then ((admit_Release.f k2 x5_2 (strOfNums y7) (Int.tmod (wrap64 (Int.tdiv (wrap64 (rd l1 (ji13))) 2)) 40) (wrap64 (Int.tdiv (wrap64 (Int.tdiv (wrap64 (rd l1 (ji13))) 2)) 3)) (Int.tmod (wrap64 (Int.tdiv (wrap64 (rd l1 (ji13))) 2)) 7)).bind fun bt22 => ((r10_Release.f k2 x5_2 (strOfNums y7) (Int.tmod (wrap64 (Int.tdiv (wrap64 (rd l1 (ji13))) 2)) 40) (wrap64 (Int.tdiv (wrap64 (Int.tdiv (wrap64 (rd l1 (ji13))) 2)) 3)) (Int.tmod (wrap64 (Int.tdiv (wrap64 (rd l1 (ji13))) 2)) 7)).bind fun bt26 => (law14_AdmitMade.j2 k2 l1 x5_2 x6_2 bt22.1 bt22.2 bt26.1 bt26.2))) else (law14_AdmitMade.j2 k2 l1 x5_2 x6_2 bt12.1 bt12.2 bt16.1 bt16.2)))) else (none)) = some r := by first | (rw [hji13] at H; exact H) | (simp only [hji13] at H ⊢; exact H)
         (try rw [hji13] at c10b0)
         have hji13w : (IntKind.i64.wrap (x6_2 + 1)) = ji13 := (i64_w _).trans hji13
         by_cases c14 : 0 ≤ (ji13)
         ·rw [if_pos c14] at H
          have c14b0 : decide (0 ≤ (ji13)) = true := decide_eq_true c14
          clear c14
          replace H := Option.bind_eq_some_iff.mp H
          obtain ⟨⟨t12, t15⟩, A150, H⟩ := H
          replace H : ((r10_Admit.f k2 x5_2 (strOfNums y7) (Int.tmod (wrap64 (Int.tdiv (wrap64 (rd l1 (ji13))) 2)) 40) (wrap64 (Int.tdiv (wrap64 (Int.tdiv (wrap64 (rd l1 (ji13))) 2)) 3)) (Int.tmod (wrap64 (Int.tdiv (wrap64 (rd l1 (ji13))) 2)) 7)).bind fun bt16 => (if (Int.tmod (rd l1 (ji13)) 2) > 0 then ((admit_Release.f k2 x5_2 (strOfNums y7) (Int.tmod (wrap64 (Int.tdiv (wrap64 (rd l1 (ji13))) 2)) 40) (wrap64 (Int.tdiv (wrap64 (Int.tdiv (wrap64 (rd l1 (ji13))) 2)) 3)) (Int.tmod (wrap64 (Int.tdiv (wrap64 (rd l1 (ji13))) 2)) 7)).bind fun bt22 => ((r10_Release.f k2 x5_2 (strOfNums y7) (Int.tmod (wrap64 (Int.tdiv (wrap64 (rd l1 (ji13))) 2)) 40) (wrap64 (Int.tdiv (wrap64 (Int.tdiv (wrap64 (rd l1 (ji13))) 2)) 3)) (Int.tmod (wrap64 (Int.tdiv (wrap64 (rd l1 (ji13))) 2)) 7)).bind fun bt26 => (law14_AdmitMade.j2 k2 l1 x5_2 x6_2 bt22.1 bt22.2 bt26.1 bt26.2))) else (law14_AdmitMade.j2 k2 l1 x5_2 x6_2 t12 t15 bt16.1 bt16.2))) = some r := H
          have A15 := Aside0.mk A150
          clear A150
          replace H := Option.bind_eq_some_iff.mp H
          obtain ⟨⟨t16, t19⟩, A160, H⟩ := H
          replace H : (if (Int.tmod (rd l1 (ji13)) 2) > 0 then ((admit_Release.f k2 x5_2 (strOfNums y7) (Int.tmod (wrap64 (Int.tdiv (wrap64 (rd l1 (ji13))) 2)) 40) (wrap64 (Int.tdiv (wrap64 (Int.tdiv (wrap64 (rd l1 (ji13))) 2)) 3)) (Int.tmod (wrap64 (Int.tdiv (wrap64 (rd l1 (ji13))) 2)) 7)).bind fun bt22 => ((r10_Release.f k2 x5_2 (strOfNums y7) (Int.tmod (wrap64 (Int.tdiv (wrap64 (rd l1 (ji13))) 2)) 40) (wrap64 (Int.tdiv (wrap64 (Int.tdiv (wrap64 (rd l1 (ji13))) 2)) 3)) (Int.tmod (wrap64 (Int.tdiv (wrap64 (rd l1 (ji13))) 2)) 7)).bind fun bt26 => (law14_AdmitMade.j2 k2 l1 x5_2 x6_2 bt22.1 bt22.2 bt26.1 bt26.2))) else (law14_AdmitMade.j2 k2 l1 x5_2 x6_2 t12 t15 t16 t19)) = some r := H
          have A16 := Aside0.mk A160
          clear A160
          have HC17 := Aside0.mk H
          clear H
          have p6 : 0 ≤ (x6_2 : Int) := of_decide_eq_true (by first|(with_reducible assumption)|assumption)
          have q6 : x6_2 < (l1.length : Int) := of_decide_eq_true (by first|(with_reducible assumption)|assumption)
          obtain ⟨ad6, e6, hx6_0⟩ := Kd.at_int HR1.out x6_2 p6 q6
          cases e6
          replace hx6_0 := (HB.out.cell (World.block_lt_of_cell? w _ hx6_0)).trans hx6_0
          replace p6 := eq_true p6
          replace q6 := eq_true q6
          go_upto_if 70 with (first|((with_reducible refine gate_dst (N := 37) rfl ?_);(try (refine gate_guard (by rfl) ?_;dsimp only));refine Kd.R_lit (Kd.int .u8) _ 5 ?hg (N := 37) ?hd (xs := ([(97 + (Int.tmod (rd l1 x6_2) 26)) % 256] : List Int)) (inner := [.int .u8 ((97 + (Int.tmod (rd l1 x6_2) 26)) % 256)]) (ok := fun _ => True) (okp := fun _ => True) ?hr ?hp (fun _ hk => hk) trivial (Below.refl _ _) (Nat.le_refl _) (by simp) ?_;(case hd => rfl);(case hg => rfl);(case hr => first|(go_simp;done)|(go_simp;rfl));(case hp => exact (Reps.one (show Kd.M (Kd.int .u8) _ _ _ ((97 + (Int.tmod (rd l1 x6_2) 26)) % 256) [.int .u8 ((97 + (Int.tmod (rd l1 x6_2) 26)) % 256)] from rfl) (Reps.none _ _)));intro v8 w18 ho19 hb hg_ hnew_;clear hg_ hnew_;(first|rw [← Ny7.out] at ho19|(simp only [Int.reduceToNat] at ho19;rw [← Ny7.out] at ho19));have n0_ := Aside0.mk (Kd.R_below (by (with_reducible repeat (first|apply Kd.R_alloc|apply Kd.R_drewN|apply Kd.R_drew));exact HO_5.out) hb);have n1_ := Aside0.mk (Kd.R_lower ho19 (below_size (by repeat (first|(with_reducible first|exact HB.out|apply below_alloc|apply pw_below_drewN|apply below_drew1)|exact HB.out))));have n2_ := Aside0.mk (below_step (by repeat (first|(with_reducible first|exact HB.out|apply below_alloc|apply pw_below_drewN|apply below_drew1)|exact HB.out)) hb);clear HO_5;clear HB;have HO_5 := n0_;have HO9 := n1_;have HB := n2_;clear n0_ n1_ n2_;clear hb ho19;have hcv20 := own_string (P := Try.prog) Try.underlying22 Try.underlying5 Try.underlying9 (Kd.own_of_R HO9.out);have p10 : 0 ≤ ((ji13) : Int) := of_decide_eq_true (by first|(with_reducible assumption)|assumption);have q10 : (ji13) < (l1.length : Int) := of_decide_eq_true (by first|(with_reducible assumption)|assumption);obtain ⟨ad10, e10, hx10_0⟩ := Kd.at_int HR1.out (ji13) p10 q10;obtain rfl : ad6 = ad10 := (by injection e10);replace hx10_0 := (HB.out.cell (World.block_lt_of_cell? w _ hx10_0)).trans hx10_0;replace p10 := eq_true p10;replace q10 := eq_true q10)|((with_reducible refine gate_dst (N := 9) rfl ?_);(try (refine gate_guard (by rfl) ?_;dsimp only));refine box_event ?hg (N := 9) ?hd (cs := #[.int .i64 0, .int .i64 0, .int .i64 0]) (t := 27) ?hr ?_;(case hd => rfl);(case hg => rfl);(case hr => first|(go_simp;done)|(go_simp;rfl));intro gb11 hg w21 hbox hb;have n0_ := Aside0.mk (Kd.R_below (by (with_reducible repeat (first|apply Kd.R_alloc|apply Kd.R_drewN|apply Kd.R_drew));exact HO_5.out) hb);have n1_ := Aside0.mk (Kd.R_below (by (with_reducible repeat (first|apply Kd.R_alloc|apply Kd.R_drewN|apply Kd.R_drew));exact HO9.out) hb);have n2_ := Aside0.mk (below_step (by repeat (first|(with_reducible first|exact HB.out|apply below_alloc|apply pw_below_drewN|apply below_drew1)|exact HB.out)) hb);have n3_ := Aside0.mk (hbox);have n4_ := Aside0.mk ((by rw [hg];exact (below_size (by repeat (first|(with_reducible first|exact HB.out|apply below_alloc|apply pw_below_drewN|apply below_drew1)|exact HB.out))) : w.heap.size ≤ gb11));have n5_ := Aside0.mk ((by rw [hg];exact (below_size (by repeat (first|(with_reducible first|exact HB.out|apply below_alloc|apply pw_below_drewN|apply below_drew1)|exact HB.out))) : w.heap.size ≤ gb11));clear HO_5;clear HO9;clear HB;have HO_5 := n0_;have HO9 := n1_;have HB := n2_;have BK11 := n3_;have GW11 := n4_;have GE11 := n5_;clear n0_ n1_ n2_ n3_ n4_ n5_;clear hb hbox hg;have hcz22_0 : w21.cell? ⟨gb11, 0, none⟩ = some (.int .i64 0) := (blk_cell BK11.out 0).trans rfl;have hcz22_1 : w21.cell? ⟨gb11, 1, none⟩ = some (.int .i64 0) := (blk_cell BK11.out 1).trans rfl;have hcz22_2 : w21.cell? ⟨gb11, 2, none⟩ = some (.int .i64 0) := (blk_cell BK11.out 2).trans rfl;have hfz22_0 := blk_frozen BK11.out 0;have hfz22_1 := blk_frozen BK11.out 1;have hfz22_2 := blk_frozen BK11.out 2;obtain ⟨Ao23, co23, eo23⟩ := Kd.R_slice HO_5.out;subst eo23)|((with_reducible refine gate_callee (f := 60) rfl ?_);refine goesL_ (some 57) rfl rfl Try.func60 (by kernel_rfl) rfl #[.slice Ao23 x5_2.length co23, .string (strOfNums y7), .agg #[.int .i64 (Int.tmod (wrap64 (Int.tdiv (wrap64 (rd l1 (ji13))) 2)) 40), .int .i64 (wrap64 (Int.tdiv (wrap64 (Int.tdiv (wrap64 (rd l1 (ji13))) 2)) 3)), .int .i64 (Int.tmod (wrap64 (Int.tdiv (wrap64 (rd l1 (ji13))) 2)) 7)]] rfl (by (try simp only [List.map_toArray, List.map_cons, List.map_nil]);first|done|(simp only [hji13];rfl)|rfl|(simp only [List.length_drop, List.length_take];rfl)) ?_;(with_reducible refine (admit_Admit.calls k2 _ _ x5_2 (strOfNums y7) (Int.tmod (wrap64 (Int.tdiv (wrap64 (rd l1 (ji13))) 2)) 40) (wrap64 (Int.tdiv (wrap64 (Int.tdiv (wrap64 (rd l1 (ji13))) 2)) 3)) (Int.tmod (wrap64 (Int.tdiv (wrap64 (rd l1 (ji13))) 2)) 7) t12 t15 _ ?side1 ?side2 A15.out).mono ?_);(case side1 => refine (Kd.R_reads' (e := 31) (base := w.heap.size) (ok := fun k_ => True) (n := x5_2.length) (c := co23) ?_).2.2;exact (by (with_reducible repeat (first|apply Kd.R_alloc|apply Kd.R_drewN|apply Kd.R_drew));exact (Kd.R_mono (Kd.R_far (p := ⟨gb11, 2, none⟩) (Kd.R_far (p := ⟨gb11, 1, none⟩) (Kd.R_far (p := ⟨gb11, 0, none⟩) (Kd.R_types HO_5.out BK11.out (by decide)) (fun _ hk => hk.2) (.int .i64 (Int.tmod (wrap64 (Int.tdiv (wrap64 (rd l1 (ji13))) 2)) 40))) (fun _ hk => hk.2) (.int .i64 (wrap64 (Int.tdiv (wrap64 (Int.tdiv (wrap64 (rd l1 (ji13))) 2)) 3)))) (fun _ hk => hk.2) (.int .i64 (Int.tmod (wrap64 (Int.tdiv (wrap64 (rd l1 (ji13))) 2)) 7))) (fun _ h_ => h_.1))));(case side2 => exact (Kd.R_reads' HO_5.out).2.1);rintro e w24 ⟨v13, rfl, ho0, hb⟩;refine ⟨_, rfl, ?_⟩;have n0_ := Aside0.mk (Kd.R_elder' (by (with_reducible repeat (first|apply Kd.R_alloc|apply Kd.R_drewN|apply Kd.R_drew));exact (Kd.R_mono (Kd.R_far (p := ⟨gb11, 2, none⟩) (Kd.R_far (p := ⟨gb11, 1, none⟩) (Kd.R_far (p := ⟨gb11, 0, none⟩) (Kd.R_types HO_5.out BK11.out (by decide)) (fun _ hk => hk.2) (.int .i64 (Int.tmod (wrap64 (Int.tdiv (wrap64 (rd l1 (ji13))) 2)) 40))) (fun _ hk => hk.2) (.int .i64 (wrap64 (Int.tdiv (wrap64 (Int.tdiv (wrap64 (rd l1 (ji13))) 2)) 3)))) (fun _ hk => hk.2) (.int .i64 (Int.tmod (wrap64 (Int.tdiv (wrap64 (rd l1 (ji13))) 2)) 7))) (fun _ h_ => h_.1))) (Kd.R_base ho0) hb);have n1_ := Aside0.mk (Kd.R_below (by (with_reducible repeat (first|apply Kd.R_alloc|apply Kd.R_drewN|apply Kd.R_drew));exact (Kd.R_mono (Kd.R_far (p := ⟨gb11, 2, none⟩) (Kd.R_far (p := ⟨gb11, 1, none⟩) (Kd.R_far (p := ⟨gb11, 0, none⟩) (Kd.R_types HO9.out BK11.out (by decide)) (fun _ hk => hk.2) (.int .i64 (Int.tmod (wrap64 (Int.tdiv (wrap64 (rd l1 (ji13))) 2)) 40))) (fun _ hk => hk.2) (.int .i64 (wrap64 (Int.tdiv (wrap64 (Int.tdiv (wrap64 (rd l1 (ji13))) 2)) 3)))) (fun _ hk => hk.2) (.int .i64 (Int.tmod (wrap64 (Int.tdiv (wrap64 (rd l1 (ji13))) 2)) 7))) (fun _ h_ => h_.1))) hb);have n2_ := Aside0.mk (Kd.R_lower (Kd.R_new' ho0 (Kd.R_lt (by (with_reducible repeat (first|apply Kd.R_alloc|apply Kd.R_drewN|apply Kd.R_drew));exact (Kd.R_mono (Kd.R_far (p := ⟨gb11, 2, none⟩) (Kd.R_far (p := ⟨gb11, 1, none⟩) (Kd.R_far (p := ⟨gb11, 0, none⟩) (Kd.R_types HO_5.out BK11.out (by decide)) (fun _ hk => hk.2) (.int .i64 (Int.tmod (wrap64 (Int.tdiv (wrap64 (rd l1 (ji13))) 2)) 40))) (fun _ hk => hk.2) (.int .i64 (wrap64 (Int.tdiv (wrap64 (Int.tdiv (wrap64 (rd l1 (ji13))) 2)) 3)))) (fun _ hk => hk.2) (.int .i64 (Int.tmod (wrap64 (Int.tdiv (wrap64 (rd l1 (ji13))) 2)) 7))) (fun _ h_ => h_.1))))) (below_size (by repeat (first|(with_reducible first|exact HB.out|apply below_alloc|apply pw_below_drewN|apply below_drew1|refine below_set ?_ GE11.out)|exact HB.out))));have n3_ := Aside0.mk (blk_below (g := gb11) (o := .cells #[.int .i64 (Int.tmod (wrap64 (Int.tdiv (wrap64 (rd l1 (ji13))) 2)) 40), .int .i64 (wrap64 (Int.tdiv (wrap64 (Int.tdiv (wrap64 (rd l1 (ji13))) 2)) 3)), .int .i64 (Int.tmod (wrap64 (Int.tdiv (wrap64 (rd l1 (ji13))) 2)) 7)] 27 (0, 0)) (by (with_reducible repeat (first|refine blk_drewN ?_ _|refine blk_drew ?_|refine blk_alloc ?_ _));refine blk_put (cs := #[.int .i64 (Int.tmod (wrap64 (Int.tdiv (wrap64 (rd l1 (ji13))) 2)) 40), .int .i64 (wrap64 (Int.tdiv (wrap64 (Int.tdiv (wrap64 (rd l1 (ji13))) 2)) 3)), .int .i64 0]) ?_ 2 _ rfl;(with_reducible repeat (first|refine blk_drewN ?_ _|refine blk_drew ?_|refine blk_alloc ?_ _));refine blk_put (cs := #[.int .i64 (Int.tmod (wrap64 (Int.tdiv (wrap64 (rd l1 (ji13))) 2)) 40), .int .i64 0, .int .i64 0]) ?_ 1 _ rfl;(with_reducible repeat (first|refine blk_drewN ?_ _|refine blk_drew ?_|refine blk_alloc ?_ _));refine blk_put (cs := #[.int .i64 0, .int .i64 0, .int .i64 0]) ?_ 0 _ rfl;(with_reducible repeat (first|refine blk_drewN ?_ _|refine blk_drew ?_|refine blk_alloc ?_ _));exact BK11.out) hb);have n4_ := Aside0.mk (below_step (by repeat (first|(with_reducible first|exact HB.out|apply below_alloc|apply pw_below_drewN|apply below_drew1|refine below_set ?_ GE11.out)|exact HB.out)) hb);clear HO_5;clear HO9;clear BK11;clear HB;have HO_5 := n0_;have HO9 := n1_;have HO14 := n2_;have BK11 := n3_;have HB := n4_;clear n0_ n1_ n2_ n3_ n4_;(try clear hb);(try clear hb2);(try clear hk);(try clear hi);(try clear ho0);have hcz25_0 : w24.cell? ⟨gb11, 0, none⟩ = some (.int .i64 (Int.tmod (wrap64 (Int.tdiv (wrap64 (rd l1 (ji13))) 2)) 40)) := (blk_cell BK11.out 0).trans rfl;have hcz25_1 : w24.cell? ⟨gb11, 1, none⟩ = some (.int .i64 (wrap64 (Int.tdiv (wrap64 (Int.tdiv (wrap64 (rd l1 (ji13))) 2)) 3))) := (blk_cell BK11.out 1).trans rfl;have hcz25_2 : w24.cell? ⟨gb11, 2, none⟩ = some (.int .i64 (Int.tmod (wrap64 (Int.tdiv (wrap64 (rd l1 (ji13))) 2)) 7)) := (blk_cell BK11.out 2).trans rfl;have hfz25_0 := blk_frozen BK11.out 0;have hfz25_1 := blk_frozen BK11.out 1;have hfz25_2 := blk_frozen BK11.out 2)|((with_reducible refine gate_callee (f := 66) rfl ?_);refine goesL_ (some 63) rfl rfl Try.func66 (by kernel_rfl) rfl #[.slice Ao23 x5_2.length co23, .string (strOfNums y7), .agg #[.int .i64 (Int.tmod (wrap64 (Int.tdiv (wrap64 (rd l1 (ji13))) 2)) 40), .int .i64 (wrap64 (Int.tdiv (wrap64 (Int.tdiv (wrap64 (rd l1 (ji13))) 2)) 3)), .int .i64 (Int.tmod (wrap64 (Int.tdiv (wrap64 (rd l1 (ji13))) 2)) 7)]] rfl (by (try simp only [List.map_toArray, List.map_cons, List.map_nil]);first|done|(simp only [hji13];rfl)|rfl|(simp only [List.length_drop, List.length_take];rfl)) ?_;(with_reducible refine (r10_Admit.calls k2 _ _ x5_2 (strOfNums y7) (Int.tmod (wrap64 (Int.tdiv (wrap64 (rd l1 (ji13))) 2)) 40) (wrap64 (Int.tdiv (wrap64 (Int.tdiv (wrap64 (rd l1 (ji13))) 2)) 3)) (Int.tmod (wrap64 (Int.tdiv (wrap64 (rd l1 (ji13))) 2)) 7) t16 t19 _ ?side1 ?side2 A16.out).mono ?_);(case side1 => repeat (first|exact (Kd.R_reads' HO_5.out).2.2|(with_reducible refine Kd.C_alloc ?_ _)|(with_reducible refine Kd.C_drewN ?_ _)|(with_reducible refine Kd.C_drew ?_)));(case side2 => exact (Kd.R_reads' HO_5.out).2.1);rintro e w26 ⟨v17, rfl, ho0, hb⟩;refine ⟨_, rfl, ?_⟩;have n0_ := Aside0.mk (Kd.R_elder' (by (with_reducible repeat (first|apply Kd.R_alloc|apply Kd.R_drewN|apply Kd.R_drew));exact HO_5.out) (Kd.R_base ho0) hb);have n1_ := Aside0.mk (Kd.R_below (by (with_reducible repeat (first|apply Kd.R_alloc|apply Kd.R_drewN|apply Kd.R_drew));exact HO9.out) hb);have n2_ := Aside0.mk (Kd.R_elder' (by (with_reducible repeat (first|apply Kd.R_alloc|apply Kd.R_drewN|apply Kd.R_drew));exact HO14.out) (Kd.R_base ho0) hb);have n3_ := Aside0.mk (Kd.R_lower (Kd.R_new' (Kd.R_new' ho0 (Kd.R_lt (by (with_reducible repeat (first|apply Kd.R_alloc|apply Kd.R_drewN|apply Kd.R_drew));exact HO_5.out))) (Kd.R_lt (by (with_reducible repeat (first|apply Kd.R_alloc|apply Kd.R_drewN|apply Kd.R_drew));exact HO14.out))) (below_size (by repeat (first|(with_reducible first|exact HB.out|apply below_alloc|apply pw_below_drewN|apply below_drew1|refine below_set ?_ GE11.out)|exact HB.out))));have n4_ := Aside0.mk (blk_below (g := gb11) (o := .cells #[.int .i64 (Int.tmod (wrap64 (Int.tdiv (wrap64 (rd l1 (ji13))) 2)) 40), .int .i64 (wrap64 (Int.tdiv (wrap64 (Int.tdiv (wrap64 (rd l1 (ji13))) 2)) 3)), .int .i64 (Int.tmod (wrap64 (Int.tdiv (wrap64 (rd l1 (ji13))) 2)) 7)] 27 (0, 0)) (by (with_reducible repeat (first|refine blk_drewN ?_ _|refine blk_drew ?_|refine blk_alloc ?_ _));exact BK11.out) hb);have n5_ := Aside0.mk (below_step (by repeat (first|(with_reducible first|exact HB.out|apply below_alloc|apply pw_below_drewN|apply below_drew1|refine below_set ?_ GE11.out)|exact HB.out)) hb);clear HO_5;clear HO9;clear HO14;clear BK11;clear HB;have HO_5 := n0_;have HO9 := n1_;have HO14 := n2_;have HO18 := n3_;have BK11 := n4_;have HB := n5_;clear n0_ n1_ n2_ n3_ n4_ n5_;(try clear hb);(try clear hb2);(try clear hk);(try clear hi);(try clear ho0))|((with_reducible refine gate_dst (N := 12) rfl ?_);(try (refine gate_guard (by rfl) ?_;dsimp only));refine box_event ?hg (N := 12) ?hd (cs := #[.slice none 0 0, .int .i64 0]) (t := 67) ?hr ?_;(case hd => rfl);(case hg => rfl);(case hr => first|(go_simp;done)|(go_simp;rfl));intro gb20 hg w27 hbox hb;have n0_ := Aside0.mk (Kd.R_below (by (with_reducible repeat (first|apply Kd.R_alloc|apply Kd.R_drewN|apply Kd.R_drew));exact HO_5.out) hb);have n1_ := Aside0.mk (Kd.R_below (by (with_reducible repeat (first|apply Kd.R_alloc|apply Kd.R_drewN|apply Kd.R_drew));exact HO9.out) hb);have n2_ := Aside0.mk (Kd.R_below (by (with_reducible repeat (first|apply Kd.R_alloc|apply Kd.R_drewN|apply Kd.R_drew));exact HO14.out) hb);have n3_ := Aside0.mk (Kd.R_below (by (with_reducible repeat (first|apply Kd.R_alloc|apply Kd.R_drewN|apply Kd.R_drew));exact HO18.out) hb);have n4_ := Aside0.mk (blk_below (g := gb11) (o := .cells #[.int .i64 (Int.tmod (wrap64 (Int.tdiv (wrap64 (rd l1 (ji13))) 2)) 40), .int .i64 (wrap64 (Int.tdiv (wrap64 (Int.tdiv (wrap64 (rd l1 (ji13))) 2)) 3)), .int .i64 (Int.tmod (wrap64 (Int.tdiv (wrap64 (rd l1 (ji13))) 2)) 7)] 27 (0, 0)) (by (with_reducible repeat (first|refine blk_drewN ?_ _|refine blk_drew ?_|refine blk_alloc ?_ _));exact BK11.out) hb);have n5_ := Aside0.mk (below_step (by repeat (first|(with_reducible first|exact HB.out|apply below_alloc|apply pw_below_drewN|apply below_drew1|refine below_set ?_ GE11.out)|exact HB.out)) hb);have n6_ := Aside0.mk (hbox);have n7_ := Aside0.mk ((by rw [hg];exact (below_size (by repeat (first|(with_reducible first|exact HB.out|apply below_alloc|apply pw_below_drewN|apply below_drew1|refine below_set ?_ GE11.out)|exact HB.out))) : w.heap.size ≤ gb20));have n8_ := Aside0.mk ((by rw [hg];exact (below_size (by repeat (first|(with_reducible first|exact HB.out|apply below_alloc|apply pw_below_drewN|apply below_drew1|refine below_set ?_ GE11.out)|exact HB.out))) : w.heap.size ≤ gb20));have n9_ := Aside0.mk ((by rw [hg];exact Nat.ne_of_lt (blk_lt (g := gb11) (o := .cells #[.int .i64 (Int.tmod (wrap64 (Int.tdiv (wrap64 (rd l1 (ji13))) 2)) 40), .int .i64 (wrap64 (Int.tdiv (wrap64 (Int.tdiv (wrap64 (rd l1 (ji13))) 2)) 3)), .int .i64 (Int.tmod (wrap64 (Int.tdiv (wrap64 (rd l1 (ji13))) 2)) 7)] 27 (0, 0)) (by (with_reducible repeat (first|refine blk_drewN ?_ _|refine blk_drew ?_|refine blk_alloc ?_ _));exact BK11.out)) : gb11 ≠ gb20));have n10_ := Aside0.mk ((by rw [hg];exact Nat.ne_of_gt (blk_lt (g := gb11) (o := .cells #[.int .i64 (Int.tmod (wrap64 (Int.tdiv (wrap64 (rd l1 (ji13))) 2)) 40), .int .i64 (wrap64 (Int.tdiv (wrap64 (Int.tdiv (wrap64 (rd l1 (ji13))) 2)) 3)), .int .i64 (Int.tmod (wrap64 (Int.tdiv (wrap64 (rd l1 (ji13))) 2)) 7)] 27 (0, 0)) (by (with_reducible repeat (first|refine blk_drewN ?_ _|refine blk_drew ?_|refine blk_alloc ?_ _));exact BK11.out)) : gb20 ≠ gb11));clear HO_5;clear HO9;clear HO14;clear HO18;clear BK11;clear HB;have HO_5 := n0_;have HO9 := n1_;have HO14 := n2_;have HO18 := n3_;have BK11 := n4_;have HB := n5_;have BK20 := n6_;have GW20 := n7_;have GE20 := n8_;have NB11_20 := n9_;have NB20_11 := n10_;clear n0_ n1_ n2_ n3_ n4_ n5_ n6_ n7_ n8_ n9_ n10_;clear hb hbox hg;obtain ⟨Ao28, co28, eo28⟩ := Kd.R_slice HO18.out;subst eo28;have hnb29 := NB20_11.out;have hnc29 := NB11_20.out;have hcz30_0 : w27.cell? ⟨gb20, 0, none⟩ = some (.slice none 0 0) := (blk_cell BK20.out 0).trans rfl;have hcz30_1 : w27.cell? ⟨gb20, 1, none⟩ = some (.int .i64 0) := (blk_cell BK20.out 1).trans rfl;have hfz30_0 := blk_frozen BK20.out 0;have hfz30_1 := blk_frozen BK20.out 1;have p21 : 0 ≤ ((ji13) : Int) := of_decide_eq_true (by first|(with_reducible assumption)|assumption);have q21 : (ji13) < (l1.length : Int) := of_decide_eq_true (by first|(with_reducible assumption)|assumption);obtain ⟨ad21, e21, hx21_0⟩ := Kd.at_int HR1.out (ji13) p21 q21;obtain rfl : ad6 = ad21 := (by injection e21);have hn21_0 : ad6.block ≠ gb20 := Nat.ne_of_lt (Nat.lt_of_lt_of_le (by have := World.block_lt_of_cell? _ _ hx21_0;first|rwa [add_block] at this|exact this) GW20.out);have hn21_1 : ad6.block ≠ gb20 := Nat.ne_of_lt (Nat.lt_of_lt_of_le (by have := World.block_lt_of_cell? _ _ hx21_0;first|rwa [add_block] at this|exact this) GW20.out);replace hx21_0 := (HB.out.cell (World.block_lt_of_cell? w _ hx21_0)).trans hx21_0;replace hx21_0 := (cell_far (p := ⟨gb20, 0, none⟩) (by first|(rw [add_block];exact hn21_0)|(show (Addr.add _ _).block ≠ _;rw [add_block];exact hn21_0)|exact hn21_0) (.slice Ao28 t16.length co28)).trans hx21_0;replace hx21_0 := (cell_far (p := ⟨gb20, 1, none⟩) (by first|(rw [add_block];exact hn21_1)|(show (Addr.add _ _).block ≠ _;rw [add_block];exact hn21_1)|exact hn21_1) (.int .i64 t19)).trans hx21_0;clear hn21_0;clear hn21_1;replace p21 := eq_true p21;replace q21 := eq_true q21))
          (try simp only [Act.put, List.setIfInBounds_toArray, List.set_cons_zero, List.set_cons_succ])
          go_cut [10, 11] (fun v10 v11 wc => ∃ (kq : Nat) (x10_16 : List (S31)) (x11_16 : Int) (x21000_16 : List (S31)) (x21001_16 : Int) (u21000 : Value), v11 = .int .i64 x11_16 ∧ Aside0 (law14_AdmitMade.j2 kq l1 x5_2 x6_2 x10_16 x11_16 x21000_16 x21001_16 = some r) ∧ Aside0 (kq ≤ k2) ∧ Aside0 (Kd.R k31 31 wc w.heap.size (fun k_ => some k_ ≠ (v10 : Value).ownBlock ∧ some k_ ≠ (u21000 : Value).ownBlock) (.slice Ao23 x5_2.length co23) x5_2) ∧ Aside0 (Kd.R k31 31 wc w.heap.size (fun k_ => some k_ ≠ ((.slice Ao23 x5_2.length co23) : Value).ownBlock ∧ some k_ ≠ (u21000 : Value).ownBlock) v10 x10_16) ∧ Aside0 (Kd.R k31 31 wc w.heap.size (fun k_ => some k_ ≠ ((.slice Ao23 x5_2.length co23) : Value).ownBlock ∧ some k_ ≠ (v10 : Value).ownBlock) u21000 x21000_16) ∧ Aside0 (wc.heap[gb11]? = some (.cells #[.int .i64 (Int.tmod (wrap64 (Int.tdiv (wrap64 (rd l1 (ji13))) 2)) 40), .int .i64 (wrap64 (Int.tdiv (wrap64 (Int.tdiv (wrap64 (rd l1 (ji13))) 2)) 3)), .int .i64 (Int.tmod (wrap64 (Int.tdiv (wrap64 (rd l1 (ji13))) 2)) 7)] 27 (0, 0))) ∧ Aside0 (wc.heap[gb20]? = some (.cells #[u21000, .int .i64 x21001_16] 67 (0, 0))) ∧ Aside0 (Below w.heap.size w wc))
          case first =>
           have H := HC17.out
           clear HC17
           by_cases c31 : (Int.tmod (rd l1 (ji13)) 2) > 0
           ·rw [if_pos c31] at H
            have c31b0 : decide (0 < (Int.tmod (rd l1 (ji13)) 2)) = true := decide_eq_true c31
            clear c31
            (first | rw [c31b0] | (simp only [i64_w, i32_w]; rw [c31b0]) | skip)
            replace H := Option.bind_eq_some_iff.mp H
            obtain ⟨⟨t22, t25⟩, A320, H⟩ := H
            replace H : ((r10_Release.f k2 x5_2 (strOfNums y7) (Int.tmod (wrap64 (Int.tdiv (wrap64 (rd l1 (ji13))) 2)) 40) (wrap64 (Int.tdiv (wrap64 (Int.tdiv (wrap64 (rd l1 (ji13))) 2)) 3)) (Int.tmod (wrap64 (Int.tdiv (wrap64 (rd l1 (ji13))) 2)) 7)).bind fun bt26 => (law14_AdmitMade.j2 k2 l1 x5_2 x6_2 t22 t25 bt26.1 bt26.2)) = some r := H
            have A32 := Aside0.mk A320
            clear A320
            replace H := Option.bind_eq_some_iff.mp H
            obtain ⟨⟨t26, t29⟩, A330, H⟩ := H
            replace H : (law14_AdmitMade.j2 k2 l1 x5_2 x6_2 t22 t25 t26 t29) = some r := H
            have A33 := Aside0.mk A330
            clear A330
            have H' := Aside0.mk H
            clear H
            have hnb34 := NB11_20.out
            have hnc34 := NB20_11.out
            have hcz35_0 : w27.cell? ⟨gb11, 0, none⟩ = some (.int .i64 (Int.tmod (wrap64 (Int.tdiv (wrap64 (rd l1 (ji13))) 2)) 40)) := (blk_cell BK11.out 0).trans rfl
            have hcz35_1 : w27.cell? ⟨gb11, 1, none⟩ = some (.int .i64 (wrap64 (Int.tdiv (wrap64 (Int.tdiv (wrap64 (rd l1 (ji13))) 2)) 3))) := (blk_cell BK11.out 1).trans rfl
            have hcz35_2 : w27.cell? ⟨gb11, 2, none⟩ = some (.int .i64 (Int.tmod (wrap64 (Int.tdiv (wrap64 (rd l1 (ji13))) 2)) 7)) := (blk_cell BK11.out 2).trans rfl
            have hfz35_0 := blk_frozen BK11.out 0
            have hfz35_1 := blk_frozen BK11.out 1
            have hfz35_2 := blk_frozen BK11.out 2
            go_wp2_with (first|((with_reducible refine gate_callee (f := 76) rfl ?_);refine goesL_ (some 75) rfl rfl Try.func76 (by kernel_rfl) rfl #[.slice Ao23 x5_2.length co23, .string (strOfNums y7), .agg #[.int .i64 (Int.tmod (wrap64 (Int.tdiv (wrap64 (rd l1 (ji13))) 2)) 40), .int .i64 (wrap64 (Int.tdiv (wrap64 (Int.tdiv (wrap64 (rd l1 (ji13))) 2)) 3)), .int .i64 (Int.tmod (wrap64 (Int.tdiv (wrap64 (rd l1 (ji13))) 2)) 7)]] rfl (by (try simp only [List.map_toArray, List.map_cons, List.map_nil]);first|done|(simp only [hji13];rfl)|rfl|(simp only [List.length_drop, List.length_take];rfl)) ?_;(with_reducible refine (admit_Release.calls k2 _ _ x5_2 (strOfNums y7) (Int.tmod (wrap64 (Int.tdiv (wrap64 (rd l1 (ji13))) 2)) 40) (wrap64 (Int.tdiv (wrap64 (Int.tdiv (wrap64 (rd l1 (ji13))) 2)) 3)) (Int.tmod (wrap64 (Int.tdiv (wrap64 (rd l1 (ji13))) 2)) 7) t22 t25 _ ?side1 ?side2 A32.out).mono ?_);(case side1 => refine (Kd.R_reads' (e := 31) (base := w.heap.size) (ok := fun k_ => ((True ∧ some k_ ≠ (v13 : Value).ownBlock) ∧ some k_ ≠ (.slice Ao28 t16.length co28 : Value).ownBlock)) (n := x5_2.length) (c := co23) ?_).2.2;exact (by (with_reducible repeat (first|apply Kd.R_alloc|apply Kd.R_drewN|apply Kd.R_drew));exact (Kd.R_mono (Kd.R_far (p := ⟨gb20, 1, none⟩) (Kd.R_far (p := ⟨gb20, 0, none⟩) (Kd.R_types HO_5.out BK20.out (by decide)) (fun _ hk => hk.2) (.slice Ao28 t16.length co28)) (fun _ hk => hk.2) (.int .i64 t19)) (fun _ h_ => h_.1))));(case side2 => exact (Kd.R_reads' HO_5.out).2.1);rintro e w36 ⟨v23, rfl, ho0, hb⟩;refine ⟨_, rfl, ?_⟩;have n0_ := Aside0.mk (Kd.R_elder' (by (with_reducible repeat (first|apply Kd.R_alloc|apply Kd.R_drewN|apply Kd.R_drew));exact (Kd.R_mono (Kd.R_far (p := ⟨gb20, 1, none⟩) (Kd.R_far (p := ⟨gb20, 0, none⟩) (Kd.R_types HO_5.out BK20.out (by decide)) (fun _ hk => hk.2) (.slice Ao28 t16.length co28)) (fun _ hk => hk.2) (.int .i64 t19)) (fun _ h_ => h_.1))) (Kd.R_base ho0) hb);have n1_ := Aside0.mk (Kd.R_below (by (with_reducible repeat (first|apply Kd.R_alloc|apply Kd.R_drewN|apply Kd.R_drew));exact (Kd.R_mono (Kd.R_far (p := ⟨gb20, 1, none⟩) (Kd.R_far (p := ⟨gb20, 0, none⟩) (Kd.R_types HO9.out BK20.out (by decide)) (fun _ hk => hk.2) (.slice Ao28 t16.length co28)) (fun _ hk => hk.2) (.int .i64 t19)) (fun _ h_ => h_.1))) hb);have n2_ := Aside0.mk (Kd.R_elder' (by (with_reducible repeat (first|apply Kd.R_alloc|apply Kd.R_drewN|apply Kd.R_drew));exact (Kd.R_mono (Kd.R_far (p := ⟨gb20, 1, none⟩) (Kd.R_far (p := ⟨gb20, 0, none⟩) (Kd.R_types HO14.out BK20.out (by decide)) (fun _ hk => hk.2) (.slice Ao28 t16.length co28)) (fun _ hk => hk.2) (.int .i64 t19)) (fun _ h_ => h_.1))) (Kd.R_base ho0) hb);have n3_ := Aside0.mk (Kd.R_elder' (by (with_reducible repeat (first|apply Kd.R_alloc|apply Kd.R_drewN|apply Kd.R_drew));exact (Kd.R_mono (Kd.R_far (p := ⟨gb20, 1, none⟩) (Kd.R_far (p := ⟨gb20, 0, none⟩) (Kd.R_types HO18.out BK20.out (by decide)) (fun _ hk => hk.2) (.slice Ao28 t16.length co28)) (fun _ hk => hk.2) (.int .i64 t19)) (fun _ h_ => h_.1))) (Kd.R_base ho0) hb);have n4_ := Aside0.mk (Kd.R_lower (Kd.R_new' (Kd.R_new' (Kd.R_new' ho0 (Kd.R_lt (by (with_reducible repeat (first|apply Kd.R_alloc|apply Kd.R_drewN|apply Kd.R_drew));exact (Kd.R_mono (Kd.R_far (p := ⟨gb20, 1, none⟩) (Kd.R_far (p := ⟨gb20, 0, none⟩) (Kd.R_types HO_5.out BK20.out (by decide)) (fun _ hk => hk.2) (.slice Ao28 t16.length co28)) (fun _ hk => hk.2) (.int .i64 t19)) (fun _ h_ => h_.1))))) (Kd.R_lt (by (with_reducible repeat (first|apply Kd.R_alloc|apply Kd.R_drewN|apply Kd.R_drew));exact (Kd.R_mono (Kd.R_far (p := ⟨gb20, 1, none⟩) (Kd.R_far (p := ⟨gb20, 0, none⟩) (Kd.R_types HO14.out BK20.out (by decide)) (fun _ hk => hk.2) (.slice Ao28 t16.length co28)) (fun _ hk => hk.2) (.int .i64 t19)) (fun _ h_ => h_.1))))) (Kd.R_lt (by (with_reducible repeat (first|apply Kd.R_alloc|apply Kd.R_drewN|apply Kd.R_drew));exact (Kd.R_mono (Kd.R_far (p := ⟨gb20, 1, none⟩) (Kd.R_far (p := ⟨gb20, 0, none⟩) (Kd.R_types HO18.out BK20.out (by decide)) (fun _ hk => hk.2) (.slice Ao28 t16.length co28)) (fun _ hk => hk.2) (.int .i64 t19)) (fun _ h_ => h_.1))))) (below_size (by repeat (first|(with_reducible first|exact HB.out|apply below_alloc|apply pw_below_drewN|apply below_drew1|refine below_set ?_ GE11.out|refine below_set ?_ GE20.out)|exact HB.out))));have n5_ := Aside0.mk (blk_below (g := gb11) (o := .cells #[.int .i64 (Int.tmod (wrap64 (Int.tdiv (wrap64 (rd l1 (ji13))) 2)) 40), .int .i64 (wrap64 (Int.tdiv (wrap64 (Int.tdiv (wrap64 (rd l1 (ji13))) 2)) 3)), .int .i64 (Int.tmod (wrap64 (Int.tdiv (wrap64 (rd l1 (ji13))) 2)) 7)] 27 (0, 0)) (by (with_reducible repeat (first|refine blk_drewN ?_ _|refine blk_drew ?_|refine blk_alloc ?_ _));refine blk_far ?_ NB11_20.out _;(with_reducible repeat (first|refine blk_drewN ?_ _|refine blk_drew ?_|refine blk_alloc ?_ _));refine blk_far ?_ NB11_20.out _;(with_reducible repeat (first|refine blk_drewN ?_ _|refine blk_drew ?_|refine blk_alloc ?_ _));exact BK11.out) hb);have n6_ := Aside0.mk (blk_below (g := gb20) (o := .cells #[.slice Ao28 t16.length co28, .int .i64 t19] 67 (0, 0)) (by (with_reducible repeat (first|refine blk_drewN ?_ _|refine blk_drew ?_|refine blk_alloc ?_ _));refine blk_put (cs := #[.slice Ao28 t16.length co28, .int .i64 0]) ?_ 1 _ rfl;(with_reducible repeat (first|refine blk_drewN ?_ _|refine blk_drew ?_|refine blk_alloc ?_ _));refine blk_put (cs := #[.slice none 0 0, .int .i64 0]) ?_ 0 _ rfl;(with_reducible repeat (first|refine blk_drewN ?_ _|refine blk_drew ?_|refine blk_alloc ?_ _));exact BK20.out) hb);have n7_ := Aside0.mk (below_step (by repeat (first|(with_reducible first|exact HB.out|apply below_alloc|apply pw_below_drewN|apply below_drew1|refine below_set ?_ GE11.out|refine below_set ?_ GE20.out)|exact HB.out)) hb);clear HO_5;clear HO9;clear HO14;clear HO18;clear BK11;clear BK20;clear HB;have HO_5 := n0_;have HO9 := n1_;have HO14 := n2_;have HO18 := n3_;have HO24 := n4_;have BK11 := n5_;have BK20 := n6_;have HB := n7_;clear n0_ n1_ n2_ n3_ n4_ n5_ n6_ n7_;(try clear hb);(try clear hb2);(try clear hk);(try clear hi);(try clear ho0);have hcz37_0 : w36.cell? ⟨gb11, 0, none⟩ = some (.int .i64 (Int.tmod (wrap64 (Int.tdiv (wrap64 (rd l1 (ji13))) 2)) 40)) := (blk_cell BK11.out 0).trans rfl;have hcz37_1 : w36.cell? ⟨gb11, 1, none⟩ = some (.int .i64 (wrap64 (Int.tdiv (wrap64 (Int.tdiv (wrap64 (rd l1 (ji13))) 2)) 3))) := (blk_cell BK11.out 1).trans rfl;have hcz37_2 : w36.cell? ⟨gb11, 2, none⟩ = some (.int .i64 (Int.tmod (wrap64 (Int.tdiv (wrap64 (rd l1 (ji13))) 2)) 7)) := (blk_cell BK11.out 2).trans rfl;have hfz37_0 := blk_frozen BK11.out 0;have hfz37_1 := blk_frozen BK11.out 1;have hfz37_2 := blk_frozen BK11.out 2)|((with_reducible refine gate_callee (f := 77) rfl ?_);refine goesL_ (some 81) rfl rfl Try.func77 (by kernel_rfl) rfl #[.slice Ao23 x5_2.length co23, .string (strOfNums y7), .agg #[.int .i64 (Int.tmod (wrap64 (Int.tdiv (wrap64 (rd l1 (ji13))) 2)) 40), .int .i64 (wrap64 (Int.tdiv (wrap64 (Int.tdiv (wrap64 (rd l1 (ji13))) 2)) 3)), .int .i64 (Int.tmod (wrap64 (Int.tdiv (wrap64 (rd l1 (ji13))) 2)) 7)]] rfl (by (try simp only [List.map_toArray, List.map_cons, List.map_nil]);first|done|(simp only [hji13];rfl)|rfl|(simp only [List.length_drop, List.length_take];rfl)) ?_;(with_reducible refine (r10_Release.calls k2 _ _ x5_2 (strOfNums y7) (Int.tmod (wrap64 (Int.tdiv (wrap64 (rd l1 (ji13))) 2)) 40) (wrap64 (Int.tdiv (wrap64 (Int.tdiv (wrap64 (rd l1 (ji13))) 2)) 3)) (Int.tmod (wrap64 (Int.tdiv (wrap64 (rd l1 (ji13))) 2)) 7) t26 t29 _ ?side1 ?side2 A33.out).mono ?_);(case side1 => repeat (first|exact (Kd.R_reads' HO_5.out).2.2|(with_reducible refine Kd.C_alloc ?_ _)|(with_reducible refine Kd.C_drewN ?_ _)|(with_reducible refine Kd.C_drew ?_)));(case side2 => exact (Kd.R_reads' HO_5.out).2.1);rintro e w38 ⟨v27, rfl, ho0, hb⟩;refine ⟨_, rfl, ?_⟩;have n0_ := Aside0.mk (Kd.R_elder' (by (with_reducible repeat (first|apply Kd.R_alloc|apply Kd.R_drewN|apply Kd.R_drew));exact HO_5.out) (Kd.R_base ho0) hb);have n1_ := Aside0.mk (Kd.R_below (by (with_reducible repeat (first|apply Kd.R_alloc|apply Kd.R_drewN|apply Kd.R_drew));exact HO9.out) hb);have n2_ := Aside0.mk (Kd.R_elder' (by (with_reducible repeat (first|apply Kd.R_alloc|apply Kd.R_drewN|apply Kd.R_drew));exact HO14.out) (Kd.R_base ho0) hb);have n3_ := Aside0.mk (Kd.R_elder' (by (with_reducible repeat (first|apply Kd.R_alloc|apply Kd.R_drewN|apply Kd.R_drew));exact HO18.out) (Kd.R_base ho0) hb);have n4_ := Aside0.mk (Kd.R_elder' (by (with_reducible repeat (first|apply Kd.R_alloc|apply Kd.R_drewN|apply Kd.R_drew));exact HO24.out) (Kd.R_base ho0) hb);have n5_ := Aside0.mk (Kd.R_lower (Kd.R_new' (Kd.R_new' (Kd.R_new' (Kd.R_new' ho0 (Kd.R_lt (by (with_reducible repeat (first|apply Kd.R_alloc|apply Kd.R_drewN|apply Kd.R_drew));exact HO_5.out))) (Kd.R_lt (by (with_reducible repeat (first|apply Kd.R_alloc|apply Kd.R_drewN|apply Kd.R_drew));exact HO14.out))) (Kd.R_lt (by (with_reducible repeat (first|apply Kd.R_alloc|apply Kd.R_drewN|apply Kd.R_drew));exact HO18.out))) (Kd.R_lt (by (with_reducible repeat (first|apply Kd.R_alloc|apply Kd.R_drewN|apply Kd.R_drew));exact HO24.out))) (below_size (by repeat (first|(with_reducible first|exact HB.out|apply below_alloc|apply pw_below_drewN|apply below_drew1|refine below_set ?_ GE11.out|refine below_set ?_ GE20.out)|exact HB.out))));have n6_ := Aside0.mk (blk_below (g := gb11) (o := .cells #[.int .i64 (Int.tmod (wrap64 (Int.tdiv (wrap64 (rd l1 (ji13))) 2)) 40), .int .i64 (wrap64 (Int.tdiv (wrap64 (Int.tdiv (wrap64 (rd l1 (ji13))) 2)) 3)), .int .i64 (Int.tmod (wrap64 (Int.tdiv (wrap64 (rd l1 (ji13))) 2)) 7)] 27 (0, 0)) (by (with_reducible repeat (first|refine blk_drewN ?_ _|refine blk_drew ?_|refine blk_alloc ?_ _));exact BK11.out) hb);have n7_ := Aside0.mk (blk_below (g := gb20) (o := .cells #[.slice Ao28 t16.length co28, .int .i64 t19] 67 (0, 0)) (by (with_reducible repeat (first|refine blk_drewN ?_ _|refine blk_drew ?_|refine blk_alloc ?_ _));exact BK20.out) hb);have n8_ := Aside0.mk (below_step (by repeat (first|(with_reducible first|exact HB.out|apply below_alloc|apply pw_below_drewN|apply below_drew1|refine below_set ?_ GE11.out|refine below_set ?_ GE20.out)|exact HB.out)) hb);clear HO_5;clear HO9;clear HO14;clear HO18;clear HO24;clear BK11;clear BK20;clear HB;have HO_5 := n0_;have HO9 := n1_;have HO14 := n2_;have HO18 := n3_;have HO24 := n4_;have HO28 := n5_;have BK11 := n6_;have BK20 := n7_;have HB := n8_;clear n0_ n1_ n2_ n3_ n4_ n5_ n6_ n7_ n8_;(try clear hb);(try clear hb2);(try clear hk);(try clear hi);(try clear ho0);obtain ⟨Ao39, co39, eo39⟩ := Kd.R_slice HO28.out;subst eo39;have hcz40_0 : w38.cell? ⟨gb20, 0, none⟩ = some (.slice Ao28 t16.length co28) := (blk_cell BK20.out 0).trans rfl;have hcz40_1 : w38.cell? ⟨gb20, 1, none⟩ = some (.int .i64 t19) := (blk_cell BK20.out 1).trans rfl;have hfz40_0 := blk_frozen BK20.out 0;have hfz40_1 := blk_frozen BK20.out 1))
            go_meet
            case rel => exact ⟨_, (t22), (t25), (t26), (t29), (.slice Ao39 t26.length co39), (by first|rfl|(simp;done)|(simp [*];done)), H', ⟨by have := HJ2.out;have := HK2.out;first|omega|exact Nat.le_refl _⟩, ⟨by (with_reducible repeat (first|apply Kd.R_alloc|apply Kd.R_drewN|apply Kd.R_drew));exact Kd.R_mono (Kd.R_far (p := ⟨gb20, 1, none⟩) (Kd.R_far (p := ⟨gb20, 0, none⟩) (Kd.R_types HO_5.out BK20.out (by decide)) (fun _ hk => hk.2) (.slice Ao39 t26.length co39)) (fun _ hk => hk.2) (.int .i64 t29)) (fun _ hk => ⟨hk.1.1.2, hk.1.2⟩)⟩, ⟨by (with_reducible repeat (first|apply Kd.R_alloc|apply Kd.R_drewN|apply Kd.R_drew));exact Kd.R_mono (Kd.R_far (p := ⟨gb20, 1, none⟩) (Kd.R_far (p := ⟨gb20, 0, none⟩) (Kd.R_types HO24.out BK20.out (by decide)) (fun _ hk => hk.2) (.slice Ao39 t26.length co39)) (fun _ hk => hk.2) (.int .i64 t29)) (fun _ hk => ⟨hk.1.1.1.1.2, hk.1.2⟩)⟩, ⟨by (with_reducible repeat (first|apply Kd.R_alloc|apply Kd.R_drewN|apply Kd.R_drew));exact Kd.R_mono (Kd.R_far (p := ⟨gb20, 1, none⟩) (Kd.R_far (p := ⟨gb20, 0, none⟩) (Kd.R_types HO28.out BK20.out (by decide)) (fun _ hk => hk.2) (.slice Ao39 t26.length co39)) (fun _ hk => hk.2) (.int .i64 t29)) (fun _ hk => ⟨hk.1.1.1.1.2, hk.1.2⟩)⟩, ⟨by (with_reducible repeat (first|refine blk_drewN ?_ _|refine blk_drew ?_|refine blk_alloc ?_ _));refine blk_far ?_ NB11_20.out _;(with_reducible repeat (first|refine blk_drewN ?_ _|refine blk_drew ?_|refine blk_alloc ?_ _));refine blk_far ?_ NB11_20.out _;(with_reducible repeat (first|refine blk_drewN ?_ _|refine blk_drew ?_|refine blk_alloc ?_ _));exact BK11.out⟩, ⟨by (with_reducible repeat (first|refine blk_drewN ?_ _|refine blk_drew ?_|refine blk_alloc ?_ _));refine blk_put (cs := #[.slice Ao39 t26.length co39, .int .i64 t19]) ?_ 1 _ rfl;(with_reducible repeat (first|refine blk_drewN ?_ _|refine blk_drew ?_|refine blk_alloc ?_ _));refine blk_put (cs := #[.slice Ao28 t16.length co28, .int .i64 t19]) ?_ 0 _ rfl;(with_reducible repeat (first|refine blk_drewN ?_ _|refine blk_drew ?_|refine blk_alloc ?_ _));exact BK20.out⟩, ⟨by repeat (first|(with_reducible first|exact HB.out|apply below_alloc|apply pw_below_drewN|apply below_drew1|refine below_set ?_ GE11.out|refine below_set ?_ GE20.out)|exact HB.out)⟩⟩
           ·rw [if_neg c31] at H
            have c31b0 : decide (0 < (Int.tmod (rd l1 (ji13)) 2)) = false := decide_eq_false c31
            clear c31
            (first | rw [c31b0] | (simp only [i64_w, i32_w]; rw [c31b0]) | skip)
            have H' := Aside0.mk H
            clear H
            go_wp2
            go_meet
            case rel => exact ⟨_, (t12), (t15), (t16), (t19), (.slice Ao28 t16.length co28), (by first|rfl|(simp;done)|(simp [*];done)), H', ⟨by have := HJ2.out;have := HK2.out;first|omega|exact Nat.le_refl _⟩, ⟨by (with_reducible repeat (first|apply Kd.R_alloc|apply Kd.R_drewN|apply Kd.R_drew));exact Kd.R_mono (Kd.R_far (p := ⟨gb20, 1, none⟩) (Kd.R_far (p := ⟨gb20, 0, none⟩) (Kd.R_types HO_5.out BK20.out (by decide)) (fun _ hk => hk.2) (.slice Ao28 t16.length co28)) (fun _ hk => hk.2) (.int .i64 t19)) (fun _ hk => ⟨hk.1.1.2, hk.1.2⟩)⟩, ⟨by (with_reducible repeat (first|apply Kd.R_alloc|apply Kd.R_drewN|apply Kd.R_drew));exact Kd.R_mono (Kd.R_far (p := ⟨gb20, 1, none⟩) (Kd.R_far (p := ⟨gb20, 0, none⟩) (Kd.R_types HO14.out BK20.out (by decide)) (fun _ hk => hk.2) (.slice Ao28 t16.length co28)) (fun _ hk => hk.2) (.int .i64 t19)) (fun _ hk => ⟨hk.1.1.2, hk.1.2⟩)⟩, ⟨by (with_reducible repeat (first|apply Kd.R_alloc|apply Kd.R_drewN|apply Kd.R_drew));exact Kd.R_mono (Kd.R_far (p := ⟨gb20, 1, none⟩) (Kd.R_far (p := ⟨gb20, 0, none⟩) (Kd.R_types HO18.out BK20.out (by decide)) (fun _ hk => hk.2) (.slice Ao28 t16.length co28)) (fun _ hk => hk.2) (.int .i64 t19)) (fun _ hk => ⟨hk.1.1.2, hk.1.2⟩)⟩, ⟨by (with_reducible repeat (first|refine blk_drewN ?_ _|refine blk_drew ?_|refine blk_alloc ?_ _));refine blk_far ?_ NB11_20.out _;(with_reducible repeat (first|refine blk_drewN ?_ _|refine blk_drew ?_|refine blk_alloc ?_ _));refine blk_far ?_ NB11_20.out _;(with_reducible repeat (first|refine blk_drewN ?_ _|refine blk_drew ?_|refine blk_alloc ?_ _));exact BK11.out⟩, ⟨by (with_reducible repeat (first|refine blk_drewN ?_ _|refine blk_drew ?_|refine blk_alloc ?_ _));refine blk_put (cs := #[.slice Ao28 t16.length co28, .int .i64 0]) ?_ 1 _ rfl;(with_reducible repeat (first|refine blk_drewN ?_ _|refine blk_drew ?_|refine blk_alloc ?_ _));refine blk_put (cs := #[.slice none 0 0, .int .i64 0]) ?_ 0 _ rfl;(with_reducible repeat (first|refine blk_drewN ?_ _|refine blk_drew ?_|refine blk_alloc ?_ _));exact BK20.out⟩, ⟨by repeat (first|(with_reducible first|exact HB.out|apply below_alloc|apply pw_below_drewN|apply below_drew1|refine below_set ?_ GE11.out|refine below_set ?_ GE20.out)|exact HB.out)⟩⟩
          case rest =>
           clear HC17
           try clear c1
           try clear p1
           try clear q1
           try clear hx1
           try clear c2
           try clear p2
           try clear q2
           try clear hx2
           try clear hcv2
           try clear c3
           try clear c4
           try clear c4b0
           try clear c4b1
           try clear c5
           try clear c6
           try clear p6
           try clear q6
           try clear hx6
           try clear c7
           try clear c10
           try clear c10b0
           try clear p10
           try clear q10
           try clear hx10
           try clear c11
           try clear c11b0
           try clear c12
           try clear c12b0
           try clear c14
           try clear c14b0
           try clear c17
           try clear hcv20
           try clear p21
           try clear q21
           try clear hx21
           try clear c29
           try clear c31
           try clear c31b0
           try clear c32
           try clear c34
           try clear hcz22_0
           try clear hcz22_1
           try clear hcz22_2
           try clear hcz25_0
           try clear hcz25_1
           try clear hcz25_2
           try clear hcz30_0
           try clear hcz30_1
           try clear hcz35_0
           try clear hcz35_1
           try clear hcz35_2
           try clear hcz37_0
           try clear hcz37_1
           try clear hcz37_2
           try clear hcz40_0
           try clear hcz40_1
           try clear hfz22_0
           try clear hfz22_1
           try clear hfz22_2
           try clear hfz25_0
           try clear hfz25_1
           try clear hfz25_2
           try clear hfz30_0
           try clear hfz30_1
           try clear hfz35_0
           try clear hfz35_1
           try clear hfz35_2
           try clear hfz37_0
           try clear hfz37_1
           try clear hfz37_2
           try clear hfz40_0
           try clear hfz40_1
           try clear hx10_0
           try clear hx21_0
           try clear hx6_0
           try clear p10
           try clear p2
           try clear p21
           try clear p6
           try clear q10
           try clear q21
           try clear q6
           obtain ⟨kq, x10_16, x11_16, x21000_16, x21001_16, u21000, rfl, HA, HJ16, HO_5, HO_10, HO_21000, BK11, BK20, HB⟩ := hcut
           cases kq with
           | zero => exact absurd HA.out (by simp [law14_AdmitMade.j2])
           | succ kj16 =>
            have H := HA.out
            clear HA
            simp only [law14_AdmitMade.j2] at H
            have HC41 := Aside0.mk H
            clear H
            go_upto_region 15 with (fail)
            go_cut [103] (fun v103 wc => ∃ (kq : Nat) (x103_40 : Bool), v103 = .bool x103_40 ∧ Aside0 (law14_AdmitMade.j3 kq l1 x5_2 x6_2 x103_40 x21000_16 x21001_16 = some r) ∧ Aside0 (kq ≤ kj16) ∧ Aside0 (Kd.R k31 31 wc w.heap.size (fun k_ => some k_ ≠ (u21000 : Value).ownBlock) (.slice Ao23 x5_2.length co23) x5_2) ∧ Aside0 (Kd.R k31 31 wc w.heap.size (fun k_ => some k_ ≠ ((.slice Ao23 x5_2.length co23) : Value).ownBlock) u21000 x21000_16) ∧ Aside0 (wc.heap[gb11]? = some (.cells #[.int .i64 (Int.tmod (wrap64 (Int.tdiv (wrap64 (rd l1 (ji13))) 2)) 40), .int .i64 (wrap64 (Int.tdiv (wrap64 (Int.tdiv (wrap64 (rd l1 (ji13))) 2)) 3)), .int .i64 (Int.tmod (wrap64 (Int.tdiv (wrap64 (rd l1 (ji13))) 2)) 7)] 27 (0, 0))) ∧ Aside0 (wc.heap[gb20]? = some (.cells #[u21000, .int .i64 x21001_16] 67 (0, 0))) ∧ Aside0 (Below w.heap.size w wc))
            case first =>
             have H := HC41.out
             clear HC41
             replace H := Option.bind_eq_some_iff.mp H
             obtain ⟨t30, A420, H⟩ := H
             replace H : (if t30 = true then ((law1_Num.f x11_16).bind fun t31 => (if t31 = x21001_16 then (if x21001_16 = 0 then ((r10_Right.f kj16 x10_16).bind fun t32 => (law14_AdmitMade.j3 kj16 l1 x5_2 x6_2 (!t32) x21000_16 x21001_16)) else (law14_AdmitMade.j3 kj16 l1 x5_2 x6_2 false x21000_16 x21001_16)) else (law14_AdmitMade.j3 kj16 l1 x5_2 x6_2 true x21000_16 x21001_16))) else (law14_AdmitMade.j3 kj16 l1 x5_2 x6_2 true x21000_16 x21001_16)) = some r := H
             have A42 := Aside0.mk A420
             clear A420
             by_cases c43 : t30 = true
             ·subst c43
              have H1 : ((law1_Num.f x11_16).bind fun t31 => (if t31 = x21001_16 then (if x21001_16 = 0 then ((r10_Right.f kj16 x10_16).bind fun t32 => (law14_AdmitMade.j3 kj16 l1 x5_2 x6_2 (!t32) x21000_16 x21001_16)) else (law14_AdmitMade.j3 kj16 l1 x5_2 x6_2 false x21000_16 x21001_16)) else (law14_AdmitMade.j3 kj16 l1 x5_2 x6_2 true x21000_16 x21001_16))) = some r := by rw [if_pos rfl] at H; exact H
              clear H
              have H := H1
              clear H1
              replace H := Option.bind_eq_some_iff.mp H
              obtain ⟨t31, A440, H⟩ := H
              replace H : (if t31 = x21001_16 then (if x21001_16 = 0 then ((r10_Right.f kj16 x10_16).bind fun t32 => (law14_AdmitMade.j3 kj16 l1 x5_2 x6_2 (!t32) x21000_16 x21001_16)) else (law14_AdmitMade.j3 kj16 l1 x5_2 x6_2 false x21000_16 x21001_16)) else (law14_AdmitMade.j3 kj16 l1 x5_2 x6_2 true x21000_16 x21001_16)) = some r := H
              have A44 := Aside0.mk A440
              clear A440
              by_cases c45 : t31 = x21001_16
              ·rw [if_pos c45] at H
               have c45b0 : (t31 == x21001_16) = true := beq_iff_eq.mpr c45
               have c45b1 : (t31 != x21001_16) = false := bne_eq_false_iff_eq.mpr c45
               clear c45
               (first | rw [c45b0] | (simp only [i64_w, i32_w]; rw [c45b0]) | skip)
               by_cases c46 : x21001_16 = 0
               ·rw [if_pos c46] at H
                have c46b0 : (x21001_16 == 0) = true := beq_iff_eq.mpr c46
                have c46b1 : (x21001_16 != 0) = false := bne_eq_false_iff_eq.mpr c46
                clear c46
                replace H := Option.bind_eq_some_iff.mp H
                obtain ⟨t32, A470, H⟩ := H
                replace H : (law14_AdmitMade.j3 kj16 l1 x5_2 x6_2 (!t32) x21000_16 x21001_16) = some r := H
                have A47 := Aside0.mk A470
                clear A470
                have H' := Aside0.mk H
                clear H
                try go_wp2
                have n0_ := Aside0.mk (Kd.R_drew HO_5.out)
                have n1_ := Aside0.mk (Kd.R_drew HO_10.out)
                have n2_ := Aside0.mk (Kd.R_drew HO_21000.out)
                have n3_ := Aside0.mk (blk_drew BK11.out)
                have n4_ := Aside0.mk (blk_drew BK20.out)
                have n5_ := Aside0.mk (below_drew1 HB.out)
                clear HO_5
                clear HO_10
                clear HO_21000
                clear BK11
                clear BK20
                clear HB
                have HO_5 := n0_
                have HO_10 := n1_
                have HO_21000 := n2_
                have BK11 := n3_
                have BK20 := n4_
                have HB := n5_
                clear n0_ n1_ n2_ n3_ n4_ n5_
                obtain ⟨Ao49, co49, eo49⟩ := Kd.R_slice HO_10.out
                (first | subst eo49 | (injection eo49 with f1_ f2_ f3_; have f4_ := f1_.symm; have f5_ := f3_.symm; clear f1_ f2_ f3_; subst f4_; subst f5_))
                obtain ⟨Ao50, co50, eo50⟩ := Kd.R_slice HO_21000.out
                (first | subst eo50 | (injection eo50 with f1_ f2_ f3_; have f4_ := f1_.symm; have f5_ := f3_.symm; clear f1_ f2_ f3_; subst f4_; subst f5_))
                refine start_ (n := 22) (S := fun w' => w'.cell? ⟨gb20, 0, none⟩ = some (.slice Ao50 x21000_16.length co50) ∧ w'.cell? ⟨gb20, 1, none⟩ = some (.int .i64 x21001_16)) (ds := []) #[false, false, false, false, false, false, false, false, false, false, false, false, false, false, false, false, false, false, false, false, false, false] (by kernel_rfl) rfl rfl ⟨(blk_cell BK20.out 0).trans rfl, (blk_cell BK20.out 1).trans rfl⟩ (fun hHeld => ?_); refine with_tabW law14_AdmitMade.tab15 law14_AdmitMade.bits15 (fun HT_ HW_ => ?_)
                generalize wc.drew = w48 at HO_5 HO_10 HO_21000 BK11 BK20 HB hHeld ⊢
                refine pure_ (i := 0) (N := some 82) (v := ?_) (a' := ?_) #[true, false, false, false, false, false, false, false, false, false, false, false, false, false, false, false, false, false, false, false, false, false] rfl rfl (any_of HT_.out (by kernel_rfl)) (fun _ _ _ h => h) (Or.inl ⟨by rfl, ?_⟩) ?_ ?_
                rotate_left
                ·intro w'
                 go_simp
                 with_reducible rfl
                rotate_left
                ·simp only [Act.put, List.setIfInBounds_toArray, List.set_cons_zero, List.set_cons_succ, i64_w, i32_w]
                 rfl
                refine pure_ (i := 1) (N := some 83) (v := ?_) (a' := ?_) #[true, true, false, false, false, false, false, false, false, false, false, false, false, false, false, false, false, false, false, false, false, false] rfl rfl (any_of HT_.out (by kernel_rfl)) (fun _ _ _ h => h) (Or.inl ⟨by rfl, ?_⟩) ?_ ?_
                rotate_left
                ·intro w'
                 go_simp
                 with_reducible rfl
                rotate_left
                ·simp only [Act.put, List.setIfInBounds_toArray, List.set_cons_zero, List.set_cons_succ, i64_w, i32_w]
                 rfl
                refine take_ (i := 2) (N := some 84) (v := ?_) (a' := ?_) #[true, true, true, false, false, false, false, false, false, false, false, false, false, false, false, false, false, false, false, false, false, false] rfl rfl (take_ofW HT_.out HW_.out (by kernel_rfl)) (fun _ _ _ h => h) (Or.inl ⟨by rfl, ?_⟩) hHeld ?_ ?_
                rotate_left
                ·rintro w' ⟨s0, s1⟩
                 go_simp
                 with_reducible rfl
                rotate_left
                ·simp only [Act.put, List.setIfInBounds_toArray, List.set_cons_zero, List.set_cons_succ, i64_w, i32_w]
                 rfl
                refine one_ (i := 3) (N := some 85) #[true, true, true, true, false, false, false, false, false, false, false, false, false, false, false, false, false, false, false, false, false, false] rfl rfl (one_of HT_.out (by kernel_rfl)) (by decide) (fun K hK => ?_)
                refine goes_ Try.func62 (by kernel_rfl) rfl #[.slice Ao49 x10_16.length co49, .slice Ao50 x21000_16.length co50] (by rfl) rfl rfl (by (try simp only [List.map_toArray, List.map_cons, List.map_nil]); first | done | rfl | (simp only [List.length_drop, List.length_take]; rfl)) ?_
                with_reducible refine (r10_SameItems.calls kj16 _ _ x10_16 _ _ x21000_16 true _ ?side1 ?side2 ?side3 ?side4 A42.out).mono ?_
                (case side1 => repeat (first|exact (Kd.R_reads' HO_10.out).2.2|(with_reducible refine Kd.C_alloc ?_ _)|(with_reducible refine Kd.C_drewN ?_ _)|(with_reducible refine Kd.C_drew ?_)))
                (case side2 => exact (Kd.R_reads' HO_10.out).2.1)
                (case side3 => repeat (first|exact (Kd.R_reads' HO_21000.out).2.2|(with_reducible refine Kd.C_alloc ?_ _)|(with_reducible refine Kd.C_drewN ?_ _)|(with_reducible refine Kd.C_drew ?_)))
                (case side4 => exact (Kd.R_reads' HO_21000.out).2.1)
                rintro e w' ⟨rfl, ⟨nd, rfl⟩⟩
                refine ⟨_, rfl, ?_⟩
                refine hK.out _ _ ⟨(blk_cell BK20.out 0).trans rfl, (blk_cell BK20.out 1).trans rfl⟩ (fun hHeld => ?_)
                clear hK K
                refine norm_ (a' := ?_) ?_ ?_
                rotate_left
                ·show Act.put _ (some 85) _ = _
                 simp only [Act.put, List.setIfInBounds_toArray, List.set_cons_zero, List.set_cons_succ, i64_w, i32_w]
                 rfl
                refine pure_ (i := 4) (N := some 86) (v := ?_) (a' := ?_) #[true, true, true, true, true, false, false, false, false, false, false, false, false, false, false, false, false, false, false, false, false, false] rfl rfl (any_of HT_.out (by kernel_rfl)) (fun _ _ _ h => h) (Or.inl ⟨by rfl, ?_⟩) ?_ ?_
                rotate_left
                ·intro w'
                 go_simp
                 with_reducible rfl
                rotate_left
                ·simp only [Act.put, List.setIfInBounds_toArray, List.set_cons_zero, List.set_cons_succ, i64_w, i32_w]
                 rfl
                refine pure_ (i := 5) (N := some 87) (v := ?_) (a' := ?_) #[true, true, true, true, true, true, false, false, false, false, false, false, false, false, false, false, false, false, false, false, false, false] rfl rfl (any_of HT_.out (by kernel_rfl)) (fun _ _ _ h => h) (Or.inl ⟨by rfl, ?_⟩) ?_ ?_
                rotate_left
                ·intro w'
                 go_simp
                 with_reducible rfl
                rotate_left
                ·simp only [Act.put, List.setIfInBounds_toArray, List.set_cons_zero, List.set_cons_succ, i64_w, i32_w]
                 rfl
                refine pure_ (i := 6) (N := some 88) (v := ?_) (a' := ?_) #[true, true, true, true, true, true, true, false, false, false, false, false, false, false, false, false, false, false, false, false, false, false] rfl rfl (any_of HT_.out (by kernel_rfl)) (fun _ _ _ h => h) (Or.inl ⟨by rfl, ?_⟩) ?_ ?_
                rotate_left
                ·intro w'
                 go_simp
                 with_reducible rfl
                rotate_left
                ·simp only [Act.put, List.setIfInBounds_toArray, List.set_cons_zero, List.set_cons_succ, i64_w, i32_w]
                 rfl
                refine pure_ (i := 8) (N := some 90) (v := ?_) (a' := ?_) #[true, true, true, true, true, true, true, false, true, false, false, false, false, false, false, false, false, false, false, false, false, false] rfl rfl (any_of HT_.out (by kernel_rfl)) (fun _ _ _ h => h) (Or.inl ⟨by rfl, ?_⟩) ?_ ?_
                rotate_left
                ·intro w'
                 go_simp
                 with_reducible rfl
                rotate_left
                ·simp only [Act.put, List.setIfInBounds_toArray, List.set_cons_zero, List.set_cons_succ, i64_w, i32_w]
                 rfl
                refine take_ (i := 9) (N := some 91) (v := ?_) (a' := ?_) #[true, true, true, true, true, true, true, false, true, true, false, false, false, false, false, false, false, false, false, false, false, false] rfl rfl (take_ofW HT_.out HW_.out (by kernel_rfl)) (fun _ _ _ h => h) (Or.inl ⟨by rfl, ?_⟩) hHeld ?_ ?_
                rotate_left
                ·rintro w' ⟨s0, s1⟩
                 go_simp
                 with_reducible rfl
                rotate_left
                ·simp only [Act.put, List.setIfInBounds_toArray, List.set_cons_zero, List.set_cons_succ, i64_w, i32_w]
                 rfl
                refine one_ (i := 7) (N := some 89) #[true, true, true, true, true, true, true, true, true, true, false, false, false, false, false, false, false, false, false, false, false, false] rfl rfl (one_of HT_.out (by kernel_rfl)) (by decide) (fun K hK => ?_)
                refine goes_ Try.func61 (by kernel_rfl) rfl #[.int .i64 x11_16] (by rfl) rfl rfl (by (try simp only [List.map_toArray, List.map_cons, List.map_nil]); first | done | rfl | (simp only [List.length_drop, List.length_take]; rfl)) ?_
                with_reducible refine (law1_Num.calls x11_16 t31 _ A44.out).mono ?_
                rintro e w' ⟨rfl, ⟨nd, rfl⟩⟩
                refine ⟨_, rfl, ?_⟩
                refine hK.out _ _ ⟨(blk_cell BK20.out 0).trans rfl, (blk_cell BK20.out 1).trans rfl⟩ (fun hHeld => ?_)
                clear hK K
                refine norm_ (a' := ?_) ?_ ?_
                rotate_left
                ·show Act.put _ (some 89) _ = _
                 simp only [Act.put, List.setIfInBounds_toArray, List.set_cons_zero, List.set_cons_succ, i64_w, i32_w]
                 rfl
                refine pure_ (i := 10) (N := some 92) (v := ?_) (a' := ?_) #[true, true, true, true, true, true, true, true, true, true, true, false, false, false, false, false, false, false, false, false, false, false] rfl rfl (any_of HT_.out (by kernel_rfl)) (fun _ _ _ h => h) (Or.inl ⟨by rfl, ?_⟩) ?_ ?_
                rotate_left
                ·intro w'
                 go_simp
                 with_reducible rfl
                rotate_left
                ·simp only [Act.put, List.setIfInBounds_toArray, List.set_cons_zero, List.set_cons_succ, i64_w, i32_w]
                 rfl
                refine pure_ (i := 11) (N := some 93) (v := ?_) (a' := ?_) #[true, true, true, true, true, true, true, true, true, true, true, true, false, false, false, false, false, false, false, false, false, false] rfl rfl (any_of HT_.out (by kernel_rfl)) (fun _ _ _ h => h) (Or.inl ⟨by rfl, ?_⟩) ?_ ?_
                rotate_left
                ·intro w'
                 go_simp
                 with_reducible rfl
                rotate_left
                ·simp only [Act.put, List.setIfInBounds_toArray, List.set_cons_zero, List.set_cons_succ, i64_w, i32_w]
                 rfl
                refine pure_ (i := 12) (N := some 94) (v := ?_) (a' := ?_) #[true, true, true, true, true, true, true, true, true, true, true, true, true, false, false, false, false, false, false, false, false, false] rfl rfl (any_of HT_.out (by kernel_rfl)) (fun _ _ _ h => h) (Or.inl ⟨by rfl, ?_⟩) ?_ ?_
                rotate_left
                ·intro w'
                 go_simp
                 with_reducible rfl
                rotate_left
                ·simp only [Act.put, List.setIfInBounds_toArray, List.set_cons_zero, List.set_cons_succ, i64_w, i32_w]
                 rfl
                refine pure_ (i := 13) (N := some 95) (v := ?_) (a' := ?_) #[true, true, true, true, true, true, true, true, true, true, true, true, true, true, false, false, false, false, false, false, false, false] rfl rfl (any_of HT_.out (by kernel_rfl)) (fun _ _ _ h => h) (Or.inl ⟨by rfl, ?_⟩) ?_ ?_
                rotate_left
                ·intro w'
                 go_simp
                 with_reducible rfl
                rotate_left
                ·simp only [Act.put, List.setIfInBounds_toArray, List.set_cons_zero, List.set_cons_succ, i64_w, i32_w]
                 rfl
                refine take_ (i := 14) (N := some 96) (v := ?_) (a' := ?_) #[true, true, true, true, true, true, true, true, true, true, true, true, true, true, true, false, false, false, false, false, false, false] rfl rfl (take_ofW HT_.out HW_.out (by kernel_rfl)) (fun _ _ _ h => h) (Or.inl ⟨by rfl, ?_⟩) hHeld ?_ ?_
                rotate_left
                ·rintro w' ⟨s0, s1⟩
                 go_simp
                 with_reducible rfl
                rotate_left
                ·simp only [Act.put, List.setIfInBounds_toArray, List.set_cons_zero, List.set_cons_succ, i64_w, i32_w]
                 rfl
                refine pure_ (i := 15) (N := some 97) (v := ?_) (a' := ?_) #[true, true, true, true, true, true, true, true, true, true, true, true, true, true, true, true, false, false, false, false, false, false] rfl rfl (any_of HT_.out (by kernel_rfl)) (fun _ _ _ h => h) (Or.inl ⟨by rfl, ?_⟩) ?_ ?_
                rotate_left
                ·intro w'
                 go_simp
                 with_reducible rfl
                rotate_left
                ·simp only [Act.put, List.setIfInBounds_toArray, List.set_cons_zero, List.set_cons_succ, i64_w, i32_w]
                 rfl
                refine pure_ (i := 16) (N := some 98) (v := ?_) (a' := ?_) #[true, true, true, true, true, true, true, true, true, true, true, true, true, true, true, true, true, false, false, false, false, false] rfl rfl (any_of HT_.out (by kernel_rfl)) (fun _ _ _ h => h) (Or.inl ⟨by rfl, ?_⟩) ?_ ?_
                rotate_left
                ·intro w'
                 go_simp
                 with_reducible rfl
                rotate_left
                ·simp only [Act.put, List.setIfInBounds_toArray, List.set_cons_zero, List.set_cons_succ, i64_w, i32_w]
                 rfl
                refine pure_ (i := 17) (N := some 99) (v := ?_) (a' := ?_) #[true, true, true, true, true, true, true, true, true, true, true, true, true, true, true, true, true, true, false, false, false, false] rfl rfl (any_of HT_.out (by kernel_rfl)) (fun _ _ _ h => h) (Or.inl ⟨by rfl, ?_⟩) ?_ ?_
                rotate_left
                ·intro w'
                 go_simp
                 with_reducible rfl
                rotate_left
                ·simp only [Act.put, List.setIfInBounds_toArray, List.set_cons_zero, List.set_cons_succ, i64_w, i32_w]
                 rfl
                refine one_ (i := 18) (N := some 100) #[true, true, true, true, true, true, true, true, true, true, true, true, true, true, true, true, true, true, true, false, false, false] rfl rfl (one_of HT_.out (by kernel_rfl)) (by decide) (fun K hK => ?_)
                refine goes_ Try.func41 (by kernel_rfl) rfl #[.slice Ao49 x10_16.length co49] (by rfl) rfl rfl (by (try simp only [List.map_toArray, List.map_cons, List.map_nil]); first | done | rfl | (simp only [List.length_drop, List.length_take]; rfl)) ?_
                with_reducible refine (r10_Right.calls kj16 _ _ x10_16 t32 _ ?side1 ?side2 A47.out).mono ?_
                (case side1 => repeat (first|exact (Kd.R_reads' HO_10.out).2.2|(with_reducible refine Kd.C_alloc ?_ _)|(with_reducible refine Kd.C_drewN ?_ _)|(with_reducible refine Kd.C_drew ?_)))
                (case side2 => exact (Kd.R_reads' HO_10.out).2.1)
                rintro e w51 ⟨rfl, hb⟩
                refine ⟨_, rfl, ?_⟩
                have n0_ := Aside0.mk (Kd.R_below (by (with_reducible repeat (first|apply Kd.R_alloc|apply Kd.R_drewN|apply Kd.R_drew));exact HO_5.out) hb)
                have n1_ := Aside0.mk (Kd.R_below (by (with_reducible repeat (first|apply Kd.R_alloc|apply Kd.R_drewN|apply Kd.R_drew));exact HO_10.out) hb)
                have n2_ := Aside0.mk (Kd.R_below (by (with_reducible repeat (first|apply Kd.R_alloc|apply Kd.R_drewN|apply Kd.R_drew));exact HO_21000.out) hb)
                have n3_ := Aside0.mk (blk_below (g := gb11) (o := .cells #[.int .i64 (Int.tmod (wrap64 (Int.tdiv (wrap64 (rd l1 (ji13))) 2)) 40), .int .i64 (wrap64 (Int.tdiv (wrap64 (Int.tdiv (wrap64 (rd l1 (ji13))) 2)) 3)), .int .i64 (Int.tmod (wrap64 (Int.tdiv (wrap64 (rd l1 (ji13))) 2)) 7)] 27 (0, 0)) (by (with_reducible repeat (first|refine blk_drewN ?_ _|refine blk_drew ?_|refine blk_alloc ?_ _));exact BK11.out) hb)
                have n4_ := Aside0.mk (blk_below (g := gb20) (o := .cells #[.slice Ao50 x21000_16.length co50, .int .i64 x21001_16] 67 (0, 0)) (by (with_reducible repeat (first|refine blk_drewN ?_ _|refine blk_drew ?_|refine blk_alloc ?_ _));exact BK20.out) hb)
                have n5_ := Aside0.mk (below_step (by repeat (first|(with_reducible first|exact HB.out|apply below_alloc|apply pw_below_drewN|apply below_drew1|refine below_set ?_ GE11.out|refine below_set ?_ GE20.out)|exact HB.out)) hb)
                clear HO_5
                clear HO_10
                clear HO_21000
                clear BK11
                clear BK20
                clear HB
                have HO_5 := n0_
                have HO_10 := n1_
                have HO_21000 := n2_
                have BK11 := n3_
                have BK20 := n4_
                have HB := n5_
                clear n0_ n1_ n2_ n3_ n4_ n5_
                (try clear hb)
                (try clear hb2)
                (try clear hk)
                (try clear hi)
                refine hK.out _ _ ⟨(blk_cell BK20.out 0).trans rfl, (blk_cell BK20.out 1).trans rfl⟩ (fun hHeld => ?_)
                clear hK K
                refine norm_ (a' := ?_) ?_ ?_
                rotate_left
                ·show Act.put _ (some 100) _ = _
                 simp only [Act.put, List.setIfInBounds_toArray, List.set_cons_zero, List.set_cons_succ, i64_w, i32_w]
                 rfl
                refine pure_ (i := 19) (N := some 101) (v := ?_) (a' := ?_) #[true, true, true, true, true, true, true, true, true, true, true, true, true, true, true, true, true, true, true, true, false, false] rfl rfl (any_of HT_.out (by kernel_rfl)) (fun _ _ _ h => h) (Or.inl ⟨by rfl, ?_⟩) ?_ ?_
                rotate_left
                ·intro w'
                 go_simp
                 with_reducible rfl
                rotate_left
                ·simp only [Act.put, List.setIfInBounds_toArray, List.set_cons_zero, List.set_cons_succ, i64_w, i32_w]
                 rfl
                refine pure_ (i := 20) (N := some 102) (v := ?_) (a' := ?_) #[true, true, true, true, true, true, true, true, true, true, true, true, true, true, true, true, true, true, true, true, true, false] rfl rfl (any_of HT_.out (by kernel_rfl)) (fun _ _ _ h => h) (Or.inl ⟨by rfl, ?_⟩) ?_ ?_
                rotate_left
                ·intro w'
                 go_simp
                 with_reducible rfl
                rotate_left
                ·simp only [Act.put, List.setIfInBounds_toArray, List.set_cons_zero, List.set_cons_succ, i64_w, i32_w]
                 rfl
                refine pure_ (i := 21) (N := some 103) (v := ?_) (a' := ?_) #[true, true, true, true, true, true, true, true, true, true, true, true, true, true, true, true, true, true, true, true, true, true] rfl rfl (any_of HT_.out (by kernel_rfl)) (fun _ _ _ h => h) (Or.inl ⟨by rfl, ?_⟩) ?_ ?_
                rotate_left
                ·intro w'
                 go_simp
                 with_reducible rfl
                rotate_left
                ·simp only [Act.put, List.setIfInBounds_toArray, List.set_cons_zero, List.set_cons_succ, i64_w, i32_w]
                 rfl
                refine done_ (done_of HT_.out (by kernel_rfl)) ?_
                try go_wp2
                go_meet
                case rel => exact ⟨_, (!t32), (by first|rfl|(simp;done)|(simp [*];done)), H', ⟨by have := HJ2.out;have := HK2.out;have := HJ16.out;first|omega|exact Nat.le_refl _⟩, ⟨by (with_reducible repeat (first|apply Kd.R_alloc|apply Kd.R_drewN|apply Kd.R_drew));exact Kd.R_mono HO_5.out (fun _ hk => hk.2)⟩, ⟨by (with_reducible repeat (first|apply Kd.R_alloc|apply Kd.R_drewN|apply Kd.R_drew));exact Kd.R_mono HO_21000.out (fun _ hk => hk.1)⟩, ⟨by (with_reducible repeat (first|refine blk_drewN ?_ _|refine blk_drew ?_|refine blk_alloc ?_ _));exact BK11.out⟩, ⟨by (with_reducible repeat (first|refine blk_drewN ?_ _|refine blk_drew ?_|refine blk_alloc ?_ _));exact BK20.out⟩, ⟨by repeat (first|(with_reducible first|exact HB.out|apply below_alloc|apply pw_below_drewN|apply below_drew1|refine below_set ?_ GE11.out|refine below_set ?_ GE20.out)|exact HB.out)⟩⟩
               ·rw [if_neg c46] at H
                have c46b0 : (x21001_16 == 0) = false := beq_eq_false_iff_ne.mpr c46
                have c46b1 : (x21001_16 != 0) = true := bne_iff_ne.mpr c46
                have H' := Aside0.mk H
                clear H
                try go_wp2
                have n0_ := Aside0.mk (Kd.R_drew HO_5.out)
                have n1_ := Aside0.mk (Kd.R_drew HO_10.out)
                have n2_ := Aside0.mk (Kd.R_drew HO_21000.out)
                have n3_ := Aside0.mk (blk_drew BK11.out)
                have n4_ := Aside0.mk (blk_drew BK20.out)
                have n5_ := Aside0.mk (below_drew1 HB.out)
                clear HO_5
                clear HO_10
                clear HO_21000
                clear BK11
                clear BK20
                clear HB
                have HO_5 := n0_
                have HO_10 := n1_
                have HO_21000 := n2_
                have BK11 := n3_
                have BK20 := n4_
                have HB := n5_
                clear n0_ n1_ n2_ n3_ n4_ n5_
                obtain ⟨Ao53, co53, eo53⟩ := Kd.R_slice HO_10.out
                (first | subst eo53 | (injection eo53 with f1_ f2_ f3_; have f4_ := f1_.symm; have f5_ := f3_.symm; clear f1_ f2_ f3_; subst f4_; subst f5_))
                obtain ⟨Ao54, co54, eo54⟩ := Kd.R_slice HO_21000.out
                (first | subst eo54 | (injection eo54 with f1_ f2_ f3_; have f4_ := f1_.symm; have f5_ := f3_.symm; clear f1_ f2_ f3_; subst f4_; subst f5_))
                refine start_ (n := 22) (S := fun w' => w'.cell? ⟨gb20, 0, none⟩ = some (.slice Ao54 x21000_16.length co54) ∧ w'.cell? ⟨gb20, 1, none⟩ = some (.int .i64 x21001_16)) (ds := []) #[false, false, false, false, false, false, false, false, false, false, false, false, false, false, false, false, false, false, false, false, false, false] (by kernel_rfl) rfl rfl ⟨(blk_cell BK20.out 0).trans rfl, (blk_cell BK20.out 1).trans rfl⟩ (fun hHeld => ?_); refine with_tabW law14_AdmitMade.tab15 law14_AdmitMade.bits15 (fun HT_ HW_ => ?_)
                generalize wc.drew = w52 at HO_5 HO_10 HO_21000 BK11 BK20 HB hHeld ⊢
                refine pure_ (i := 0) (N := some 82) (v := ?_) (a' := ?_) #[true, false, false, false, false, false, false, false, false, false, false, false, false, false, false, false, false, false, false, false, false, false] rfl rfl (any_of HT_.out (by kernel_rfl)) (fun _ _ _ h => h) (Or.inl ⟨by rfl, ?_⟩) ?_ ?_
                rotate_left
                ·intro w'
                 go_simp
                 with_reducible rfl
                rotate_left
                ·simp only [Act.put, List.setIfInBounds_toArray, List.set_cons_zero, List.set_cons_succ, i64_w, i32_w]
                 rfl
                refine pure_ (i := 1) (N := some 83) (v := ?_) (a' := ?_) #[true, true, false, false, false, false, false, false, false, false, false, false, false, false, false, false, false, false, false, false, false, false] rfl rfl (any_of HT_.out (by kernel_rfl)) (fun _ _ _ h => h) (Or.inl ⟨by rfl, ?_⟩) ?_ ?_
                rotate_left
                ·intro w'
                 go_simp
                 with_reducible rfl
                rotate_left
                ·simp only [Act.put, List.setIfInBounds_toArray, List.set_cons_zero, List.set_cons_succ, i64_w, i32_w]
                 rfl
                refine take_ (i := 2) (N := some 84) (v := ?_) (a' := ?_) #[true, true, true, false, false, false, false, false, false, false, false, false, false, false, false, false, false, false, false, false, false, false] rfl rfl (take_ofW HT_.out HW_.out (by kernel_rfl)) (fun _ _ _ h => h) (Or.inl ⟨by rfl, ?_⟩) hHeld ?_ ?_
                rotate_left
                ·rintro w' ⟨s0, s1⟩
                 go_simp
                 with_reducible rfl
                rotate_left
                ·simp only [Act.put, List.setIfInBounds_toArray, List.set_cons_zero, List.set_cons_succ, i64_w, i32_w]
                 rfl
                refine one_ (i := 3) (N := some 85) #[true, true, true, true, false, false, false, false, false, false, false, false, false, false, false, false, false, false, false, false, false, false] rfl rfl (one_of HT_.out (by kernel_rfl)) (by decide) (fun K hK => ?_)
                refine goes_ Try.func62 (by kernel_rfl) rfl #[.slice Ao53 x10_16.length co53, .slice Ao54 x21000_16.length co54] (by rfl) rfl rfl (by (try simp only [List.map_toArray, List.map_cons, List.map_nil]); first | done | rfl | (simp only [List.length_drop, List.length_take]; rfl)) ?_
                with_reducible refine (r10_SameItems.calls kj16 _ _ x10_16 _ _ x21000_16 true _ ?side1 ?side2 ?side3 ?side4 A42.out).mono ?_
                (case side1 => repeat (first|exact (Kd.R_reads' HO_10.out).2.2|(with_reducible refine Kd.C_alloc ?_ _)|(with_reducible refine Kd.C_drewN ?_ _)|(with_reducible refine Kd.C_drew ?_)))
                (case side2 => exact (Kd.R_reads' HO_10.out).2.1)
                (case side3 => repeat (first|exact (Kd.R_reads' HO_21000.out).2.2|(with_reducible refine Kd.C_alloc ?_ _)|(with_reducible refine Kd.C_drewN ?_ _)|(with_reducible refine Kd.C_drew ?_)))
                (case side4 => exact (Kd.R_reads' HO_21000.out).2.1)
                rintro e w' ⟨rfl, ⟨nd, rfl⟩⟩
                refine ⟨_, rfl, ?_⟩
                refine hK.out _ _ ⟨(blk_cell BK20.out 0).trans rfl, (blk_cell BK20.out 1).trans rfl⟩ (fun hHeld => ?_)
                clear hK K
                refine norm_ (a' := ?_) ?_ ?_
                rotate_left
                ·show Act.put _ (some 85) _ = _
                 simp only [Act.put, List.setIfInBounds_toArray, List.set_cons_zero, List.set_cons_succ, i64_w, i32_w]
                 rfl
                refine pure_ (i := 4) (N := some 86) (v := ?_) (a' := ?_) #[true, true, true, true, true, false, false, false, false, false, false, false, false, false, false, false, false, false, false, false, false, false] rfl rfl (any_of HT_.out (by kernel_rfl)) (fun _ _ _ h => h) (Or.inl ⟨by rfl, ?_⟩) ?_ ?_
                rotate_left
                ·intro w'
                 go_simp
                 with_reducible rfl
                rotate_left
                ·simp only [Act.put, List.setIfInBounds_toArray, List.set_cons_zero, List.set_cons_succ, i64_w, i32_w]
                 rfl
                refine pure_ (i := 5) (N := some 87) (v := ?_) (a' := ?_) #[true, true, true, true, true, true, false, false, false, false, false, false, false, false, false, false, false, false, false, false, false, false] rfl rfl (any_of HT_.out (by kernel_rfl)) (fun _ _ _ h => h) (Or.inl ⟨by rfl, ?_⟩) ?_ ?_
                rotate_left
                ·intro w'
                 go_simp
                 with_reducible rfl
                rotate_left
                ·simp only [Act.put, List.setIfInBounds_toArray, List.set_cons_zero, List.set_cons_succ, i64_w, i32_w]
                 rfl
                refine pure_ (i := 6) (N := some 88) (v := ?_) (a' := ?_) #[true, true, true, true, true, true, true, false, false, false, false, false, false, false, false, false, false, false, false, false, false, false] rfl rfl (any_of HT_.out (by kernel_rfl)) (fun _ _ _ h => h) (Or.inl ⟨by rfl, ?_⟩) ?_ ?_
                rotate_left
                ·intro w'
                 go_simp
                 with_reducible rfl
                rotate_left
                ·simp only [Act.put, List.setIfInBounds_toArray, List.set_cons_zero, List.set_cons_succ, i64_w, i32_w]
                 rfl
                refine pure_ (i := 8) (N := some 90) (v := ?_) (a' := ?_) #[true, true, true, true, true, true, true, false, true, false, false, false, false, false, false, false, false, false, false, false, false, false] rfl rfl (any_of HT_.out (by kernel_rfl)) (fun _ _ _ h => h) (Or.inl ⟨by rfl, ?_⟩) ?_ ?_
                rotate_left
                ·intro w'
                 go_simp
                 with_reducible rfl
                rotate_left
                ·simp only [Act.put, List.setIfInBounds_toArray, List.set_cons_zero, List.set_cons_succ, i64_w, i32_w]
                 rfl
                refine take_ (i := 9) (N := some 91) (v := ?_) (a' := ?_) #[true, true, true, true, true, true, true, false, true, true, false, false, false, false, false, false, false, false, false, false, false, false] rfl rfl (take_ofW HT_.out HW_.out (by kernel_rfl)) (fun _ _ _ h => h) (Or.inl ⟨by rfl, ?_⟩) hHeld ?_ ?_
                rotate_left
                ·rintro w' ⟨s0, s1⟩
                 go_simp
                 with_reducible rfl
                rotate_left
                ·simp only [Act.put, List.setIfInBounds_toArray, List.set_cons_zero, List.set_cons_succ, i64_w, i32_w]
                 rfl
                refine one_ (i := 7) (N := some 89) #[true, true, true, true, true, true, true, true, true, true, false, false, false, false, false, false, false, false, false, false, false, false] rfl rfl (one_of HT_.out (by kernel_rfl)) (by decide) (fun K hK => ?_)
                refine goes_ Try.func61 (by kernel_rfl) rfl #[.int .i64 x11_16] (by rfl) rfl rfl (by (try simp only [List.map_toArray, List.map_cons, List.map_nil]); first | done | rfl | (simp only [List.length_drop, List.length_take]; rfl)) ?_
                with_reducible refine (law1_Num.calls x11_16 t31 _ A44.out).mono ?_
                rintro e w' ⟨rfl, ⟨nd, rfl⟩⟩
                refine ⟨_, rfl, ?_⟩
                refine hK.out _ _ ⟨(blk_cell BK20.out 0).trans rfl, (blk_cell BK20.out 1).trans rfl⟩ (fun hHeld => ?_)
                clear hK K
                refine norm_ (a' := ?_) ?_ ?_
                rotate_left
                ·show Act.put _ (some 89) _ = _
                 simp only [Act.put, List.setIfInBounds_toArray, List.set_cons_zero, List.set_cons_succ, i64_w, i32_w]
                 rfl
                refine pure_ (i := 10) (N := some 92) (v := ?_) (a' := ?_) #[true, true, true, true, true, true, true, true, true, true, true, false, false, false, false, false, false, false, false, false, false, false] rfl rfl (any_of HT_.out (by kernel_rfl)) (fun _ _ _ h => h) (Or.inl ⟨by rfl, ?_⟩) ?_ ?_
                rotate_left
                ·intro w'
                 go_simp
                 with_reducible rfl
                rotate_left
                ·simp only [Act.put, List.setIfInBounds_toArray, List.set_cons_zero, List.set_cons_succ, i64_w, i32_w]
                 rfl
                refine pure_ (i := 11) (N := some 93) (v := ?_) (a' := ?_) #[true, true, true, true, true, true, true, true, true, true, true, true, false, false, false, false, false, false, false, false, false, false] rfl rfl (any_of HT_.out (by kernel_rfl)) (fun _ _ _ h => h) (Or.inl ⟨by rfl, ?_⟩) ?_ ?_
                rotate_left
                ·intro w'
                 go_simp
                 with_reducible rfl
                rotate_left
                ·simp only [Act.put, List.setIfInBounds_toArray, List.set_cons_zero, List.set_cons_succ, i64_w, i32_w]
                 rfl
                refine pure_ (i := 12) (N := some 94) (v := ?_) (a' := ?_) #[true, true, true, true, true, true, true, true, true, true, true, true, true, false, false, false, false, false, false, false, false, false] rfl rfl (any_of HT_.out (by kernel_rfl)) (fun _ _ _ h => h) (Or.inl ⟨by rfl, ?_⟩) ?_ ?_
                rotate_left
                ·intro w'
                 go_simp
                 with_reducible rfl
                rotate_left
                ·simp only [Act.put, List.setIfInBounds_toArray, List.set_cons_zero, List.set_cons_succ, i64_w, i32_w]
                 rfl
                refine pure_ (i := 13) (N := some 95) (v := ?_) (a' := ?_) #[true, true, true, true, true, true, true, true, true, true, true, true, true, true, false, false, false, false, false, false, false, false] rfl rfl (any_of HT_.out (by kernel_rfl)) (fun _ _ _ h => h) (Or.inl ⟨by rfl, ?_⟩) ?_ ?_
                rotate_left
                ·intro w'
                 go_simp
                 with_reducible rfl
                rotate_left
                ·simp only [Act.put, List.setIfInBounds_toArray, List.set_cons_zero, List.set_cons_succ, i64_w, i32_w]
                 rfl
                refine take_ (i := 14) (N := some 96) (v := ?_) (a' := ?_) #[true, true, true, true, true, true, true, true, true, true, true, true, true, true, true, false, false, false, false, false, false, false] rfl rfl (take_ofW HT_.out HW_.out (by kernel_rfl)) (fun _ _ _ h => h) (Or.inl ⟨by rfl, ?_⟩) hHeld ?_ ?_
                rotate_left
                ·rintro w' ⟨s0, s1⟩
                 go_simp
                 with_reducible rfl
                rotate_left
                ·simp only [Act.put, List.setIfInBounds_toArray, List.set_cons_zero, List.set_cons_succ, i64_w, i32_w]
                 rfl
                refine pure_ (i := 15) (N := some 97) (v := ?_) (a' := ?_) #[true, true, true, true, true, true, true, true, true, true, true, true, true, true, true, true, false, false, false, false, false, false] rfl rfl (any_of HT_.out (by kernel_rfl)) (fun _ _ _ h => h) (Or.inl ⟨by rfl, ?_⟩) ?_ ?_
                rotate_left
                ·intro w'
                 go_simp
                 with_reducible rfl
                rotate_left
                ·simp only [Act.put, List.setIfInBounds_toArray, List.set_cons_zero, List.set_cons_succ, i64_w, i32_w]
                 rfl
                refine pure_ (i := 16) (N := some 98) (v := ?_) (a' := ?_) #[true, true, true, true, true, true, true, true, true, true, true, true, true, true, true, true, true, false, false, false, false, false] rfl rfl (any_of HT_.out (by kernel_rfl)) (fun _ _ _ h => h) (Or.inl ⟨by rfl, ?_⟩) ?_ ?_
                rotate_left
                ·intro w'
                 go_simp
                 with_reducible rfl
                rotate_left
                ·simp only [Act.put, List.setIfInBounds_toArray, List.set_cons_zero, List.set_cons_succ, i64_w, i32_w]
                 rfl
                refine pure_ (i := 17) (N := some 99) (v := undef) (a' := ?_) #[true, true, true, true, true, true, true, true, true, true, true, true, true, true, true, true, true, true, false, false, false, false] rfl rfl (any_of HT_.out (by kernel_rfl)) (fun _ _ _ h => h) (Or.inr ⟨by rfl, rfl⟩) ?_ ?_
                rotate_left
                ·simp only [Act.put, List.setIfInBounds_toArray, List.set_cons_zero, List.set_cons_succ, i64_w, i32_w]
                 rfl
                refine pure_ (i := 18) (N := some 100) (v := undef) (a' := ?_) #[true, true, true, true, true, true, true, true, true, true, true, true, true, true, true, true, true, true, true, false, false, false] rfl rfl (any_of HT_.out (by kernel_rfl)) (fun _ _ _ h => h) (Or.inr ⟨by rfl, rfl⟩) ?_ ?_
                rotate_left
                ·simp only [Act.put, List.setIfInBounds_toArray, List.set_cons_zero, List.set_cons_succ, i64_w, i32_w]
                 rfl
                refine pure_ (i := 19) (N := some 101) (v := undef) (a' := ?_) #[true, true, true, true, true, true, true, true, true, true, true, true, true, true, true, true, true, true, true, true, false, false] rfl rfl (any_of HT_.out (by kernel_rfl)) (fun _ _ _ h => h) (Or.inr ⟨by rfl, rfl⟩) ?_ ?_
                rotate_left
                ·simp only [Act.put, List.setIfInBounds_toArray, List.set_cons_zero, List.set_cons_succ, i64_w, i32_w]
                 rfl
                refine pure_ (i := 20) (N := some 102) (v := ?_) (a' := ?_) #[true, true, true, true, true, true, true, true, true, true, true, true, true, true, true, true, true, true, true, true, true, false] rfl rfl (any_of HT_.out (by kernel_rfl)) (fun _ _ _ h => h) (Or.inl ⟨by rfl, ?_⟩) ?_ ?_
                rotate_left
                ·intro w'
                 go_simp
                 with_reducible rfl
                rotate_left
                ·simp only [Act.put, List.setIfInBounds_toArray, List.set_cons_zero, List.set_cons_succ, i64_w, i32_w]
                 rfl
                refine pure_ (i := 21) (N := some 103) (v := ?_) (a' := ?_) #[true, true, true, true, true, true, true, true, true, true, true, true, true, true, true, true, true, true, true, true, true, true] rfl rfl (any_of HT_.out (by kernel_rfl)) (fun _ _ _ h => h) (Or.inl ⟨by rfl, ?_⟩) ?_ ?_
                rotate_left
                ·intro w'
                 go_simp
                 with_reducible rfl
                rotate_left
                ·simp only [Act.put, List.setIfInBounds_toArray, List.set_cons_zero, List.set_cons_succ, i64_w, i32_w]
                 rfl
                refine done_ (done_of HT_.out (by kernel_rfl)) ?_
                try go_wp2
                go_meet
                case rel => exact ⟨_, (false), (by first|rfl|(simp;done)|(simp [*];done)), H', ⟨by have := HJ2.out;have := HK2.out;have := HJ16.out;first|omega|exact Nat.le_refl _⟩, ⟨by (with_reducible repeat (first|apply Kd.R_alloc|apply Kd.R_drewN|apply Kd.R_drew));exact Kd.R_mono HO_5.out (fun _ hk => hk.2)⟩, ⟨by (with_reducible repeat (first|apply Kd.R_alloc|apply Kd.R_drewN|apply Kd.R_drew));exact Kd.R_mono HO_21000.out (fun _ hk => hk.1)⟩, ⟨by (with_reducible repeat (first|refine blk_drewN ?_ _|refine blk_drew ?_|refine blk_alloc ?_ _));exact BK11.out⟩, ⟨by (with_reducible repeat (first|refine blk_drewN ?_ _|refine blk_drew ?_|refine blk_alloc ?_ _));exact BK20.out⟩, ⟨by repeat (first|(with_reducible first|exact HB.out|apply below_alloc|apply pw_below_drewN|apply below_drew1|refine below_set ?_ GE11.out|refine below_set ?_ GE20.out)|exact HB.out)⟩⟩
              ·rw [if_neg c45] at H
               have c45b0 : (t31 == x21001_16) = false := beq_eq_false_iff_ne.mpr c45
               have c45b1 : (t31 != x21001_16) = true := bne_iff_ne.mpr c45
               (first | rw [c45b0] | (simp only [i64_w, i32_w]; rw [c45b0]) | skip)
               have H' := Aside0.mk H
               clear H
               try go_wp2
               have n0_ := Aside0.mk (Kd.R_drew HO_5.out)
               have n1_ := Aside0.mk (Kd.R_drew HO_10.out)
               have n2_ := Aside0.mk (Kd.R_drew HO_21000.out)
               have n3_ := Aside0.mk (blk_drew BK11.out)
               have n4_ := Aside0.mk (blk_drew BK20.out)
               have n5_ := Aside0.mk (below_drew1 HB.out)
               clear HO_5
               clear HO_10
               clear HO_21000
               clear BK11
               clear BK20
               clear HB
               have HO_5 := n0_
               have HO_10 := n1_
               have HO_21000 := n2_
               have BK11 := n3_
               have BK20 := n4_
               have HB := n5_
               clear n0_ n1_ n2_ n3_ n4_ n5_
               obtain ⟨Ao56, co56, eo56⟩ := Kd.R_slice HO_10.out
               (first | subst eo56 | (injection eo56 with f1_ f2_ f3_; have f4_ := f1_.symm; have f5_ := f3_.symm; clear f1_ f2_ f3_; subst f4_; subst f5_))
               obtain ⟨Ao57, co57, eo57⟩ := Kd.R_slice HO_21000.out
               (first | subst eo57 | (injection eo57 with f1_ f2_ f3_; have f4_ := f1_.symm; have f5_ := f3_.symm; clear f1_ f2_ f3_; subst f4_; subst f5_))
               refine start_ (n := 22) (S := fun w' => w'.cell? ⟨gb20, 0, none⟩ = some (.slice Ao57 x21000_16.length co57) ∧ w'.cell? ⟨gb20, 1, none⟩ = some (.int .i64 x21001_16)) (ds := []) #[false, false, false, false, false, false, false, false, false, false, false, false, false, false, false, false, false, false, false, false, false, false] (by kernel_rfl) rfl rfl ⟨(blk_cell BK20.out 0).trans rfl, (blk_cell BK20.out 1).trans rfl⟩ (fun hHeld => ?_); refine with_tabW law14_AdmitMade.tab15 law14_AdmitMade.bits15 (fun HT_ HW_ => ?_)
               generalize wc.drew = w55 at HO_5 HO_10 HO_21000 BK11 BK20 HB hHeld ⊢
               refine pure_ (i := 0) (N := some 82) (v := ?_) (a' := ?_) #[true, false, false, false, false, false, false, false, false, false, false, false, false, false, false, false, false, false, false, false, false, false] rfl rfl (any_of HT_.out (by kernel_rfl)) (fun _ _ _ h => h) (Or.inl ⟨by rfl, ?_⟩) ?_ ?_
               rotate_left
               ·intro w'
                go_simp
                with_reducible rfl
               rotate_left
               ·simp only [Act.put, List.setIfInBounds_toArray, List.set_cons_zero, List.set_cons_succ, i64_w, i32_w]
                rfl
               refine pure_ (i := 1) (N := some 83) (v := ?_) (a' := ?_) #[true, true, false, false, false, false, false, false, false, false, false, false, false, false, false, false, false, false, false, false, false, false] rfl rfl (any_of HT_.out (by kernel_rfl)) (fun _ _ _ h => h) (Or.inl ⟨by rfl, ?_⟩) ?_ ?_
               rotate_left
               ·intro w'
                go_simp
                with_reducible rfl
               rotate_left
               ·simp only [Act.put, List.setIfInBounds_toArray, List.set_cons_zero, List.set_cons_succ, i64_w, i32_w]
                rfl
               refine take_ (i := 2) (N := some 84) (v := ?_) (a' := ?_) #[true, true, true, false, false, false, false, false, false, false, false, false, false, false, false, false, false, false, false, false, false, false] rfl rfl (take_ofW HT_.out HW_.out (by kernel_rfl)) (fun _ _ _ h => h) (Or.inl ⟨by rfl, ?_⟩) hHeld ?_ ?_
               rotate_left
               ·rintro w' ⟨s0, s1⟩
                go_simp
                with_reducible rfl
               rotate_left
               ·simp only [Act.put, List.setIfInBounds_toArray, List.set_cons_zero, List.set_cons_succ, i64_w, i32_w]
                rfl
               refine one_ (i := 3) (N := some 85) #[true, true, true, true, false, false, false, false, false, false, false, false, false, false, false, false, false, false, false, false, false, false] rfl rfl (one_of HT_.out (by kernel_rfl)) (by decide) (fun K hK => ?_)
               refine goes_ Try.func62 (by kernel_rfl) rfl #[.slice Ao56 x10_16.length co56, .slice Ao57 x21000_16.length co57] (by rfl) rfl rfl (by (try simp only [List.map_toArray, List.map_cons, List.map_nil]); first | done | rfl | (simp only [List.length_drop, List.length_take]; rfl)) ?_
               with_reducible refine (r10_SameItems.calls kj16 _ _ x10_16 _ _ x21000_16 true _ ?side1 ?side2 ?side3 ?side4 A42.out).mono ?_
               (case side1 => repeat (first|exact (Kd.R_reads' HO_10.out).2.2|(with_reducible refine Kd.C_alloc ?_ _)|(with_reducible refine Kd.C_drewN ?_ _)|(with_reducible refine Kd.C_drew ?_)))
               (case side2 => exact (Kd.R_reads' HO_10.out).2.1)
               (case side3 => repeat (first|exact (Kd.R_reads' HO_21000.out).2.2|(with_reducible refine Kd.C_alloc ?_ _)|(with_reducible refine Kd.C_drewN ?_ _)|(with_reducible refine Kd.C_drew ?_)))
               (case side4 => exact (Kd.R_reads' HO_21000.out).2.1)
               rintro e w' ⟨rfl, ⟨nd, rfl⟩⟩
               refine ⟨_, rfl, ?_⟩
               refine hK.out _ _ ⟨(blk_cell BK20.out 0).trans rfl, (blk_cell BK20.out 1).trans rfl⟩ (fun hHeld => ?_)
               clear hK K
               refine norm_ (a' := ?_) ?_ ?_
               rotate_left
               ·show Act.put _ (some 85) _ = _
                simp only [Act.put, List.setIfInBounds_toArray, List.set_cons_zero, List.set_cons_succ, i64_w, i32_w]
                rfl
               refine pure_ (i := 4) (N := some 86) (v := ?_) (a' := ?_) #[true, true, true, true, true, false, false, false, false, false, false, false, false, false, false, false, false, false, false, false, false, false] rfl rfl (any_of HT_.out (by kernel_rfl)) (fun _ _ _ h => h) (Or.inl ⟨by rfl, ?_⟩) ?_ ?_
               rotate_left
               ·intro w'
                go_simp
                with_reducible rfl
               rotate_left
               ·simp only [Act.put, List.setIfInBounds_toArray, List.set_cons_zero, List.set_cons_succ, i64_w, i32_w]
                rfl
               refine pure_ (i := 5) (N := some 87) (v := ?_) (a' := ?_) #[true, true, true, true, true, true, false, false, false, false, false, false, false, false, false, false, false, false, false, false, false, false] rfl rfl (any_of HT_.out (by kernel_rfl)) (fun _ _ _ h => h) (Or.inl ⟨by rfl, ?_⟩) ?_ ?_
               rotate_left
               ·intro w'
                go_simp
                with_reducible rfl
               rotate_left
               ·simp only [Act.put, List.setIfInBounds_toArray, List.set_cons_zero, List.set_cons_succ, i64_w, i32_w]
                rfl
               refine pure_ (i := 6) (N := some 88) (v := ?_) (a' := ?_) #[true, true, true, true, true, true, true, false, false, false, false, false, false, false, false, false, false, false, false, false, false, false] rfl rfl (any_of HT_.out (by kernel_rfl)) (fun _ _ _ h => h) (Or.inl ⟨by rfl, ?_⟩) ?_ ?_
               rotate_left
               ·intro w'
                go_simp
                with_reducible rfl
               rotate_left
               ·simp only [Act.put, List.setIfInBounds_toArray, List.set_cons_zero, List.set_cons_succ, i64_w, i32_w]
                rfl
               refine pure_ (i := 8) (N := some 90) (v := ?_) (a' := ?_) #[true, true, true, true, true, true, true, false, true, false, false, false, false, false, false, false, false, false, false, false, false, false] rfl rfl (any_of HT_.out (by kernel_rfl)) (fun _ _ _ h => h) (Or.inl ⟨by rfl, ?_⟩) ?_ ?_
               rotate_left
               ·intro w'
                go_simp
                with_reducible rfl
               rotate_left
               ·simp only [Act.put, List.setIfInBounds_toArray, List.set_cons_zero, List.set_cons_succ, i64_w, i32_w]
                rfl
               refine take_ (i := 9) (N := some 91) (v := ?_) (a' := ?_) #[true, true, true, true, true, true, true, false, true, true, false, false, false, false, false, false, false, false, false, false, false, false] rfl rfl (take_ofW HT_.out HW_.out (by kernel_rfl)) (fun _ _ _ h => h) (Or.inl ⟨by rfl, ?_⟩) hHeld ?_ ?_
               rotate_left
               ·rintro w' ⟨s0, s1⟩
                go_simp
                with_reducible rfl
               rotate_left
               ·simp only [Act.put, List.setIfInBounds_toArray, List.set_cons_zero, List.set_cons_succ, i64_w, i32_w]
                rfl
               refine one_ (i := 7) (N := some 89) #[true, true, true, true, true, true, true, true, true, true, false, false, false, false, false, false, false, false, false, false, false, false] rfl rfl (one_of HT_.out (by kernel_rfl)) (by decide) (fun K hK => ?_)
               refine goes_ Try.func61 (by kernel_rfl) rfl #[.int .i64 x11_16] (by rfl) rfl rfl (by (try simp only [List.map_toArray, List.map_cons, List.map_nil]); first | done | rfl | (simp only [List.length_drop, List.length_take]; rfl)) ?_
               with_reducible refine (law1_Num.calls x11_16 t31 _ A44.out).mono ?_
               rintro e w' ⟨rfl, ⟨nd, rfl⟩⟩
               refine ⟨_, rfl, ?_⟩
               refine hK.out _ _ ⟨(blk_cell BK20.out 0).trans rfl, (blk_cell BK20.out 1).trans rfl⟩ (fun hHeld => ?_)
               clear hK K
               refine norm_ (a' := ?_) ?_ ?_
               rotate_left
               ·show Act.put _ (some 89) _ = _
                simp only [Act.put, List.setIfInBounds_toArray, List.set_cons_zero, List.set_cons_succ, i64_w, i32_w]
                rfl
               refine pure_ (i := 10) (N := some 92) (v := ?_) (a' := ?_) #[true, true, true, true, true, true, true, true, true, true, true, false, false, false, false, false, false, false, false, false, false, false] rfl rfl (any_of HT_.out (by kernel_rfl)) (fun _ _ _ h => h) (Or.inl ⟨by rfl, ?_⟩) ?_ ?_
               rotate_left
               ·intro w'
                go_simp
                with_reducible rfl
               rotate_left
               ·simp only [Act.put, List.setIfInBounds_toArray, List.set_cons_zero, List.set_cons_succ, i64_w, i32_w]
                rfl
               refine pure_ (i := 11) (N := some 93) (v := ?_) (a' := ?_) #[true, true, true, true, true, true, true, true, true, true, true, true, false, false, false, false, false, false, false, false, false, false] rfl rfl (any_of HT_.out (by kernel_rfl)) (fun _ _ _ h => h) (Or.inl ⟨by rfl, ?_⟩) ?_ ?_
               rotate_left
               ·intro w'
                go_simp
                with_reducible rfl
               rotate_left
               ·simp only [Act.put, List.setIfInBounds_toArray, List.set_cons_zero, List.set_cons_succ, i64_w, i32_w]
                rfl
               refine pure_ (i := 12) (N := some 94) (v := ?_) (a' := ?_) #[true, true, true, true, true, true, true, true, true, true, true, true, true, false, false, false, false, false, false, false, false, false] rfl rfl (any_of HT_.out (by kernel_rfl)) (fun _ _ _ h => h) (Or.inl ⟨by rfl, ?_⟩) ?_ ?_
               rotate_left
               ·intro w'
                go_simp
                with_reducible rfl
               rotate_left
               ·simp only [Act.put, List.setIfInBounds_toArray, List.set_cons_zero, List.set_cons_succ, i64_w, i32_w]
                rfl
               refine pure_ (i := 13) (N := some 95) (v := undef) (a' := ?_) #[true, true, true, true, true, true, true, true, true, true, true, true, true, true, false, false, false, false, false, false, false, false] rfl rfl (any_of HT_.out (by kernel_rfl)) (fun _ _ _ h => h) (Or.inr ⟨by rfl, rfl⟩) ?_ ?_
               rotate_left
               ·simp only [Act.put, List.setIfInBounds_toArray, List.set_cons_zero, List.set_cons_succ, i64_w, i32_w]
                rfl
               refine pure_ (i := 14) (N := some 96) (v := undef) (a' := ?_) #[true, true, true, true, true, true, true, true, true, true, true, true, true, true, true, false, false, false, false, false, false, false] rfl rfl (any_of HT_.out (by kernel_rfl)) (fun _ _ _ h => h) (Or.inr ⟨by rfl, rfl⟩) ?_ ?_
               rotate_left
               ·simp only [Act.put, List.setIfInBounds_toArray, List.set_cons_zero, List.set_cons_succ, i64_w, i32_w]
                rfl
               refine pure_ (i := 15) (N := some 97) (v := undef) (a' := ?_) #[true, true, true, true, true, true, true, true, true, true, true, true, true, true, true, true, false, false, false, false, false, false] rfl rfl (any_of HT_.out (by kernel_rfl)) (fun _ _ _ h => h) (Or.inr ⟨by rfl, rfl⟩) ?_ ?_
               rotate_left
               ·simp only [Act.put, List.setIfInBounds_toArray, List.set_cons_zero, List.set_cons_succ, i64_w, i32_w]
                rfl
               refine pure_ (i := 16) (N := some 98) (v := undef) (a' := ?_) #[true, true, true, true, true, true, true, true, true, true, true, true, true, true, true, true, true, false, false, false, false, false] rfl rfl (any_of HT_.out (by kernel_rfl)) (fun _ _ _ h => h) (Or.inr ⟨by rfl, rfl⟩) ?_ ?_
               rotate_left
               ·simp only [Act.put, List.setIfInBounds_toArray, List.set_cons_zero, List.set_cons_succ, i64_w, i32_w]
                rfl
               refine pure_ (i := 17) (N := some 99) (v := undef) (a' := ?_) #[true, true, true, true, true, true, true, true, true, true, true, true, true, true, true, true, true, true, false, false, false, false] rfl rfl (any_of HT_.out (by kernel_rfl)) (fun _ _ _ h => h) (Or.inr ⟨by rfl, rfl⟩) ?_ ?_
               rotate_left
               ·simp only [Act.put, List.setIfInBounds_toArray, List.set_cons_zero, List.set_cons_succ, i64_w, i32_w]
                rfl
               refine pure_ (i := 18) (N := some 100) (v := undef) (a' := ?_) #[true, true, true, true, true, true, true, true, true, true, true, true, true, true, true, true, true, true, true, false, false, false] rfl rfl (any_of HT_.out (by kernel_rfl)) (fun _ _ _ h => h) (Or.inr ⟨by rfl, rfl⟩) ?_ ?_
               rotate_left
               ·simp only [Act.put, List.setIfInBounds_toArray, List.set_cons_zero, List.set_cons_succ, i64_w, i32_w]
                rfl
               refine pure_ (i := 19) (N := some 101) (v := undef) (a' := ?_) #[true, true, true, true, true, true, true, true, true, true, true, true, true, true, true, true, true, true, true, true, false, false] rfl rfl (any_of HT_.out (by kernel_rfl)) (fun _ _ _ h => h) (Or.inr ⟨by rfl, rfl⟩) ?_ ?_
               rotate_left
               ·simp only [Act.put, List.setIfInBounds_toArray, List.set_cons_zero, List.set_cons_succ, i64_w, i32_w]
                rfl
               refine pure_ (i := 20) (N := some 102) (v := undef) (a' := ?_) #[true, true, true, true, true, true, true, true, true, true, true, true, true, true, true, true, true, true, true, true, true, false] rfl rfl (any_of HT_.out (by kernel_rfl)) (fun _ _ _ h => h) (Or.inr ⟨by rfl, rfl⟩) ?_ ?_
               rotate_left
               ·simp only [Act.put, List.setIfInBounds_toArray, List.set_cons_zero, List.set_cons_succ, i64_w, i32_w]
                rfl
               refine pure_ (i := 21) (N := some 103) (v := ?_) (a' := ?_) #[true, true, true, true, true, true, true, true, true, true, true, true, true, true, true, true, true, true, true, true, true, true] rfl rfl (any_of HT_.out (by kernel_rfl)) (fun _ _ _ h => h) (Or.inl ⟨by rfl, ?_⟩) ?_ ?_
               rotate_left
               ·intro w'
                go_simp
                with_reducible rfl
               rotate_left
               ·simp only [Act.put, List.setIfInBounds_toArray, List.set_cons_zero, List.set_cons_succ, i64_w, i32_w]
                rfl
               refine done_ (done_of HT_.out (by kernel_rfl)) ?_
               try go_wp2
               go_meet
               case rel => exact ⟨_, (true), (by first|rfl|(simp;done)|(simp [*];done)), H', ⟨by have := HJ2.out;have := HK2.out;have := HJ16.out;first|omega|exact Nat.le_refl _⟩, ⟨by (with_reducible repeat (first|apply Kd.R_alloc|apply Kd.R_drewN|apply Kd.R_drew));exact Kd.R_mono HO_5.out (fun _ hk => hk.2)⟩, ⟨by (with_reducible repeat (first|apply Kd.R_alloc|apply Kd.R_drewN|apply Kd.R_drew));exact Kd.R_mono HO_21000.out (fun _ hk => hk.1)⟩, ⟨by (with_reducible repeat (first|refine blk_drewN ?_ _|refine blk_drew ?_|refine blk_alloc ?_ _));exact BK11.out⟩, ⟨by (with_reducible repeat (first|refine blk_drewN ?_ _|refine blk_drew ?_|refine blk_alloc ?_ _));exact BK20.out⟩, ⟨by repeat (first|(with_reducible first|exact HB.out|apply below_alloc|apply pw_below_drewN|apply below_drew1|refine below_set ?_ GE11.out|refine below_set ?_ GE20.out)|exact HB.out)⟩⟩
             ·replace c43 := Bool.eq_false_iff.mpr c43
              subst c43
              have H1 : (law14_AdmitMade.j3 kj16 l1 x5_2 x6_2 true x21000_16 x21001_16) = some r := by rw [if_neg (show ¬ (false = true) by decide)] at H; exact H
              clear H
              have H := H1
              clear H1
              have H' := Aside0.mk H
              clear H
              try go_wp2
              have n0_ := Aside0.mk (Kd.R_drew HO_5.out)
              have n1_ := Aside0.mk (Kd.R_drew HO_10.out)
              have n2_ := Aside0.mk (Kd.R_drew HO_21000.out)
              have n3_ := Aside0.mk (blk_drew BK11.out)
              have n4_ := Aside0.mk (blk_drew BK20.out)
              have n5_ := Aside0.mk (below_drew1 HB.out)
              clear HO_5
              clear HO_10
              clear HO_21000
              clear BK11
              clear BK20
              clear HB
              have HO_5 := n0_
              have HO_10 := n1_
              have HO_21000 := n2_
              have BK11 := n3_
              have BK20 := n4_
              have HB := n5_
              clear n0_ n1_ n2_ n3_ n4_ n5_
              obtain ⟨Ao59, co59, eo59⟩ := Kd.R_slice HO_10.out
              (first | subst eo59 | (injection eo59 with f1_ f2_ f3_; have f4_ := f1_.symm; have f5_ := f3_.symm; clear f1_ f2_ f3_; subst f4_; subst f5_))
              obtain ⟨Ao60, co60, eo60⟩ := Kd.R_slice HO_21000.out
              (first | subst eo60 | (injection eo60 with f1_ f2_ f3_; have f4_ := f1_.symm; have f5_ := f3_.symm; clear f1_ f2_ f3_; subst f4_; subst f5_))
              refine start_ (n := 22) (S := fun w' => w'.cell? ⟨gb20, 0, none⟩ = some (.slice Ao60 x21000_16.length co60) ∧ w'.cell? ⟨gb20, 1, none⟩ = some (.int .i64 x21001_16)) (ds := []) #[false, false, false, false, false, false, false, false, false, false, false, false, false, false, false, false, false, false, false, false, false, false] (by kernel_rfl) rfl rfl ⟨(blk_cell BK20.out 0).trans rfl, (blk_cell BK20.out 1).trans rfl⟩ (fun hHeld => ?_); refine with_tabW law14_AdmitMade.tab15 law14_AdmitMade.bits15 (fun HT_ HW_ => ?_)
              generalize wc.drew = w58 at HO_5 HO_10 HO_21000 BK11 BK20 HB hHeld ⊢
              refine pure_ (i := 0) (N := some 82) (v := ?_) (a' := ?_) #[true, false, false, false, false, false, false, false, false, false, false, false, false, false, false, false, false, false, false, false, false, false] rfl rfl (any_of HT_.out (by kernel_rfl)) (fun _ _ _ h => h) (Or.inl ⟨by rfl, ?_⟩) ?_ ?_
              rotate_left
              ·intro w'
               go_simp
               with_reducible rfl
              rotate_left
              ·simp only [Act.put, List.setIfInBounds_toArray, List.set_cons_zero, List.set_cons_succ, i64_w, i32_w]
               rfl
              refine pure_ (i := 1) (N := some 83) (v := ?_) (a' := ?_) #[true, true, false, false, false, false, false, false, false, false, false, false, false, false, false, false, false, false, false, false, false, false] rfl rfl (any_of HT_.out (by kernel_rfl)) (fun _ _ _ h => h) (Or.inl ⟨by rfl, ?_⟩) ?_ ?_
              rotate_left
              ·intro w'
               go_simp
               with_reducible rfl
              rotate_left
              ·simp only [Act.put, List.setIfInBounds_toArray, List.set_cons_zero, List.set_cons_succ, i64_w, i32_w]
               rfl
              refine take_ (i := 2) (N := some 84) (v := ?_) (a' := ?_) #[true, true, true, false, false, false, false, false, false, false, false, false, false, false, false, false, false, false, false, false, false, false] rfl rfl (take_ofW HT_.out HW_.out (by kernel_rfl)) (fun _ _ _ h => h) (Or.inl ⟨by rfl, ?_⟩) hHeld ?_ ?_
              rotate_left
              ·rintro w' ⟨s0, s1⟩
               go_simp
               with_reducible rfl
              rotate_left
              ·simp only [Act.put, List.setIfInBounds_toArray, List.set_cons_zero, List.set_cons_succ, i64_w, i32_w]
               rfl
              refine one_ (i := 3) (N := some 85) #[true, true, true, true, false, false, false, false, false, false, false, false, false, false, false, false, false, false, false, false, false, false] rfl rfl (one_of HT_.out (by kernel_rfl)) (by decide) (fun K hK => ?_)
              refine goes_ Try.func62 (by kernel_rfl) rfl #[.slice Ao59 x10_16.length co59, .slice Ao60 x21000_16.length co60] (by rfl) rfl rfl (by (try simp only [List.map_toArray, List.map_cons, List.map_nil]); first | done | rfl | (simp only [List.length_drop, List.length_take]; rfl)) ?_
              with_reducible refine (r10_SameItems.calls kj16 _ _ x10_16 _ _ x21000_16 false _ ?side1 ?side2 ?side3 ?side4 A42.out).mono ?_
              (case side1 => repeat (first|exact (Kd.R_reads' HO_10.out).2.2|(with_reducible refine Kd.C_alloc ?_ _)|(with_reducible refine Kd.C_drewN ?_ _)|(with_reducible refine Kd.C_drew ?_)))
              (case side2 => exact (Kd.R_reads' HO_10.out).2.1)
              (case side3 => repeat (first|exact (Kd.R_reads' HO_21000.out).2.2|(with_reducible refine Kd.C_alloc ?_ _)|(with_reducible refine Kd.C_drewN ?_ _)|(with_reducible refine Kd.C_drew ?_)))
              (case side4 => exact (Kd.R_reads' HO_21000.out).2.1)
              rintro e w' ⟨rfl, ⟨nd, rfl⟩⟩
              refine ⟨_, rfl, ?_⟩
              refine hK.out _ _ ⟨(blk_cell BK20.out 0).trans rfl, (blk_cell BK20.out 1).trans rfl⟩ (fun hHeld => ?_)
              clear hK K
              refine norm_ (a' := ?_) ?_ ?_
              rotate_left
              ·show Act.put _ (some 85) _ = _
               simp only [Act.put, List.setIfInBounds_toArray, List.set_cons_zero, List.set_cons_succ, i64_w, i32_w]
               rfl
              refine pure_ (i := 4) (N := some 86) (v := ?_) (a' := ?_) #[true, true, true, true, true, false, false, false, false, false, false, false, false, false, false, false, false, false, false, false, false, false] rfl rfl (any_of HT_.out (by kernel_rfl)) (fun _ _ _ h => h) (Or.inl ⟨by rfl, ?_⟩) ?_ ?_
              rotate_left
              ·intro w'
               go_simp
               with_reducible rfl
              rotate_left
              ·simp only [Act.put, List.setIfInBounds_toArray, List.set_cons_zero, List.set_cons_succ, i64_w, i32_w]
               rfl
              refine pure_ (i := 5) (N := some 87) (v := ?_) (a' := ?_) #[true, true, true, true, true, true, false, false, false, false, false, false, false, false, false, false, false, false, false, false, false, false] rfl rfl (any_of HT_.out (by kernel_rfl)) (fun _ _ _ h => h) (Or.inl ⟨by rfl, ?_⟩) ?_ ?_
              rotate_left
              ·intro w'
               go_simp
               with_reducible rfl
              rotate_left
              ·simp only [Act.put, List.setIfInBounds_toArray, List.set_cons_zero, List.set_cons_succ, i64_w, i32_w]
               rfl
              refine pure_ (i := 6) (N := some 88) (v := undef) (a' := ?_) #[true, true, true, true, true, true, true, false, false, false, false, false, false, false, false, false, false, false, false, false, false, false] rfl rfl (any_of HT_.out (by kernel_rfl)) (fun _ _ _ h => h) (Or.inr ⟨by rfl, rfl⟩) ?_ ?_
              rotate_left
              ·simp only [Act.put, List.setIfInBounds_toArray, List.set_cons_zero, List.set_cons_succ, i64_w, i32_w]
               rfl
              refine pure_ (i := 7) (N := some 89) (v := undef) (a' := ?_) #[true, true, true, true, true, true, true, true, false, false, false, false, false, false, false, false, false, false, false, false, false, false] rfl rfl (any_of HT_.out (by kernel_rfl)) (fun _ _ _ h => h) (Or.inr ⟨by rfl, rfl⟩) ?_ ?_
              rotate_left
              ·simp only [Act.put, List.setIfInBounds_toArray, List.set_cons_zero, List.set_cons_succ, i64_w, i32_w]
               rfl
              refine pure_ (i := 8) (N := some 90) (v := undef) (a' := ?_) #[true, true, true, true, true, true, true, true, true, false, false, false, false, false, false, false, false, false, false, false, false, false] rfl rfl (any_of HT_.out (by kernel_rfl)) (fun _ _ _ h => h) (Or.inr ⟨by rfl, rfl⟩) ?_ ?_
              rotate_left
              ·simp only [Act.put, List.setIfInBounds_toArray, List.set_cons_zero, List.set_cons_succ, i64_w, i32_w]
               rfl
              refine pure_ (i := 9) (N := some 91) (v := undef) (a' := ?_) #[true, true, true, true, true, true, true, true, true, true, false, false, false, false, false, false, false, false, false, false, false, false] rfl rfl (any_of HT_.out (by kernel_rfl)) (fun _ _ _ h => h) (Or.inr ⟨by rfl, rfl⟩) ?_ ?_
              rotate_left
              ·simp only [Act.put, List.setIfInBounds_toArray, List.set_cons_zero, List.set_cons_succ, i64_w, i32_w]
               rfl
              refine pure_ (i := 10) (N := some 92) (v := undef) (a' := ?_) #[true, true, true, true, true, true, true, true, true, true, true, false, false, false, false, false, false, false, false, false, false, false] rfl rfl (any_of HT_.out (by kernel_rfl)) (fun _ _ _ h => h) (Or.inr ⟨by rfl, rfl⟩) ?_ ?_
              rotate_left
              ·simp only [Act.put, List.setIfInBounds_toArray, List.set_cons_zero, List.set_cons_succ, i64_w, i32_w]
               rfl
              refine pure_ (i := 11) (N := some 93) (v := ?_) (a' := ?_) #[true, true, true, true, true, true, true, true, true, true, true, true, false, false, false, false, false, false, false, false, false, false] rfl rfl (any_of HT_.out (by kernel_rfl)) (fun _ _ _ h => h) (Or.inl ⟨by rfl, ?_⟩) ?_ ?_
              rotate_left
              ·intro w'
               go_simp
               with_reducible rfl
              rotate_left
              ·simp only [Act.put, List.setIfInBounds_toArray, List.set_cons_zero, List.set_cons_succ, i64_w, i32_w]
               rfl
              refine pure_ (i := 12) (N := some 94) (v := ?_) (a' := ?_) #[true, true, true, true, true, true, true, true, true, true, true, true, true, false, false, false, false, false, false, false, false, false] rfl rfl (any_of HT_.out (by kernel_rfl)) (fun _ _ _ h => h) (Or.inl ⟨by rfl, ?_⟩) ?_ ?_
              rotate_left
              ·intro w'
               go_simp
               with_reducible rfl
              rotate_left
              ·simp only [Act.put, List.setIfInBounds_toArray, List.set_cons_zero, List.set_cons_succ, i64_w, i32_w]
               rfl
              refine pure_ (i := 13) (N := some 95) (v := undef) (a' := ?_) #[true, true, true, true, true, true, true, true, true, true, true, true, true, true, false, false, false, false, false, false, false, false] rfl rfl (any_of HT_.out (by kernel_rfl)) (fun _ _ _ h => h) (Or.inr ⟨by rfl, rfl⟩) ?_ ?_
              rotate_left
              ·simp only [Act.put, List.setIfInBounds_toArray, List.set_cons_zero, List.set_cons_succ, i64_w, i32_w]
               rfl
              refine pure_ (i := 14) (N := some 96) (v := undef) (a' := ?_) #[true, true, true, true, true, true, true, true, true, true, true, true, true, true, true, false, false, false, false, false, false, false] rfl rfl (any_of HT_.out (by kernel_rfl)) (fun _ _ _ h => h) (Or.inr ⟨by rfl, rfl⟩) ?_ ?_
              rotate_left
              ·simp only [Act.put, List.setIfInBounds_toArray, List.set_cons_zero, List.set_cons_succ, i64_w, i32_w]
               rfl
              refine pure_ (i := 15) (N := some 97) (v := undef) (a' := ?_) #[true, true, true, true, true, true, true, true, true, true, true, true, true, true, true, true, false, false, false, false, false, false] rfl rfl (any_of HT_.out (by kernel_rfl)) (fun _ _ _ h => h) (Or.inr ⟨by rfl, rfl⟩) ?_ ?_
              rotate_left
              ·simp only [Act.put, List.setIfInBounds_toArray, List.set_cons_zero, List.set_cons_succ, i64_w, i32_w]
               rfl
              refine pure_ (i := 16) (N := some 98) (v := undef) (a' := ?_) #[true, true, true, true, true, true, true, true, true, true, true, true, true, true, true, true, true, false, false, false, false, false] rfl rfl (any_of HT_.out (by kernel_rfl)) (fun _ _ _ h => h) (Or.inr ⟨by rfl, rfl⟩) ?_ ?_
              rotate_left
              ·simp only [Act.put, List.setIfInBounds_toArray, List.set_cons_zero, List.set_cons_succ, i64_w, i32_w]
               rfl
              refine pure_ (i := 17) (N := some 99) (v := undef) (a' := ?_) #[true, true, true, true, true, true, true, true, true, true, true, true, true, true, true, true, true, true, false, false, false, false] rfl rfl (any_of HT_.out (by kernel_rfl)) (fun _ _ _ h => h) (Or.inr ⟨by rfl, rfl⟩) ?_ ?_
              rotate_left
              ·simp only [Act.put, List.setIfInBounds_toArray, List.set_cons_zero, List.set_cons_succ, i64_w, i32_w]
               rfl
              refine pure_ (i := 18) (N := some 100) (v := undef) (a' := ?_) #[true, true, true, true, true, true, true, true, true, true, true, true, true, true, true, true, true, true, true, false, false, false] rfl rfl (any_of HT_.out (by kernel_rfl)) (fun _ _ _ h => h) (Or.inr ⟨by rfl, rfl⟩) ?_ ?_
              rotate_left
              ·simp only [Act.put, List.setIfInBounds_toArray, List.set_cons_zero, List.set_cons_succ, i64_w, i32_w]
               rfl
              refine pure_ (i := 19) (N := some 101) (v := undef) (a' := ?_) #[true, true, true, true, true, true, true, true, true, true, true, true, true, true, true, true, true, true, true, true, false, false] rfl rfl (any_of HT_.out (by kernel_rfl)) (fun _ _ _ h => h) (Or.inr ⟨by rfl, rfl⟩) ?_ ?_
              rotate_left
              ·simp only [Act.put, List.setIfInBounds_toArray, List.set_cons_zero, List.set_cons_succ, i64_w, i32_w]
               rfl
              refine pure_ (i := 20) (N := some 102) (v := undef) (a' := ?_) #[true, true, true, true, true, true, true, true, true, true, true, true, true, true, true, true, true, true, true, true, true, false] rfl rfl (any_of HT_.out (by kernel_rfl)) (fun _ _ _ h => h) (Or.inr ⟨by rfl, rfl⟩) ?_ ?_
              rotate_left
              ·simp only [Act.put, List.setIfInBounds_toArray, List.set_cons_zero, List.set_cons_succ, i64_w, i32_w]
               rfl
              refine pure_ (i := 21) (N := some 103) (v := ?_) (a' := ?_) #[true, true, true, true, true, true, true, true, true, true, true, true, true, true, true, true, true, true, true, true, true, true] rfl rfl (any_of HT_.out (by kernel_rfl)) (fun _ _ _ h => h) (Or.inl ⟨by rfl, ?_⟩) ?_ ?_
              rotate_left
              ·intro w'
               go_simp
               with_reducible rfl
              rotate_left
              ·simp only [Act.put, List.setIfInBounds_toArray, List.set_cons_zero, List.set_cons_succ, i64_w, i32_w]
               rfl
              refine done_ (done_of HT_.out (by kernel_rfl)) ?_
              try go_wp2
              go_meet
              case rel => exact ⟨_, (true), (by first|rfl|(simp;done)|(simp [*];done)), H', ⟨by have := HJ2.out;have := HK2.out;have := HJ16.out;first|omega|exact Nat.le_refl _⟩, ⟨by (with_reducible repeat (first|apply Kd.R_alloc|apply Kd.R_drewN|apply Kd.R_drew));exact Kd.R_mono HO_5.out (fun _ hk => hk.2)⟩, ⟨by (with_reducible repeat (first|apply Kd.R_alloc|apply Kd.R_drewN|apply Kd.R_drew));exact Kd.R_mono HO_21000.out (fun _ hk => hk.1)⟩, ⟨by (with_reducible repeat (first|refine blk_drewN ?_ _|refine blk_drew ?_|refine blk_alloc ?_ _));exact BK11.out⟩, ⟨by (with_reducible repeat (first|refine blk_drewN ?_ _|refine blk_drew ?_|refine blk_alloc ?_ _));exact BK20.out⟩, ⟨by repeat (first|(with_reducible first|exact HB.out|apply below_alloc|apply pw_below_drewN|apply below_drew1|refine below_set ?_ GE11.out|refine below_set ?_ GE20.out)|exact HB.out)⟩⟩
            case rest =>
             clear HC41
             try clear p2
             try clear c4
             try clear c6
             try clear c43
             try clear c45
             try clear c45b0
             try clear c45b1
             try clear c46
             try clear c46b0
             try clear c46b1
             obtain ⟨kq, x103_40, rfl, HA, HJ40, HO_5, HO_21000, BK11, BK20, HB⟩ := hcut
             cases kq with
             | zero => exact absurd HA.out (by simp [law14_AdmitMade.j3])
             | succ kj40 =>
              have H := HA.out
              clear HA
              simp only [law14_AdmitMade.j3] at H
              by_cases c61 : x103_40 = true
              ·subst c61
               have H1 : (some false) = some r := by rw [if_pos rfl] at H; exact H
               clear H
               have H := H1
               clear H1
               obtain rfl := Option.some.inj H
               go_wp2
               go_ret
               exact ⟨by first|rfl|(simp [errW_none, errW_some] <;> rfl)|(simp only [← hji13];first|rfl|(simp [errW_none, errW_some] <;> rfl))|(simp [*, errW_none, errW_some] <;> rfl), by repeat (first|(with_reducible first|exact HB.out|apply below_alloc|apply pw_below_drewN|apply below_drew1|refine below_set ?_ GE11.out|refine below_set ?_ GE20.out)|exact HB.out)⟩
              ·replace c61 := Bool.eq_false_iff.mpr c61
               subst c61
               have H1 : (if x21001_16 = 0 then (law14_AdmitMade.l0 kj40 l1 x21000_16 (wrap64 (x6_2 + 2))) else (law14_AdmitMade.l0 kj40 l1 x5_2 (wrap64 (x6_2 + 2)))) = some r := by rw [if_neg (show ¬ (false = true) by decide)] at H; exact H
               clear H
               have H := H1
               clear H1
               by_cases c62 : x21001_16 = 0
               ·rw [if_pos c62] at H
                have c62b0 : (x21001_16 == 0) = true := beq_iff_eq.mpr c62
                have c62b1 : (x21001_16 != 0) = false := bne_eq_false_iff_eq.mpr c62
                clear c62
                have H' := Aside0.mk H
                clear H
                have hnb63 := NB20_11.out
                have hnc63 := NB11_20.out
                have hcz64_0 : wc.cell? ⟨gb20, 0, none⟩ = some (u21000) := (blk_cell BK20.out 0).trans rfl
                have hcz64_1 : wc.cell? ⟨gb20, 1, none⟩ = some (.int .i64 x21001_16) := (blk_cell BK20.out 1).trans rfl
                have hfz64_0 := blk_frozen BK20.out 0
                have hfz64_1 := blk_frozen BK20.out 1
                go_wp2
                go_roundg kj40
                case measure => have := HJ2.out; have := HK2.out; have := HJ16.out; have := HJ40.out; omega
                case rel => exact ⟨(x21000_16), (wrap64 (x6_2 + 2)), (by first|rfl|(simp;done)|(simp [*];done)), H', ⟨by have := HJ2.out;have := HK2.out;have := HJ16.out;have := HJ40.out;omega⟩, ⟨by (with_reducible repeat (first|apply Kd.R_alloc|apply Kd.R_drewN|apply Kd.R_drew));exact Kd.R_mono HO_21000.out (fun _ hk => trivial)⟩, ⟨by repeat (first|(with_reducible first|exact HB.out|apply below_alloc|apply pw_below_drewN|apply below_drew1|refine below_set ?_ GE11.out|refine below_set ?_ GE20.out)|exact HB.out)⟩⟩
               ·rw [if_neg c62] at H
                have c62b0 : (x21001_16 == 0) = false := beq_eq_false_iff_ne.mpr c62
                have c62b1 : (x21001_16 != 0) = true := bne_iff_ne.mpr c62
                have H' := Aside0.mk H
                clear H
                have hnb65 := NB20_11.out
                have hnc65 := NB11_20.out
                have hcz66_0 : wc.cell? ⟨gb20, 0, none⟩ = some (u21000) := (blk_cell BK20.out 0).trans rfl
                have hcz66_1 : wc.cell? ⟨gb20, 1, none⟩ = some (.int .i64 x21001_16) := (blk_cell BK20.out 1).trans rfl
                have hfz66_0 := blk_frozen BK20.out 0
                have hfz66_1 := blk_frozen BK20.out 1
                go_wp2
                go_roundg kj40
                case measure => have := HJ2.out; have := HK2.out; have := HJ16.out; have := HJ40.out; omega
                case rel => exact ⟨(x5_2), (wrap64 (x6_2 + 2)), (by first|rfl|(simp;done)|(simp [*];done)), H', ⟨by have := HJ2.out;have := HK2.out;have := HJ16.out;have := HJ40.out;omega⟩, ⟨by (with_reducible repeat (first|apply Kd.R_alloc|apply Kd.R_drewN|apply Kd.R_drew));exact Kd.R_mono HO_5.out (fun _ hk => trivial)⟩, ⟨by repeat (first|(with_reducible first|exact HB.out|apply below_alloc|apply pw_below_drewN|apply below_drew1|refine below_set ?_ GE11.out|refine below_set ?_ GE20.out)|exact HB.out)⟩⟩
         ·rw [if_neg c14] at H
          exact absurd H (by simp)
        ·rw [if_neg c12] at H
         exact absurd H (by simp)
       ·rw [if_neg c11] at H
        exact absurd H (by simp)
      ·rw [if_neg c10] at H
       have c10b0 : decide ((wrap64 (x6_2 + 1)) < (l1.length : Int)) = false := decide_eq_false c10
       clear c10
       replace H := Option.bind_eq_some_iff.mp H
       obtain ⟨t5, A670, H⟩ := H
       replace H : (some t5) = some r := H
       have A67 := Aside0.mk A670
       clear A670
       obtain rfl := Option.some.inj H
       go_wp2_with (first|((with_reducible refine gate_callee (f := 59) rfl ?_);refine goesL_ (some 109) rfl rfl Try.func59 (by kernel_rfl) rfl #[] rfl (by (try simp only [List.map_toArray, List.map_cons, List.map_nil]);first|done|rfl|(simp only [List.length_drop, List.length_take];rfl)) ?_;(with_reducible refine (law14_awake.calls k2  t5 _ A67.out).mono ?_);rintro e w68 ⟨rfl, hb⟩;refine ⟨_, rfl, ?_⟩;have n0_ := Aside0.mk (Kd.R_below (by (with_reducible repeat (first|apply Kd.R_alloc|apply Kd.R_drewN|apply Kd.R_drew));exact HO_5.out) hb);have n1_ := Aside0.mk (below_step (by repeat (first|(with_reducible first|exact HB.out|apply below_alloc|apply pw_below_drewN|apply below_drew1)|exact HB.out)) hb);clear HO_5;clear HB;have HO_5 := n0_;have HB := n1_;clear n0_ n1_;(try clear hb);(try clear hb2);(try clear hk);(try clear hi)))
       go_ret
       exact ⟨by first|rfl|(simp [errW_none, errW_some] <;> rfl)|(simp [*, errW_none, errW_some] <;> rfl), by repeat (first|(with_reducible first|exact HB.out|apply below_alloc|apply pw_below_drewN|apply below_drew1)|exact HB.out)⟩
/-- THE ONE PURE STATEMENT of law14_AdmitMade: yours. -/
def law14_AdmitMade.Pure : Prop := ∀ (l0 : List Int) (l1 : List Int), l0.length ≤ maxLen → l0.length * 1 ≤ 140737488351232 → (∀ x ∈ l0, (Lit.int .u8 x).wf = true) → l1.length ≤ maxLen → l1.length * 1 ≤ 140737488351232 → (∀ x ∈ l1, (Lit.int .u8 x).wf = true) → ∃ k, law14_AdmitMade.f k l0 l1 = some true
theorem law14_AdmitMade.walk (P : law14_AdmitMade.Pure) (a0 : Option Addr) (len0 cap0 : Nat) (z0 : List Int) (a1 : Option Addr) (len1 cap1 : Nat) (z1 : List Int) (w : World) (w0 : (a0 = none ∧ len0 = 0 ∧ cap0 = 0 ∧ z0 = []) ∨ ∃ x, a0 = some x ∧ len0 ≤ cap0 ∧ cap0 ≤ maxLen ∧ z0.length = cap0 ∧ (∀ i, i < z0.length → w.cell? (x.add i) = some (.int .u8 (z0.getD i 0))) ∧ ∀ n ∈ z0, (Lit.int .u8 n).wf = true) (y0 : len0 * 1 ≤ 140737488351232) (w1 : (a1 = none ∧ len1 = 0 ∧ cap1 = 0 ∧ z1 = []) ∨ ∃ x, a1 = some x ∧ len1 ≤ cap1 ∧ cap1 ≤ maxLen ∧ z1.length = cap1 ∧ (∀ i, i < z1.length → w.cell? (x.add i) = some (.int .u8 (z1.getD i 0))) ∧ ∀ n ∈ z1, (Lit.int .u8 n).wf = true) (y1 : len1 * 1 ≤ 140737488351232) :
  Calls Try.prog 17 #[.slice a0 len0 cap0, .slice a1 len1 cap1] w fun e w' => e = .returned (.bool true) ∧ Below w.heap.size w w' := by
 obtain ⟨l0, rfl, hr0, hm0, hw0, hc0⟩ := ReadsInt.ofRowC w0
 obtain ⟨l1, rfl, hr1, hm1, hw1, hc1⟩ := ReadsInt.ofRowC w1
 obtain ⟨k, h⟩ := P l0 l1 hm0 y0 hw0 hm1 y1 hw1
 refine (law14_AdmitMade.calls k _ _ l0 _ _ l1 true w (Kd.C_of_reads (d := (0 : Int)) (h1 := fun _ => rfl) hr0) hc0 (Kd.C_of_reads (d := (0 : Int)) (h1 := fun _ => rfl) hr1) hc1 h).mono ?_
 rintro e w' ⟨rfl, hd⟩
 exact ⟨rfl, hd⟩
end Go.Proofs.Ytcgefpklljclgaa.Print
