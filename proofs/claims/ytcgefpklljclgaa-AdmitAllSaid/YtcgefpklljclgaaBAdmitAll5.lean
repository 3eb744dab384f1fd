/- A part of the proof of AdmitAll: the machine's side by the kit's print, contracts and lemmas by this session. -/
import Derived.Laws.Strings
import Derived.Deep.Slices
import Derived.Deep.Fields
import Derived.ChangeSame
import Derived.Shelf.Abstract
import Derived.Test.YtcgefpklljclgaaRows
import Derived.WalkKit
import Derived.ProofKit
import Derived.OpenShut
import Derived.JoinedOf
import Derived.SizedLaws
import Derived.ChangeSlices
import Derived.Test.YtcgefpklljclgaaBAdmitAll1
import Derived.Test.YtcgefpklljclgaaBAdmitAll2
import Derived.Test.YtcgefpklljclgaaBAdmitAll3
import Derived.Test.YtcgefpklljclgaaBAdmitAll4
namespace Go.Proofs.Ytcgefpklljclgaa.Print
open Go.RowKit Go.Proofs.YtcgefpklljclgaaW.PrintWords Go.Proofs.YtcgefpklljclgaaW.PrintLast Go.Proofs.YtcgefpklljclgaaW.PrintMore
attribute [local go_sem] max2_int min2_int max_two min_two max_three min_three max_four min_four   -- for this text's walks alone
set_option linter.unusedVariables false
set_option linter.unusedSimpArgs false
/-! ### law14_AdmitAll: function 16 -/
def law14_AdmitAll.j0 : Nat → List (S31) → ByteArray → Bool → Int → Int → Int → Option (Bool)
 | 0, _, _, _, _, _, _ => none
 | k + 1, x0, x1, x25, x2000, x2001, x2002 => if x25 = true then ((law14_awake.f k).bind fun t4 => (some t4)) else ((some (([] : List (S31)) : List (S31))).bind fun y5 => (if y5.length + x0.length < 1256584717458 then ((admit_Admit.f k x0 x1 x2000 x2001 x2002).bind fun bt11 => ((r10_Admit.f k x0 x1 x2000 x2001 x2002).bind fun bt15 => ((admit_Release.f k x0 x1 x2000 x2001 x2002).bind fun bt20 => ((r10_Release.f k x0 x1 x2000 x2001 x2002).bind fun bt24 => ((r10_SameItems.f k bt11.1 bt15.1).bind fun t29 => (if t29 = true then ((law1_Num.f bt11.2).bind fun t30 => (if t30 = bt15.2 then ((r10_SameItems.f k bt20.1 bt24.1).bind fun t31 => (if t31 = true then ((law1_Num.f bt20.2).bind fun t32 => (if t32 = bt24.2 then ((r10_SameItems.f k x0 (y5 ++ x0)).bind fun t33 => (if t33 = true then ((law14_awake.f k).bind fun t34 => (some t34)) else (none))) else (none))) else (none))) else (none))) else (none))))))) else (none)))
def law14_AdmitAll.f (k : Nat) (l0 : List (S31)) (a1 : ByteArray) (a2_0 : Int) (a2_1 : Int) (a2_2 : Int) : Option (Bool) := (law12_Great.f k l0).bind fun t2 => (if t2 = true then (law14_AdmitAll.j0 k l0 a1 true a2_0 a2_1 a2_2) else (if (a1.size : Int) > 100 then (law14_AdmitAll.j0 k l0 a1 true a2_0 a2_1 a2_2) else ((r10_Right.f k l0).bind fun t3 => (law14_AdmitAll.j0 k l0 a1 (!t3) a2_0 a2_1 a2_2))))
theorem law14_AdmitAll.mono_l : ∀ k, (∀ y0 y1 y2 y3 y4 y5, LeO (law14_AdmitAll.j0 k y0 y1 y2 y3 y4 y5) (law14_AdmitAll.j0 (k + 1) y0 y1 y2 y3 y4 y5))
 | 0 => fun _ _ _ _ _ _ r h => by simp [law14_AdmitAll.j0] at h
 | k + 1 => by
  have ih0 := law14_AdmitAll.mono_l k
  ·intro y0 y1 y2 y3 y4 y5
   unfold law14_AdmitAll.j0
   repeat' first
   | (with_reducible exact ih0 _ _ _ _ _ _)
   | (with_reducible exact admit_Admit.mono _ _ _ _ _ _)
   | (with_reducible exact admit_Release.mono _ _ _ _ _ _)
   | (with_reducible exact law12_Great.mono _ _)
   | (with_reducible exact law14_awake.mono _)
   | (with_reducible exact r10_Admit.mono _ _ _ _ _ _)
   | (with_reducible exact r10_Release.mono _ _ _ _ _ _)
   | (with_reducible exact r10_Right.mono _ _)
   | (with_reducible exact r10_SameItems.mono _ _ _)
   | (with_reducible exact LeO.refl _)
   | (with_reducible exact LeO.none _)
   | (with_reducible refine LeO.ite ?_ ?_)
   | (with_reducible refine LeO.bind ?_ (fun _ => ?_))
   | exact ih0 _ _ _ _ _ _
   | exact admit_Admit.mono _ _ _ _ _ _
   | exact admit_Release.mono _ _ _ _ _ _
   | exact law12_Great.mono _ _
   | exact law14_awake.mono _
   | exact r10_Admit.mono _ _ _ _ _ _
   | exact r10_Release.mono _ _ _ _ _ _
   | exact r10_Right.mono _ _
   | exact r10_SameItems.mono _ _ _
   | exact LeO.none _
   | refine LeO.ite ?_ ?_
   | refine LeO.bind ?_ (fun _ => ?_)
theorem law14_AdmitAll.mono : ∀ a0 a1 a2 a3 a4 k, LeO (law14_AdmitAll.f k a0 a1 a2 a3 a4) (law14_AdmitAll.f (k + 1) a0 a1 a2 a3 a4) := by
 intro a0 a1 a2 a3 a4 k
 have ih0 := law14_AdmitAll.mono_l k
 unfold law14_AdmitAll.f
 repeat' first
   | (with_reducible exact ih0 _ _ _ _ _ _)
   | (with_reducible exact admit_Admit.mono _ _ _ _ _ _)
   | (with_reducible exact admit_Release.mono _ _ _ _ _ _)
   | (with_reducible exact law12_Great.mono _ _)
   | (with_reducible exact law14_awake.mono _)
   | (with_reducible exact r10_Admit.mono _ _ _ _ _ _)
   | (with_reducible exact r10_Release.mono _ _ _ _ _ _)
   | (with_reducible exact r10_Right.mono _ _)
   | (with_reducible exact r10_SameItems.mono _ _ _)
   | (with_reducible exact LeO.refl _)
   | (with_reducible exact LeO.none _)
   | (with_reducible refine LeO.ite ?_ ?_)
   | (with_reducible refine LeO.bind ?_ (fun _ => ?_))
   | exact ih0 _ _ _ _ _ _
   | exact admit_Admit.mono _ _ _ _ _ _
   | exact admit_Release.mono _ _ _ _ _ _
   | exact law12_Great.mono _ _
   | exact law14_awake.mono _
   | exact r10_Admit.mono _ _ _ _ _ _
   | exact r10_Release.mono _ _ _ _ _ _
   | exact r10_Right.mono _ _
   | exact r10_SameItems.mono _ _ _
   | exact LeO.none _
   | refine LeO.ite ?_ ?_
   | refine LeO.bind ?_ (fun _ => ?_)
def law14_AdmitAll.T8 : Bool × List (List Nat × List Nat) := (true, [([], []), ([], []), ([1], [1]), ([0, 2], [0, 2]), ([3, 3], [3]), ([4], [4]), ([5, 4, 4], [4, 5]), ([4], [4]), ([7, 4], [4, 7]), ([6, 8, 4], [4, 6, 8]), ([4, 9], [4, 9]), ([10, 6], [10]), ([11], [11]), ([11], [11]), ([13, 11], [11, 13]), ([12, 14, 11, 11], [11, 12, 14]), ([11, 15], [11, 15]), ([16, 15], [16]), ([17], [17]), ([18, 17, 17], [17, 18]), ([17], [17]), ([20, 17], [17, 20]), ([19, 21, 17], [17, 19, 21]), ([17, 22], [17, 22]), ([23, 19], [23]), ([24], [24]), ([24], [24]), ([25, 26, 24, 24], [24, 25, 26]), ([24, 27], [24, 27]), ([28, 27], [28]), ([29, 29], [29]), ([29, 30], [29, 30]), ([31, 30, 0, 1, 2, 3, 4, 5, 6, 7, 8, 9, 10, 11, 12, 13, 14, 15, 16, 17, 18, 19, 20, 21, 22, 23, 24, 25, 26, 27, 28, 29, 30, 31], [31])])
def law14_AdmitAll.B8 : List Nat := [0, 0, 2, 7, 15, 31, 63, 31, 159, 511, 1023, 2047, 4095, 4095, 12287, 32767, 65535, 131071, 262143, 524287, 262143, 1310719, 4194303, 8388607, 16777215, 33554431, 33554431, 134217727, 268435455, 536870911, 1073741823, 2147483647, 4294967295]
theorem law14_AdmitAll.tab8 : rtab .any (opsOf Try.f16 8) = law14_AdmitAll.T8 := by kernel_rfl
theorem law14_AdmitAll.bits8 : waitsOk law14_AdmitAll.T8.2 law14_AdmitAll.B8 = true := by kernel_rfl
set_option maxHeartbeats 8000000 in
set_option maxRecDepth 100000 in
theorem law14_AdmitAll.calls (k : Nat) (A0 : Option Addr) (c0 : Nat) (l0 : List (S31)) (a1 : ByteArray) (a2_0 : Int) (a2_1 : Int) (a2_2 : Int) (r : Bool) (w : World) (hr0 : Kd.C k31 w A0 l0.length l0) (hc0 : l0.length ≤ c0) (h : law14_AdmitAll.f k l0 a1 a2_0 a2_1 a2_2 = some r) :
  Calls Try.prog 16 #[.slice A0 l0.length c0, .string a1, .agg #[.int .i64 a2_0, .int .i64 a2_1, .int .i64 a2_2]] w fun e w' => e = .returned (.bool r) ∧ Below w.heap.size w w' := by
 have hu27 := Try.underlying27
 have hu67 := Try.underlying67
 have HR0 := Aside0.mk hr0
 have HC0 := Aside0.mk hc0
 clear hr0 hc0
 have HB := Aside0.mk (Below.refl w.heap.size w)
 have H : ((law12_Great.f k l0).bind fun t2 => (if t2 = true then (law14_AdmitAll.j0 k l0 a1 true a2_0 a2_1 a2_2) else (if (a1.size : Int) > 100 then (law14_AdmitAll.j0 k l0 a1 true a2_0 a2_1 a2_2) else ((r10_Right.f k l0).bind fun t3 => (law14_AdmitAll.j0 k l0 a1 (!t3) a2_0 a2_1 a2_2))))) = some r := h
 clear h
 have HC4 := Aside0.mk H
 clear H
 go_enter Try.func16, Try.ntmps16
 go_upto_region 1 with (first|((with_reducible refine gate_dst (N := 5) rfl ?_);(try (refine gate_guard (by rfl) ?_;dsimp only));refine box_event ?hg (N := 5) ?hd (cs := #[.int .i64 a2_0, .int .i64 a2_1, .int .i64 a2_2]) (t := 27) ?hr ?_;(case hd => rfl);(case hg => rfl);(case hr => first|(go_simp;done)|(go_simp;rfl));intro gb1 hg w5 hbox hb;have n0_ := Aside0.mk (below_step (by repeat (first|(with_reducible first|exact HB.out|apply below_alloc|apply pw_below_drewN|apply below_drew1)|exact HB.out)) hb);have n1_ := Aside0.mk (hbox);have n2_ := Aside0.mk ((by rw [hg];exact (below_size (by repeat (first|(with_reducible first|exact HB.out|apply below_alloc|apply pw_below_drewN|apply below_drew1)|exact HB.out))) : w.heap.size ≤ gb1));have n3_ := Aside0.mk ((by rw [hg];exact (below_size (by repeat (first|(with_reducible first|exact HB.out|apply below_alloc|apply pw_below_drewN|apply below_drew1)|exact HB.out))) : w.heap.size ≤ gb1));clear HB;have HB := n0_;have BK1 := n1_;have GW1 := n2_;have GE1 := n3_;clear n0_ n1_ n2_ n3_;clear hb hbox hg))
 (try simp only [Act.put, List.setIfInBounds_toArray, List.set_cons_zero, List.set_cons_succ])
 go_cut [25] (fun v25 wc => ∃ (kq : Nat) (x25_3 : Bool), v25 = .bool x25_3 ∧ Aside0 (law14_AdmitAll.j0 kq l0 a1 x25_3 a2_0 a2_1 a2_2 = some r) ∧ Aside0 (kq ≤ k) ∧ Aside0 (wc.heap[gb1]? = some (.cells #[.int .i64 a2_0, .int .i64 a2_1, .int .i64 a2_2] 27 (0, 0))) ∧ Aside0 (Below w.heap.size w wc))
 case first =>
  have H := HC4.out
  clear HC4
  replace H := Option.bind_eq_some_iff.mp H
  obtain ⟨t2, A60, H⟩ := H
  replace H : (if t2 = true then (law14_AdmitAll.j0 k l0 a1 true a2_0 a2_1 a2_2) else (if (a1.size : Int) > 100 then (law14_AdmitAll.j0 k l0 a1 true a2_0 a2_1 a2_2) else ((r10_Right.f k l0).bind fun t3 => (law14_AdmitAll.j0 k l0 a1 (!t3) a2_0 a2_1 a2_2)))) = some r := H
  have A6 := Aside0.mk A60
  clear A60
  by_cases c7 : t2 = true
  ·subst c7
   have H1 : (law14_AdmitAll.j0 k l0 a1 true a2_0 a2_1 a2_2) = some r := by rw [if_pos rfl] at H; exact H
   clear H
   have H := H1
   clear H1
   have H' := Aside0.mk H
   clear H
   go_wp2_with (first|((with_reducible refine gate_callee (f := 36) rfl ?_);refine goesL_ (some 15) rfl rfl Try.func36 (by kernel_rfl) rfl #[.slice A0 l0.length c0] rfl (by (try simp only [List.map_toArray, List.map_cons, List.map_nil]);first|done|rfl|(simp only [List.length_drop, List.length_take];rfl)) ?_;(with_reducible refine (law12_Great.calls k _ _ l0 true _ ?side1 ?side2 A6.out).mono ?_);(case side1 => repeat (first|exact (Kd.C_below HR0.out HB.out)|(with_reducible refine Kd.C_alloc ?_ _)|(with_reducible refine Kd.C_drewN ?_ _)|(with_reducible refine Kd.C_drew ?_)));(case side2 => exact HC0.out);rintro e w' ⟨rfl, ⟨nd, rfl⟩⟩;refine ⟨_, rfl, ?_⟩))
   go_meet
   case rel => exact ⟨_, (true), (by first|rfl|(simp;done)|(simp [*];done)), H', ⟨by first|omega|exact Nat.le_refl _⟩, ⟨by (with_reducible repeat (first|refine blk_drewN ?_ _|refine blk_drew ?_|refine blk_alloc ?_ _));exact BK1.out⟩, ⟨by repeat (first|(with_reducible first|exact HB.out|apply below_alloc|apply pw_below_drewN|apply below_drew1|refine below_set ?_ GE1.out)|exact HB.out)⟩⟩
  ·replace c7 := Bool.eq_false_iff.mpr c7
   subst c7
   have H1 : (if (a1.size : Int) > 100 then (law14_AdmitAll.j0 k l0 a1 true a2_0 a2_1 a2_2) else ((r10_Right.f k l0).bind fun t3 => (law14_AdmitAll.j0 k l0 a1 (!t3) a2_0 a2_1 a2_2))) = some r := by rw [if_neg (show ¬ (false = true) by decide)] at H; exact H
   clear H
   have H := H1
   clear H1
   by_cases c8 : (a1.size : Int) > 100
   ·rw [if_pos c8] at H
    have c8b0 : decide (100 < (a1.size : Int)) = true := decide_eq_true c8
    have c8b1 : decide (100 < a1.size) = true := decide_eq_true (by omega)
    clear c8
    (first | rw [c8b0] | (simp only [i64_w, i32_w]; rw [c8b0]) | skip)
    have H' := Aside0.mk H
    clear H
    go_wp2_with (first|((with_reducible refine gate_callee (f := 36) rfl ?_);refine goesL_ (some 15) rfl rfl Try.func36 (by kernel_rfl) rfl #[.slice A0 l0.length c0] rfl (by (try simp only [List.map_toArray, List.map_cons, List.map_nil]);first|done|rfl|(simp only [List.length_drop, List.length_take];rfl)) ?_;(with_reducible refine (law12_Great.calls k _ _ l0 false _ ?side1 ?side2 A6.out).mono ?_);(case side1 => repeat (first|exact (Kd.C_below HR0.out HB.out)|(with_reducible refine Kd.C_alloc ?_ _)|(with_reducible refine Kd.C_drewN ?_ _)|(with_reducible refine Kd.C_drew ?_)));(case side2 => exact HC0.out);rintro e w' ⟨rfl, ⟨nd, rfl⟩⟩;refine ⟨_, rfl, ?_⟩))
    go_meet
    case rel => exact ⟨_, (true), (by first|rfl|(simp;done)|(simp [*];done)), H', ⟨by first|omega|exact Nat.le_refl _⟩, ⟨by (with_reducible repeat (first|refine blk_drewN ?_ _|refine blk_drew ?_|refine blk_alloc ?_ _));exact BK1.out⟩, ⟨by repeat (first|(with_reducible first|exact HB.out|apply below_alloc|apply pw_below_drewN|apply below_drew1|refine below_set ?_ GE1.out)|exact HB.out)⟩⟩
   ·rw [if_neg c8] at H
    have c8b0 : decide (100 < (a1.size : Int)) = false := decide_eq_false c8
    have c8b1 : decide (100 < a1.size) = false := decide_eq_false (by omega)
    clear c8
    (first | rw [c8b0] | (simp only [i64_w, i32_w]; rw [c8b0]) | skip)
    replace H := Option.bind_eq_some_iff.mp H
    obtain ⟨t3, A90, H⟩ := H
    replace H : (law14_AdmitAll.j0 k l0 a1 (!t3) a2_0 a2_1 a2_2) = some r := H
    have A9 := Aside0.mk A90
    clear A90
    have H' := Aside0.mk H
    clear H
    go_wp2_with (first|((with_reducible refine gate_callee (f := 36) rfl ?_);refine goesL_ (some 15) rfl rfl Try.func36 (by kernel_rfl) rfl #[.slice A0 l0.length c0] rfl (by (try simp only [List.map_toArray, List.map_cons, List.map_nil]);first|done|rfl|(simp only [List.length_drop, List.length_take];rfl)) ?_;(with_reducible refine (law12_Great.calls k _ _ l0 false _ ?side1 ?side2 A6.out).mono ?_);(case side1 => repeat (first|exact (Kd.C_below HR0.out HB.out)|(with_reducible refine Kd.C_alloc ?_ _)|(with_reducible refine Kd.C_drewN ?_ _)|(with_reducible refine Kd.C_drew ?_)));(case side2 => exact HC0.out);rintro e w' ⟨rfl, ⟨nd, rfl⟩⟩;refine ⟨_, rfl, ?_⟩)|(go_at_call 41;(with_reducible refine (r10_Right.calls k _ _ l0 t3 _ ?side1 ?side2 A9.out).mono ?_);(case side1 => repeat (first|exact (Kd.C_below HR0.out (by repeat (first|(with_reducible first|exact HB.out|apply below_alloc|apply pw_below_drewN|apply below_drew1|refine below_set ?_ GE1.out)|exact HB.out)))|(with_reducible refine Kd.C_alloc ?_ _)|(with_reducible refine Kd.C_drewN ?_ _)|(with_reducible refine Kd.C_drew ?_)));(case side2 => exact HC0.out);rintro e w10 ⟨rfl, hb⟩;have n0_ := Aside0.mk (blk_below (g := gb1) (o := .cells #[.int .i64 a2_0, .int .i64 a2_1, .int .i64 a2_2] 27 (0, 0)) (by (with_reducible repeat (first|refine blk_drewN ?_ _|refine blk_drew ?_|refine blk_alloc ?_ _));exact BK1.out) hb);have n1_ := Aside0.mk (below_step (by repeat (first|(with_reducible first|exact HB.out|apply below_alloc|apply pw_below_drewN|apply below_drew1|refine below_set ?_ GE1.out)|exact HB.out)) hb);clear BK1;clear HB;have BK1 := n0_;have HB := n1_;clear n0_ n1_;(try clear hb);(try clear hb2);(try clear hk);(try clear hi)))
    go_meet
    case rel => exact ⟨_, (!t3), (by first|rfl|(simp;done)|(simp [*];done)), H', ⟨by first|omega|exact Nat.le_refl _⟩, ⟨by (with_reducible repeat (first|refine blk_drewN ?_ _|refine blk_drew ?_|refine blk_alloc ?_ _));exact BK1.out⟩, ⟨by repeat (first|(with_reducible first|exact HB.out|apply below_alloc|apply pw_below_drewN|apply below_drew1|refine below_set ?_ GE1.out)|exact HB.out)⟩⟩
 case rest =>
  clear HC4
  try clear c1
  try clear p2
  try clear c3
  try clear c7
  try clear c8
  try clear c8b0
  try clear c8b1
  obtain ⟨kq, x25_3, rfl, HA, HJ3, BK1, HB⟩ := hcut
  cases kq with
  | zero => exact absurd HA.out (by simp [law14_AdmitAll.j0])
  | succ kj3 =>
   have H := HA.out
   clear HA
   simp only [law14_AdmitAll.j0] at H
   by_cases c11 : x25_3 = true
   ·subst c11
    have H1 : ((law14_awake.f kj3).bind fun t4 => (some t4)) = some r := by rw [if_pos rfl] at H; exact H
    clear H
    have H := H1
    clear H1
    replace H := Option.bind_eq_some_iff.mp H
    obtain ⟨t4, A120, H⟩ := H
    replace H : (some t4) = some r := H
    have A12 := Aside0.mk A120
    clear A120
    obtain rfl := Option.some.inj H
    go_wp2_with (first|((with_reducible refine gate_callee (f := 59) rfl ?_);refine goesL_ (some 26) rfl rfl Try.func59 (by kernel_rfl) rfl #[] rfl (by (try simp only [List.map_toArray, List.map_cons, List.map_nil]);first|done|rfl|(simp only [List.length_drop, List.length_take];rfl)) ?_;(with_reducible refine (law14_awake.calls kj3  t4 _ A12.out).mono ?_);rintro e w13 ⟨rfl, hb⟩;refine ⟨_, rfl, ?_⟩;have n0_ := Aside0.mk (blk_below (g := gb1) (o := .cells #[.int .i64 a2_0, .int .i64 a2_1, .int .i64 a2_2] 27 (0, 0)) (by (with_reducible repeat (first|refine blk_drewN ?_ _|refine blk_drew ?_|refine blk_alloc ?_ _));exact BK1.out) hb);have n1_ := Aside0.mk (below_step (by repeat (first|(with_reducible first|exact HB.out|apply below_alloc|apply pw_below_drewN|apply below_drew1|refine below_set ?_ GE1.out)|exact HB.out)) hb);clear BK1;clear HB;have BK1 := n0_;have HB := n1_;clear n0_ n1_;(try clear hb);(try clear hb2);(try clear hk);(try clear hi)))
    go_ret
    exact ⟨by first|rfl|(simp [errW_none, errW_some] <;> rfl)|(simp [*, errW_none, errW_some] <;> rfl), by repeat (first|(with_reducible first|exact HB.out|apply below_alloc|apply pw_below_drewN|apply below_drew1|refine below_set ?_ GE1.out)|exact HB.out)⟩
   ·replace c11 := Bool.eq_false_iff.mpr c11
    subst c11
    have H1 : ((some (([] : List (S31)) : List (S31))).bind fun y5 => (if y5.length + l0.length < 1256584717458 then ((admit_Admit.f kj3 l0 a1 a2_0 a2_1 a2_2).bind fun bt11 => ((r10_Admit.f kj3 l0 a1 a2_0 a2_1 a2_2).bind fun bt15 => ((admit_Release.f kj3 l0 a1 a2_0 a2_1 a2_2).bind fun bt20 => ((r10_Release.f kj3 l0 a1 a2_0 a2_1 a2_2).bind fun bt24 => ((r10_SameItems.f kj3 bt11.1 bt15.1).bind fun t29 => (if t29 = true then ((law1_Num.f bt11.2).bind fun t30 => (if t30 = bt15.2 then ((r10_SameItems.f kj3 bt20.1 bt24.1).bind fun t31 => (if t31 = true then ((law1_Num.f bt20.2).bind fun t32 => (if t32 = bt24.2 then ((r10_SameItems.f kj3 l0 (y5 ++ l0)).bind fun t33 => (if t33 = true then ((law14_awake.f kj3).bind fun t34 => (some t34)) else (none))) else (none))) else (none))) else (none))) else (none))))))) else (none))) = some r := by rw [if_neg (show ¬ (false = true) by decide)] at H; exact H
    clear H
    have H := H1
    clear H1
    obtain ⟨y5, hy5⟩ : ∃ y_ : List (S31), y_ = (([] : List (S31))) := ⟨_, rfl⟩
    replace H : (if y5.length + l0.length < 1256584717458 then ((admit_Admit.f kj3 l0 a1 a2_0 a2_1 a2_2).bind fun bt11 => ((r10_Admit.f kj3 l0 a1 a2_0 a2_1 a2_2).bind fun bt15 => ((admit_Release.f kj3 l0 a1 a2_0 a2_1 a2_2).bind fun bt20 => ((r10_Release.f kj3 l0 a1 a2_0 a2_1 a2_2).bind fun bt24 => ((r10_SameItems.f kj3 bt11.1 bt15.1).bind fun t29 => (if t29 = true then ((law1_Num.f bt11.2).bind fun t30 => (if t30 = bt15.2 then ((r10_SameItems.f kj3 bt20.1 bt24.1).bind fun t31 => (if t31 = true then ((law1_Num.f bt20.2).bind fun t32 => (if t32 = bt24.2 then ((r10_SameItems.f kj3 l0 (y5 ++ l0)).bind fun t33 => (if t33 = true then ((law14_awake.f kj3).bind fun t34 => (some t34)) else (none))) else (none))) else (none))) else (none))) else (none))))))) else (none)) = some r := by first|(rw [hy5];with_reducible exact H)|(have H2_ := (Option.bind_some _ _).symm.trans H;rw [hy5];with_reducible exact H2_)|(have H2_ := (Option.bind_some _ _).symm.trans H;with_reducible exact H2_)|with_reducible exact H|(rw [hy5];exact H)|exact H
    have Ny5 := Aside0.mk hy5
    clear hy5
    by_cases c14 : y5.length + l0.length < 1256584717458
    ·rw [if_pos c14] at H
     have LMc14 := Aside0.mk c14
     clear c14
     obtain ⟨y8, hy8⟩ : ∃ y_ : List (S31), y_ = (y5 ++ l0) := ⟨_, rfl⟩
     replace H : ((admit_Admit.f kj3 l0 a1 a2_0 a2_1 a2_2).bind fun bt11 => ((r10_Admit.f kj3 l0 a1 a2_0 a2_1 a2_2).bind fun bt15 => ((admit_Release.f kj3 l0 a1 a2_0 a2_1 a2_2).bind fun bt20 => ((r10_Release.f kj3 l0 a1 a2_0 a2_1 a2_2).bind fun bt24 => ((r10_SameItems.f kj3 bt11.1 bt15.1).bind fun t29 => (if t29 = true then ((law1_Num.f bt11.2).bind fun t30 => (if t30 = bt15.2 then ((r10_SameItems.f kj3 bt20.1 bt24.1).bind fun t31 => (if t31 = true then ((law1_Num.f bt20.2).bind fun t32 => (if t32 = bt24.2 then ((r10_SameItems.f kj3 l0 y8).bind fun t33 => (if t33 = true then ((law14_awake.f kj3).bind fun t34 => (some t34)) else (none))) else (none))) else (none))) else (none))) else (none))))))) = some r := by first|(rw [hy8];with_reducible exact H)|(have H2_ := (Option.bind_some _ _).symm.trans H;rw [hy8];with_reducible exact H2_)|(have H2_ := (Option.bind_some _ _).symm.trans H;with_reducible exact H2_)|with_reducible exact H|(rw [hy8];exact H)|exact H
     have Ny8 := Aside0.mk hy8
     clear hy8
     replace H := Option.bind_eq_some_iff.mp H
     obtain ⟨⟨t11, t14⟩, A150, H⟩ := H
     replace H : ((r10_Admit.f kj3 l0 a1 a2_0 a2_1 a2_2).bind fun bt15 => ((admit_Release.f kj3 l0 a1 a2_0 a2_1 a2_2).bind fun bt20 => ((r10_Release.f kj3 l0 a1 a2_0 a2_1 a2_2).bind fun bt24 => ((r10_SameItems.f kj3 t11 bt15.1).bind fun t29 => (if t29 = true then ((law1_Num.f t14).bind fun t30 => (if t30 = bt15.2 then ((r10_SameItems.f kj3 bt20.1 bt24.1).bind fun t31 => (if t31 = true then ((law1_Num.f bt20.2).bind fun t32 => (if t32 = bt24.2 then ((r10_SameItems.f kj3 l0 y8).bind fun t33 => (if t33 = true then ((law14_awake.f kj3).bind fun t34 => (some t34)) else (none))) else (none))) else (none))) else (none))) else (none)))))) = some r := H
     have A15 := Aside0.mk A150
     clear A150
     replace H := Option.bind_eq_some_iff.mp H
     obtain ⟨⟨t15, t18⟩, A160, H⟩ := H
     replace H : ((admit_Release.f kj3 l0 a1 a2_0 a2_1 a2_2).bind fun bt20 => ((r10_Release.f kj3 l0 a1 a2_0 a2_1 a2_2).bind fun bt24 => ((r10_SameItems.f kj3 t11 t15).bind fun t29 => (if t29 = true then ((law1_Num.f t14).bind fun t30 => (if t30 = t18 then ((r10_SameItems.f kj3 bt20.1 bt24.1).bind fun t31 => (if t31 = true then ((law1_Num.f bt20.2).bind fun t32 => (if t32 = bt24.2 then ((r10_SameItems.f kj3 l0 y8).bind fun t33 => (if t33 = true then ((law14_awake.f kj3).bind fun t34 => (some t34)) else (none))) else (none))) else (none))) else (none))) else (none))))) = some r := H
     have A16 := Aside0.mk A160
     clear A160
     replace H := Option.bind_eq_some_iff.mp H
     obtain ⟨⟨t20, t23⟩, A170, H⟩ := H
     replace H : ((r10_Release.f kj3 l0 a1 a2_0 a2_1 a2_2).bind fun bt24 => ((r10_SameItems.f kj3 t11 t15).bind fun t29 => (if t29 = true then ((law1_Num.f t14).bind fun t30 => (if t30 = t18 then ((r10_SameItems.f kj3 t20 bt24.1).bind fun t31 => (if t31 = true then ((law1_Num.f t23).bind fun t32 => (if t32 = bt24.2 then ((r10_SameItems.f kj3 l0 y8).bind fun t33 => (if t33 = true then ((law14_awake.f kj3).bind fun t34 => (some t34)) else (none))) else (none))) else (none))) else (none))) else (none)))) = some r := H
     have A17 := Aside0.mk A170
     clear A170
     replace H := Option.bind_eq_some_iff.mp H
     obtain ⟨⟨t24, t27⟩, A180, H⟩ := H
     replace H : ((r10_SameItems.f kj3 t11 t15).bind fun t29 => (if t29 = true then ((law1_Num.f t14).bind fun t30 => (if t30 = t18 then ((r10_SameItems.f kj3 t20 t24).bind fun t31 => (if t31 = true then ((law1_Num.f t23).bind fun t32 => (if t32 = t27 then ((r10_SameItems.f kj3 l0 y8).bind fun t33 => (if t33 = true then ((law14_awake.f kj3).bind fun t34 => (some t34)) else (none))) else (none))) else (none))) else (none))) else (none))) = some r := H
     have A18 := Aside0.mk A180
     clear A180
     replace H := Option.bind_eq_some_iff.mp H
     obtain ⟨t29, A190, H⟩ := H
     replace H : (if t29 = true then ((law1_Num.f t14).bind fun t30 => (if t30 = t18 then ((r10_SameItems.f kj3 t20 t24).bind fun t31 => (if t31 = true then ((law1_Num.f t23).bind fun t32 => (if t32 = t27 then ((r10_SameItems.f kj3 l0 y8).bind fun t33 => (if t33 = true then ((law14_awake.f kj3).bind fun t34 => (some t34)) else (none))) else (none))) else (none))) else (none))) else (none)) = some r := H
     have A19 := Aside0.mk A190
     clear A190
     by_cases c20 : t29 = true
     ·subst c20
      have H1 : ((law1_Num.f t14).bind fun t30 => (if t30 = t18 then ((r10_SameItems.f kj3 t20 t24).bind fun t31 => (if t31 = true then ((law1_Num.f t23).bind fun t32 => (if t32 = t27 then ((r10_SameItems.f kj3 l0 y8).bind fun t33 => (if t33 = true then ((law14_awake.f kj3).bind fun t34 => (some t34)) else (none))) else (none))) else (none))) else (none))) = some r := by rw [if_pos rfl] at H; exact H
      clear H
      have H := H1
      clear H1
      replace H := Option.bind_eq_some_iff.mp H
      obtain ⟨t30, A210, H⟩ := H
      replace H : (if t30 = t18 then ((r10_SameItems.f kj3 t20 t24).bind fun t31 => (if t31 = true then ((law1_Num.f t23).bind fun t32 => (if t32 = t27 then ((r10_SameItems.f kj3 l0 y8).bind fun t33 => (if t33 = true then ((law14_awake.f kj3).bind fun t34 => (some t34)) else (none))) else (none))) else (none))) else (none)) = some r := H
      have A21 := Aside0.mk A210
      clear A210
      by_cases c22 : t30 = t18
      ·rw [if_pos c22] at H
       have c22b0 : (t30 == t18) = true := beq_iff_eq.mpr c22
       have c22b1 : (t30 != t18) = false := bne_eq_false_iff_eq.mpr c22
       clear c22
       replace H := Option.bind_eq_some_iff.mp H
       obtain ⟨t31, A230, H⟩ := H
       replace H : (if t31 = true then ((law1_Num.f t23).bind fun t32 => (if t32 = t27 then ((r10_SameItems.f kj3 l0 y8).bind fun t33 => (if t33 = true then ((law14_awake.f kj3).bind fun t34 => (some t34)) else (none))) else (none))) else (none)) = some r := H
       have A23 := Aside0.mk A230
       clear A230
       by_cases c24 : t31 = true
       ·subst c24
        have H1 : ((law1_Num.f t23).bind fun t32 => (if t32 = t27 then ((r10_SameItems.f kj3 l0 y8).bind fun t33 => (if t33 = true then ((law14_awake.f kj3).bind fun t34 => (some t34)) else (none))) else (none))) = some r := by rw [if_pos rfl] at H; exact H
        clear H
        have H := H1
        clear H1
        replace H := Option.bind_eq_some_iff.mp H
        obtain ⟨t32, A250, H⟩ := H
        replace H : (if t32 = t27 then ((r10_SameItems.f kj3 l0 y8).bind fun t33 => (if t33 = true then ((law14_awake.f kj3).bind fun t34 => (some t34)) else (none))) else (none)) = some r := H
        have A25 := Aside0.mk A250
        clear A250
        by_cases c26 : t32 = t27
        ·rw [if_pos c26] at H
         have c26b0 : (t32 == t27) = true := beq_iff_eq.mpr c26
         have c26b1 : (t32 != t27) = false := bne_eq_false_iff_eq.mpr c26
         clear c26
         replace H := Option.bind_eq_some_iff.mp H
         obtain ⟨t33, A270, H⟩ := H
         replace H : (if t33 = true then ((law14_awake.f kj3).bind fun t34 => (some t34)) else (none)) = some r := H
         have A27 := Aside0.mk A270
         clear A270
         by_cases c28 : t33 = true
         ·subst c28
          have H1 : ((law14_awake.f kj3).bind fun t34 => (some t34)) = some r := by rw [if_pos rfl] at H; exact H
          clear H
          have H := H1
          clear H1
          replace H := Option.bind_eq_some_iff.mp H
          obtain ⟨t34, A290, H⟩ := H
          replace H : (some t34) = some r := H
          have A29 := Aside0.mk A290
          clear A290
          obtain rfl := Option.some.inj H
          try go_wp2_with (first|((with_reducible refine gate_dst (N := 27) rfl ?_);(try (refine gate_guard (by rfl) ?_;dsimp only));refine Kd.R_lit k31 _ 31 ?hg (N := 27) ?hd (xs := ([] : List (S31))) (inner := []) (ok := fun _ => True) (okp := fun _ => True) ?hr ?hp (fun _ hk => hk) trivial (Below.refl _ _) (Nat.le_refl _) (by simp) ?_;(case hd => rfl);(case hg => rfl);(case hr => first|(go_simp;done)|(go_simp;rfl));(case hp => exact (Reps.none _ _));intro v6 w30 ho31 hb hg_ hnew_;clear hg_ hnew_;(first|rw [← Ny5.out] at ho31|(simp only [Int.reduceToNat] at ho31;rw [← Ny5.out] at ho31));have n0_ := Aside0.mk (Kd.R_lower ho31 (below_size (by repeat (first|(with_reducible first|exact HB.out|apply below_alloc|apply pw_below_drewN|apply below_drew1|refine below_set ?_ GE1.out)|exact HB.out))));have n1_ := Aside0.mk (blk_below (g := gb1) (o := .cells #[.int .i64 a2_0, .int .i64 a2_1, .int .i64 a2_2] 27 (0, 0)) (by (with_reducible repeat (first|refine blk_drewN ?_ _|refine blk_drew ?_|refine blk_alloc ?_ _));exact BK1.out) hb);have n2_ := Aside0.mk (below_step (by repeat (first|(with_reducible first|exact HB.out|apply below_alloc|apply pw_below_drewN|apply below_drew1|refine below_set ?_ GE1.out)|exact HB.out)) hb);clear BK1;clear HB;have HO7 := n0_;have BK1 := n1_;have HB := n2_;clear n0_ n1_ n2_;clear hb ho31)|((with_reducible refine gate_builtin (b := .append) (xs := #[.tmp 27, .tmp 28]) rfl ?_);(try (refine gate_guard (by rfl) ?_;dsimp only));at_builtin;refine Kd.R_append_rows k31 (w0 := w) w.heap.size rfl (.tmp 27) (.tmp 28) 24 31 (.agg #[(.string ⟨#[]⟩), (.string ⟨#[]⟩), (.int .i64 0), (.int .i64 0), (.int .i64 0), (.int .i64 0), (.int .i64 0), (.int .i64 0), (.int .i64 0), (.int .i64 0), (.int .i64 0), (.int .i64 0)]) 112 rfl Try.underlying24 info31 rfl (by decide) (by omega) v6 y5 l0 _ _ _ (fun _ => True) (fun _ => False) rfl rfl ?aO ?aR (fun _ _ h => h) (fun _ h => h.elim) ?aF ?aB ?aS ?aL ?_;(case aR => repeat (first|exact (Kd.C_below HR0.out HB.out)|(with_reducible refine Kd.C_alloc ?_ _)|(with_reducible refine Kd.C_drewN ?_ _)|(with_reducible refine Kd.C_drew ?_)));(case aB => exact (by repeat (first|(with_reducible first|exact HB.out|apply below_alloc|apply pw_below_drewN|apply below_drew1|refine below_set ?_ GE1.out)|exact HB.out)));(case aF => exact (fun _ _ => trivial));(case aO => exact (by (with_reducible repeat (first|apply Kd.R_alloc|apply Kd.R_drewN|apply Kd.R_drew));exact HO7.out));(case aS => exact (below_size (by repeat (first|(with_reducible first|exact HB.out|apply below_alloc|apply pw_below_drewN|apply below_drew1|refine below_set ?_ GE1.out)|exact HB.out))));(case aL => have := LMc14.out;omega);intro v9 w32 ho hb hg hat;rw [← Ny8.out] at ho;have n0_ := Aside0.mk (blk_grown (g := gb1) (o := .cells #[.int .i64 a2_0, .int .i64 a2_1, .int .i64 a2_2] 27 (0, 0)) (by (with_reducible repeat (first|refine blk_drewN ?_ _|refine blk_drew ?_|refine blk_alloc ?_ _));exact BK1.out) hg (Kd.R_ne HO7.out BK1.out (by decide)));have n1_ := Aside0.mk (hb);have n2_ := Aside0.mk (ho);clear BK1;clear HB;clear HO7;have BK1 := n0_;have HB := n1_;have HO10 := n2_;clear n0_ n1_ n2_;clear ho hb hg hat;have hcz33_0 : w32.cell? ⟨gb1, 0, none⟩ = some (.int .i64 a2_0) := (blk_cell BK1.out 0).trans rfl;have hcz33_1 : w32.cell? ⟨gb1, 1, none⟩ = some (.int .i64 a2_1) := (blk_cell BK1.out 1).trans rfl;have hcz33_2 : w32.cell? ⟨gb1, 2, none⟩ = some (.int .i64 a2_2) := (blk_cell BK1.out 2).trans rfl;have hfz33_0 := blk_frozen BK1.out 0;have hfz33_1 := blk_frozen BK1.out 1;have hfz33_2 := blk_frozen BK1.out 2)|((with_reducible refine gate_callee (f := 60) rfl ?_);refine goesL_ (some 34) rfl rfl Try.func60 (by kernel_rfl) rfl #[.slice A0 l0.length c0, .string a1, .agg #[.int .i64 a2_0, .int .i64 a2_1, .int .i64 a2_2]] rfl (by (try simp only [List.map_toArray, List.map_cons, List.map_nil]);first|done|rfl|(simp only [List.length_drop, List.length_take];rfl)) ?_;(with_reducible refine (admit_Admit.calls kj3 _ _ l0 a1 a2_0 a2_1 a2_2 t11 t14 _ ?side1 ?side2 A15.out).mono ?_);(case side1 => repeat (first|exact (Kd.C_below HR0.out HB.out)|(with_reducible refine Kd.C_alloc ?_ _)|(with_reducible refine Kd.C_drewN ?_ _)|(with_reducible refine Kd.C_drew ?_)));(case side2 => exact HC0.out);rintro e w34 ⟨v12, rfl, ho0, hb⟩;refine ⟨_, rfl, ?_⟩;have n0_ := Aside0.mk (Kd.R_elder' (by (with_reducible repeat (first|apply Kd.R_alloc|apply Kd.R_drewN|apply Kd.R_drew));exact HO10.out) (Kd.R_base ho0) hb);have n1_ := Aside0.mk (Kd.R_lower (Kd.R_new' ho0 (Kd.R_lt (by (with_reducible repeat (first|apply Kd.R_alloc|apply Kd.R_drewN|apply Kd.R_drew));exact HO10.out))) (below_size (by repeat (first|(with_reducible first|exact HB.out|apply below_alloc|apply pw_below_drewN|apply below_drew1|refine below_set ?_ GE1.out)|exact HB.out))));have n2_ := Aside0.mk (blk_below (g := gb1) (o := .cells #[.int .i64 a2_0, .int .i64 a2_1, .int .i64 a2_2] 27 (0, 0)) (by (with_reducible repeat (first|refine blk_drewN ?_ _|refine blk_drew ?_|refine blk_alloc ?_ _));exact BK1.out) hb);have n3_ := Aside0.mk (below_step (by repeat (first|(with_reducible first|exact HB.out|apply below_alloc|apply pw_below_drewN|apply below_drew1|refine below_set ?_ GE1.out)|exact HB.out)) hb);clear HO10;clear BK1;clear HB;have HO10 := n0_;have HO13 := n1_;have BK1 := n2_;have HB := n3_;clear n0_ n1_ n2_ n3_;(try clear hb);(try clear hb2);(try clear hk);(try clear hi);(try clear ho0);have hcz35_0 : w34.cell? ⟨gb1, 0, none⟩ = some (.int .i64 a2_0) := (blk_cell BK1.out 0).trans rfl;have hcz35_1 : w34.cell? ⟨gb1, 1, none⟩ = some (.int .i64 a2_1) := (blk_cell BK1.out 1).trans rfl;have hcz35_2 : w34.cell? ⟨gb1, 2, none⟩ = some (.int .i64 a2_2) := (blk_cell BK1.out 2).trans rfl;have hfz35_0 := blk_frozen BK1.out 0;have hfz35_1 := blk_frozen BK1.out 1;have hfz35_2 := blk_frozen BK1.out 2)|((with_reducible refine gate_callee (f := 66) rfl ?_);refine goesL_ (some 40) rfl rfl Try.func66 (by kernel_rfl) rfl #[.slice A0 l0.length c0, .string a1, .agg #[.int .i64 a2_0, .int .i64 a2_1, .int .i64 a2_2]] rfl (by (try simp only [List.map_toArray, List.map_cons, List.map_nil]);first|done|rfl|(simp only [List.length_drop, List.length_take];rfl)) ?_;(with_reducible refine (r10_Admit.calls kj3 _ _ l0 a1 a2_0 a2_1 a2_2 t15 t18 _ ?side1 ?side2 A16.out).mono ?_);(case side1 => repeat (first|exact (Kd.C_below HR0.out HB.out)|(with_reducible refine Kd.C_alloc ?_ _)|(with_reducible refine Kd.C_drewN ?_ _)|(with_reducible refine Kd.C_drew ?_)));(case side2 => exact HC0.out);rintro e w36 ⟨v16, rfl, ho0, hb⟩;refine ⟨_, rfl, ?_⟩;have n0_ := Aside0.mk (Kd.R_elder' (by (with_reducible repeat (first|apply Kd.R_alloc|apply Kd.R_drewN|apply Kd.R_drew));exact HO10.out) (Kd.R_base ho0) hb);have n1_ := Aside0.mk (Kd.R_elder' (by (with_reducible repeat (first|apply Kd.R_alloc|apply Kd.R_drewN|apply Kd.R_drew));exact HO13.out) (Kd.R_base ho0) hb);have n2_ := Aside0.mk (Kd.R_lower (Kd.R_new' (Kd.R_new' ho0 (Kd.R_lt (by (with_reducible repeat (first|apply Kd.R_alloc|apply Kd.R_drewN|apply Kd.R_drew));exact HO10.out))) (Kd.R_lt (by (with_reducible repeat (first|apply Kd.R_alloc|apply Kd.R_drewN|apply Kd.R_drew));exact HO13.out))) (below_size (by repeat (first|(with_reducible first|exact HB.out|apply below_alloc|apply pw_below_drewN|apply below_drew1|refine below_set ?_ GE1.out)|exact HB.out))));have n3_ := Aside0.mk (blk_below (g := gb1) (o := .cells #[.int .i64 a2_0, .int .i64 a2_1, .int .i64 a2_2] 27 (0, 0)) (by (with_reducible repeat (first|refine blk_drewN ?_ _|refine blk_drew ?_|refine blk_alloc ?_ _));exact BK1.out) hb);have n4_ := Aside0.mk (below_step (by repeat (first|(with_reducible first|exact HB.out|apply below_alloc|apply pw_below_drewN|apply below_drew1|refine below_set ?_ GE1.out)|exact HB.out)) hb);clear HO10;clear HO13;clear BK1;clear HB;have HO10 := n0_;have HO13 := n1_;have HO17 := n2_;have BK1 := n3_;have HB := n4_;clear n0_ n1_ n2_ n3_ n4_;(try clear hb);(try clear hb2);(try clear hk);(try clear hi);(try clear ho0))|((with_reducible refine gate_dst (N := 10) rfl ?_);(try (refine gate_guard (by rfl) ?_;dsimp only));refine box_event ?hg (N := 10) ?hd (cs := #[.slice none 0 0, .int .i64 0]) (t := 67) ?hr ?_;(case hd => rfl);(case hg => rfl);(case hr => first|(go_simp;done)|(go_simp;rfl));intro gb19 hg w37 hbox hb;have n0_ := Aside0.mk (Kd.R_below (by (with_reducible repeat (first|apply Kd.R_alloc|apply Kd.R_drewN|apply Kd.R_drew));exact HO10.out) hb);have n1_ := Aside0.mk (Kd.R_below (by (with_reducible repeat (first|apply Kd.R_alloc|apply Kd.R_drewN|apply Kd.R_drew));exact HO13.out) hb);have n2_ := Aside0.mk (Kd.R_below (by (with_reducible repeat (first|apply Kd.R_alloc|apply Kd.R_drewN|apply Kd.R_drew));exact HO17.out) hb);have n3_ := Aside0.mk (blk_below (g := gb1) (o := .cells #[.int .i64 a2_0, .int .i64 a2_1, .int .i64 a2_2] 27 (0, 0)) (by (with_reducible repeat (first|refine blk_drewN ?_ _|refine blk_drew ?_|refine blk_alloc ?_ _));exact BK1.out) hb);have n4_ := Aside0.mk (below_step (by repeat (first|(with_reducible first|exact HB.out|apply below_alloc|apply pw_below_drewN|apply below_drew1|refine below_set ?_ GE1.out)|exact HB.out)) hb);have n5_ := Aside0.mk (hbox);have n6_ := Aside0.mk ((by rw [hg];exact (below_size (by repeat (first|(with_reducible first|exact HB.out|apply below_alloc|apply pw_below_drewN|apply below_drew1|refine below_set ?_ GE1.out)|exact HB.out))) : w.heap.size ≤ gb19));have n7_ := Aside0.mk ((by rw [hg];exact (below_size (by repeat (first|(with_reducible first|exact HB.out|apply below_alloc|apply pw_below_drewN|apply below_drew1|refine below_set ?_ GE1.out)|exact HB.out))) : w.heap.size ≤ gb19));have n8_ := Aside0.mk ((by rw [hg];exact Nat.ne_of_lt (blk_lt (g := gb1) (o := .cells #[.int .i64 a2_0, .int .i64 a2_1, .int .i64 a2_2] 27 (0, 0)) (by (with_reducible repeat (first|refine blk_drewN ?_ _|refine blk_drew ?_|refine blk_alloc ?_ _));exact BK1.out)) : gb1 ≠ gb19));have n9_ := Aside0.mk ((by rw [hg];exact Nat.ne_of_gt (blk_lt (g := gb1) (o := .cells #[.int .i64 a2_0, .int .i64 a2_1, .int .i64 a2_2] 27 (0, 0)) (by (with_reducible repeat (first|refine blk_drewN ?_ _|refine blk_drew ?_|refine blk_alloc ?_ _));exact BK1.out)) : gb19 ≠ gb1));clear HO10;clear HO13;clear HO17;clear BK1;clear HB;have HO10 := n0_;have HO13 := n1_;have HO17 := n2_;have BK1 := n3_;have HB := n4_;have BK19 := n5_;have GW19 := n6_;have GE19 := n7_;have NB1_19 := n8_;have NB19_1 := n9_;clear n0_ n1_ n2_ n3_ n4_ n5_ n6_ n7_ n8_ n9_;clear hb hbox hg;obtain ⟨Ao38, co38, eo38⟩ := Kd.R_slice HO17.out;subst eo38;have hnb39 := NB19_1.out;have hnc39 := NB1_19.out;have hcz40_0 : w37.cell? ⟨gb19, 0, none⟩ = some (.slice none 0 0) := (blk_cell BK19.out 0).trans rfl;have hcz40_1 : w37.cell? ⟨gb19, 1, none⟩ = some (.int .i64 0) := (blk_cell BK19.out 1).trans rfl;have hfz40_0 := blk_frozen BK19.out 0;have hfz40_1 := blk_frozen BK19.out 1;have hcz41_0 : w37.cell? ⟨gb1, 0, none⟩ = some (.int .i64 a2_0) := (blk_cell BK1.out 0).trans rfl;have hcz41_1 : w37.cell? ⟨gb1, 1, none⟩ = some (.int .i64 a2_1) := (blk_cell BK1.out 1).trans rfl;have hcz41_2 : w37.cell? ⟨gb1, 2, none⟩ = some (.int .i64 a2_2) := (blk_cell BK1.out 2).trans rfl;have hfz41_0 := blk_frozen BK1.out 0;have hfz41_1 := blk_frozen BK1.out 1;have hfz41_2 := blk_frozen BK1.out 2)|((with_reducible refine gate_callee (f := 76) rfl ?_);refine goesL_ (some 45) rfl rfl Try.func76 (by kernel_rfl) rfl #[.slice A0 l0.length c0, .string a1, .agg #[.int .i64 a2_0, .int .i64 a2_1, .int .i64 a2_2]] rfl (by (try simp only [List.map_toArray, List.map_cons, List.map_nil]);first|done|rfl|(simp only [List.length_drop, List.length_take];rfl)) ?_;(with_reducible refine (admit_Release.calls kj3 _ _ l0 a1 a2_0 a2_1 a2_2 t20 t23 _ ?side1 ?side2 A17.out).mono ?_);(case side1 => exact Kd.C_below HR0.out (by repeat (first|(with_reducible first|exact HB.out|apply below_alloc|apply pw_below_drewN|apply below_drew1|refine below_set ?_ GE1.out|refine below_set ?_ GE19.out)|exact HB.out)));(case side2 => exact HC0.out);rintro e w42 ⟨v21, rfl, ho0, hb⟩;refine ⟨_, rfl, ?_⟩;have n0_ := Aside0.mk (Kd.R_elder' (by (with_reducible repeat (first|apply Kd.R_alloc|apply Kd.R_drewN|apply Kd.R_drew));exact (Kd.R_mono (Kd.R_far (p := ⟨gb19, 1, none⟩) (Kd.R_far (p := ⟨gb19, 0, none⟩) (Kd.R_types HO10.out BK19.out (by decide)) (fun _ hk => hk.2) (.slice Ao38 t15.length co38)) (fun _ hk => hk.2) (.int .i64 t18)) (fun _ h_ => h_.1))) (Kd.R_base ho0) hb);have n1_ := Aside0.mk (Kd.R_elder' (by (with_reducible repeat (first|apply Kd.R_alloc|apply Kd.R_drewN|apply Kd.R_drew));exact (Kd.R_mono (Kd.R_far (p := ⟨gb19, 1, none⟩) (Kd.R_far (p := ⟨gb19, 0, none⟩) (Kd.R_types HO13.out BK19.out (by decide)) (fun _ hk => hk.2) (.slice Ao38 t15.length co38)) (fun _ hk => hk.2) (.int .i64 t18)) (fun _ h_ => h_.1))) (Kd.R_base ho0) hb);have n2_ := Aside0.mk (Kd.R_elder' (by (with_reducible repeat (first|apply Kd.R_alloc|apply Kd.R_drewN|apply Kd.R_drew));exact (Kd.R_mono (Kd.R_far (p := ⟨gb19, 1, none⟩) (Kd.R_far (p := ⟨gb19, 0, none⟩) (Kd.R_types HO17.out BK19.out (by decide)) (fun _ hk => hk.2) (.slice Ao38 t15.length co38)) (fun _ hk => hk.2) (.int .i64 t18)) (fun _ h_ => h_.1))) (Kd.R_base ho0) hb);have n3_ := Aside0.mk (Kd.R_lower (Kd.R_new' (Kd.R_new' (Kd.R_new' ho0 (Kd.R_lt (by (with_reducible repeat (first|apply Kd.R_alloc|apply Kd.R_drewN|apply Kd.R_drew));exact (Kd.R_mono (Kd.R_far (p := ⟨gb19, 1, none⟩) (Kd.R_far (p := ⟨gb19, 0, none⟩) (Kd.R_types HO10.out BK19.out (by decide)) (fun _ hk => hk.2) (.slice Ao38 t15.length co38)) (fun _ hk => hk.2) (.int .i64 t18)) (fun _ h_ => h_.1))))) (Kd.R_lt (by (with_reducible repeat (first|apply Kd.R_alloc|apply Kd.R_drewN|apply Kd.R_drew));exact (Kd.R_mono (Kd.R_far (p := ⟨gb19, 1, none⟩) (Kd.R_far (p := ⟨gb19, 0, none⟩) (Kd.R_types HO13.out BK19.out (by decide)) (fun _ hk => hk.2) (.slice Ao38 t15.length co38)) (fun _ hk => hk.2) (.int .i64 t18)) (fun _ h_ => h_.1))))) (Kd.R_lt (by (with_reducible repeat (first|apply Kd.R_alloc|apply Kd.R_drewN|apply Kd.R_drew));exact (Kd.R_mono (Kd.R_far (p := ⟨gb19, 1, none⟩) (Kd.R_far (p := ⟨gb19, 0, none⟩) (Kd.R_types HO17.out BK19.out (by decide)) (fun _ hk => hk.2) (.slice Ao38 t15.length co38)) (fun _ hk => hk.2) (.int .i64 t18)) (fun _ h_ => h_.1))))) (below_size (by repeat (first|(with_reducible first|exact HB.out|apply below_alloc|apply pw_below_drewN|apply below_drew1|refine below_set ?_ GE1.out|refine below_set ?_ GE19.out)|exact HB.out))));have n4_ := Aside0.mk (blk_below (g := gb1) (o := .cells #[.int .i64 a2_0, .int .i64 a2_1, .int .i64 a2_2] 27 (0, 0)) (by (with_reducible repeat (first|refine blk_drewN ?_ _|refine blk_drew ?_|refine blk_alloc ?_ _));refine blk_far ?_ NB1_19.out _;(with_reducible repeat (first|refine blk_drewN ?_ _|refine blk_drew ?_|refine blk_alloc ?_ _));refine blk_far ?_ NB1_19.out _;(with_reducible repeat (first|refine blk_drewN ?_ _|refine blk_drew ?_|refine blk_alloc ?_ _));exact BK1.out) hb);have n5_ := Aside0.mk (blk_below (g := gb19) (o := .cells #[.slice Ao38 t15.length co38, .int .i64 t18] 67 (0, 0)) (by (with_reducible repeat (first|refine blk_drewN ?_ _|refine blk_drew ?_|refine blk_alloc ?_ _));refine blk_put (cs := #[.slice Ao38 t15.length co38, .int .i64 0]) ?_ 1 _ rfl;(with_reducible repeat (first|refine blk_drewN ?_ _|refine blk_drew ?_|refine blk_alloc ?_ _));refine blk_put (cs := #[.slice none 0 0, .int .i64 0]) ?_ 0 _ rfl;(with_reducible repeat (first|refine blk_drewN ?_ _|refine blk_drew ?_|refine blk_alloc ?_ _));exact BK19.out) hb);have n6_ := Aside0.mk (below_step (by repeat (first|(with_reducible first|exact HB.out|apply below_alloc|apply pw_below_drewN|apply below_drew1|refine below_set ?_ GE1.out|refine below_set ?_ GE19.out)|exact HB.out)) hb);clear HO10;clear HO13;clear HO17;clear BK1;clear BK19;clear HB;have HO10 := n0_;have HO13 := n1_;have HO17 := n2_;have HO22 := n3_;have BK1 := n4_;have BK19 := n5_;have HB := n6_;clear n0_ n1_ n2_ n3_ n4_ n5_ n6_;(try clear hb);(try clear hb2);(try clear hk);(try clear hi);(try clear ho0);have hcz43_0 : w42.cell? ⟨gb1, 0, none⟩ = some (.int .i64 a2_0) := (blk_cell BK1.out 0).trans rfl;have hcz43_1 : w42.cell? ⟨gb1, 1, none⟩ = some (.int .i64 a2_1) := (blk_cell BK1.out 1).trans rfl;have hcz43_2 : w42.cell? ⟨gb1, 2, none⟩ = some (.int .i64 a2_2) := (blk_cell BK1.out 2).trans rfl;have hfz43_0 := blk_frozen BK1.out 0;have hfz43_1 := blk_frozen BK1.out 1;have hfz43_2 := blk_frozen BK1.out 2)|((with_reducible refine gate_callee (f := 77) rfl ?_);refine goesL_ (some 51) rfl rfl Try.func77 (by kernel_rfl) rfl #[.slice A0 l0.length c0, .string a1, .agg #[.int .i64 a2_0, .int .i64 a2_1, .int .i64 a2_2]] rfl (by (try simp only [List.map_toArray, List.map_cons, List.map_nil]);first|done|rfl|(simp only [List.length_drop, List.length_take];rfl)) ?_;(with_reducible refine (r10_Release.calls kj3 _ _ l0 a1 a2_0 a2_1 a2_2 t24 t27 _ ?side1 ?side2 A18.out).mono ?_);(case side1 => repeat (first|exact (Kd.C_below HR0.out HB.out)|(with_reducible refine Kd.C_alloc ?_ _)|(with_reducible refine Kd.C_drewN ?_ _)|(with_reducible refine Kd.C_drew ?_)));(case side2 => exact HC0.out);rintro e w44 ⟨v25, rfl, ho0, hb⟩;refine ⟨_, rfl, ?_⟩;have n0_ := Aside0.mk (Kd.R_elder' (by (with_reducible repeat (first|apply Kd.R_alloc|apply Kd.R_drewN|apply Kd.R_drew));exact HO10.out) (Kd.R_base ho0) hb);have n1_ := Aside0.mk (Kd.R_elder' (by (with_reducible repeat (first|apply Kd.R_alloc|apply Kd.R_drewN|apply Kd.R_drew));exact HO13.out) (Kd.R_base ho0) hb);have n2_ := Aside0.mk (Kd.R_elder' (by (with_reducible repeat (first|apply Kd.R_alloc|apply Kd.R_drewN|apply Kd.R_drew));exact HO17.out) (Kd.R_base ho0) hb);have n3_ := Aside0.mk (Kd.R_elder' (by (with_reducible repeat (first|apply Kd.R_alloc|apply Kd.R_drewN|apply Kd.R_drew));exact HO22.out) (Kd.R_base ho0) hb);have n4_ := Aside0.mk (Kd.R_lower (Kd.R_new' (Kd.R_new' (Kd.R_new' (Kd.R_new' ho0 (Kd.R_lt (by (with_reducible repeat (first|apply Kd.R_alloc|apply Kd.R_drewN|apply Kd.R_drew));exact HO10.out))) (Kd.R_lt (by (with_reducible repeat (first|apply Kd.R_alloc|apply Kd.R_drewN|apply Kd.R_drew));exact HO13.out))) (Kd.R_lt (by (with_reducible repeat (first|apply Kd.R_alloc|apply Kd.R_drewN|apply Kd.R_drew));exact HO17.out))) (Kd.R_lt (by (with_reducible repeat (first|apply Kd.R_alloc|apply Kd.R_drewN|apply Kd.R_drew));exact HO22.out))) (below_size (by repeat (first|(with_reducible first|exact HB.out|apply below_alloc|apply pw_below_drewN|apply below_drew1|refine below_set ?_ GE1.out|refine below_set ?_ GE19.out)|exact HB.out))));have n5_ := Aside0.mk (blk_below (g := gb1) (o := .cells #[.int .i64 a2_0, .int .i64 a2_1, .int .i64 a2_2] 27 (0, 0)) (by (with_reducible repeat (first|refine blk_drewN ?_ _|refine blk_drew ?_|refine blk_alloc ?_ _));exact BK1.out) hb);have n6_ := Aside0.mk (blk_below (g := gb19) (o := .cells #[.slice Ao38 t15.length co38, .int .i64 t18] 67 (0, 0)) (by (with_reducible repeat (first|refine blk_drewN ?_ _|refine blk_drew ?_|refine blk_alloc ?_ _));exact BK19.out) hb);have n7_ := Aside0.mk (below_step (by repeat (first|(with_reducible first|exact HB.out|apply below_alloc|apply pw_below_drewN|apply below_drew1|refine below_set ?_ GE1.out|refine below_set ?_ GE19.out)|exact HB.out)) hb);clear HO10;clear HO13;clear HO17;clear HO22;clear BK1;clear BK19;clear HB;have HO10 := n0_;have HO13 := n1_;have HO17 := n2_;have HO22 := n3_;have HO26 := n4_;have BK1 := n5_;have BK19 := n6_;have HB := n7_;clear n0_ n1_ n2_ n3_ n4_ n5_ n6_ n7_;(try clear hb);(try clear hb2);(try clear hk);(try clear hi);(try clear ho0))|((with_reducible refine gate_dst (N := 13) rfl ?_);(try (refine gate_guard (by rfl) ?_;dsimp only));refine box_event ?hg (N := 13) ?hd (cs := #[.slice none 0 0, .int .i64 0]) (t := 67) ?hr ?_;(case hd => rfl);(case hg => rfl);(case hr => first|(go_simp;done)|(go_simp;rfl));intro gb28 hg w45 hbox hb;have n0_ := Aside0.mk (Kd.R_below (by (with_reducible repeat (first|apply Kd.R_alloc|apply Kd.R_drewN|apply Kd.R_drew));exact HO10.out) hb);have n1_ := Aside0.mk (Kd.R_below (by (with_reducible repeat (first|apply Kd.R_alloc|apply Kd.R_drewN|apply Kd.R_drew));exact HO13.out) hb);have n2_ := Aside0.mk (Kd.R_below (by (with_reducible repeat (first|apply Kd.R_alloc|apply Kd.R_drewN|apply Kd.R_drew));exact HO17.out) hb);have n3_ := Aside0.mk (Kd.R_below (by (with_reducible repeat (first|apply Kd.R_alloc|apply Kd.R_drewN|apply Kd.R_drew));exact HO22.out) hb);have n4_ := Aside0.mk (Kd.R_below (by (with_reducible repeat (first|apply Kd.R_alloc|apply Kd.R_drewN|apply Kd.R_drew));exact HO26.out) hb);have n5_ := Aside0.mk (blk_below (g := gb1) (o := .cells #[.int .i64 a2_0, .int .i64 a2_1, .int .i64 a2_2] 27 (0, 0)) (by (with_reducible repeat (first|refine blk_drewN ?_ _|refine blk_drew ?_|refine blk_alloc ?_ _));exact BK1.out) hb);have n6_ := Aside0.mk (blk_below (g := gb19) (o := .cells #[.slice Ao38 t15.length co38, .int .i64 t18] 67 (0, 0)) (by (with_reducible repeat (first|refine blk_drewN ?_ _|refine blk_drew ?_|refine blk_alloc ?_ _));exact BK19.out) hb);have n7_ := Aside0.mk (below_step (by repeat (first|(with_reducible first|exact HB.out|apply below_alloc|apply pw_below_drewN|apply below_drew1|refine below_set ?_ GE1.out|refine below_set ?_ GE19.out)|exact HB.out)) hb);have n8_ := Aside0.mk (hbox);have n9_ := Aside0.mk ((by rw [hg];exact (below_size (by repeat (first|(with_reducible first|exact HB.out|apply below_alloc|apply pw_below_drewN|apply below_drew1|refine below_set ?_ GE1.out|refine below_set ?_ GE19.out)|exact HB.out))) : w.heap.size ≤ gb28));have n10_ := Aside0.mk ((by rw [hg];exact (below_size (by repeat (first|(with_reducible first|exact HB.out|apply below_alloc|apply pw_below_drewN|apply below_drew1|refine below_set ?_ GE1.out|refine below_set ?_ GE19.out)|exact HB.out))) : w.heap.size ≤ gb28));have n11_ := Aside0.mk ((by rw [hg];exact Nat.ne_of_lt (blk_lt (g := gb1) (o := .cells #[.int .i64 a2_0, .int .i64 a2_1, .int .i64 a2_2] 27 (0, 0)) (by (with_reducible repeat (first|refine blk_drewN ?_ _|refine blk_drew ?_|refine blk_alloc ?_ _));exact BK1.out)) : gb1 ≠ gb28));have n12_ := Aside0.mk ((by rw [hg];exact Nat.ne_of_gt (blk_lt (g := gb1) (o := .cells #[.int .i64 a2_0, .int .i64 a2_1, .int .i64 a2_2] 27 (0, 0)) (by (with_reducible repeat (first|refine blk_drewN ?_ _|refine blk_drew ?_|refine blk_alloc ?_ _));exact BK1.out)) : gb28 ≠ gb1));have n13_ := Aside0.mk ((by rw [hg];exact Nat.ne_of_lt (blk_lt (g := gb19) (o := .cells #[.slice Ao38 t15.length co38, .int .i64 t18] 67 (0, 0)) (by (with_reducible repeat (first|refine blk_drewN ?_ _|refine blk_drew ?_|refine blk_alloc ?_ _));exact BK19.out)) : gb19 ≠ gb28));have n14_ := Aside0.mk ((by rw [hg];exact Nat.ne_of_gt (blk_lt (g := gb19) (o := .cells #[.slice Ao38 t15.length co38, .int .i64 t18] 67 (0, 0)) (by (with_reducible repeat (first|refine blk_drewN ?_ _|refine blk_drew ?_|refine blk_alloc ?_ _));exact BK19.out)) : gb28 ≠ gb19));clear HO10;clear HO13;clear HO17;clear HO22;clear HO26;clear BK1;clear BK19;clear HB;have HO10 := n0_;have HO13 := n1_;have HO17 := n2_;have HO22 := n3_;have HO26 := n4_;have BK1 := n5_;have BK19 := n6_;have HB := n7_;have BK28 := n8_;have GW28 := n9_;have GE28 := n10_;have NB1_28 := n11_;have NB28_1 := n12_;have NB19_28 := n13_;have NB28_19 := n14_;clear n0_ n1_ n2_ n3_ n4_ n5_ n6_ n7_ n8_ n9_ n10_ n11_ n12_ n13_ n14_;clear hb hbox hg;obtain ⟨Ao46, co46, eo46⟩ := Kd.R_slice HO26.out;subst eo46;have hnb47 := NB28_1.out;have hnc47 := NB1_28.out;have hnb48 := NB28_19.out;have hnc48 := NB19_28.out;have hcz49_0 : w45.cell? ⟨gb28, 0, none⟩ = some (.slice none 0 0) := (blk_cell BK28.out 0).trans rfl;have hcz49_1 : w45.cell? ⟨gb28, 1, none⟩ = some (.int .i64 0) := (blk_cell BK28.out 1).trans rfl;have hfz49_0 := blk_frozen BK28.out 0;have hfz49_1 := blk_frozen BK28.out 1))
          have n0_ : Aside0 (Kd.R k31 31 ((w45.setCell ⟨gb28, 0, none⟩ (.slice Ao46 t24.length co46)).setCell ⟨gb28, 1, none⟩ (.int .i64 t27)) w.heap.size (fun k_ => some k_ ≠ (v12 : Value).ownBlock ∧ some k_ ≠ (.slice Ao38 t15.length co38 : Value).ownBlock ∧ some k_ ≠ (v21 : Value).ownBlock ∧ some k_ ≠ (.slice Ao46 t24.length co46 : Value).ownBlock) v9 y8) := ⟨by (with_reducible repeat (first|apply Kd.R_alloc|apply Kd.R_drewN|apply Kd.R_drew));exact Kd.R_mono (Kd.R_far (p := ⟨gb28, 1, none⟩) (Kd.R_far (p := ⟨gb28, 0, none⟩) (Kd.R_types HO10.out BK28.out (by decide)) (fun _ hk => hk.2) (.slice Ao46 t24.length co46)) (fun _ hk => hk.2) (.int .i64 t27)) (fun _ hk => ⟨hk.1.1.1.1.2, ⟨hk.1.1.1.2, ⟨hk.1.1.2, hk.1.2⟩⟩⟩)⟩
          have n1_ : Aside0 (Kd.R k31 31 ((w45.setCell ⟨gb28, 0, none⟩ (.slice Ao46 t24.length co46)).setCell ⟨gb28, 1, none⟩ (.int .i64 t27)) w.heap.size (fun k_ => some k_ ≠ (v9 : Value).ownBlock ∧ some k_ ≠ (.slice Ao38 t15.length co38 : Value).ownBlock ∧ some k_ ≠ (v21 : Value).ownBlock ∧ some k_ ≠ (.slice Ao46 t24.length co46 : Value).ownBlock) v12 t11) := ⟨by (with_reducible repeat (first|apply Kd.R_alloc|apply Kd.R_drewN|apply Kd.R_drew));exact Kd.R_mono (Kd.R_far (p := ⟨gb28, 1, none⟩) (Kd.R_far (p := ⟨gb28, 0, none⟩) (Kd.R_types HO13.out BK28.out (by decide)) (fun _ hk => hk.2) (.slice Ao46 t24.length co46)) (fun _ hk => hk.2) (.int .i64 t27)) (fun _ hk => ⟨hk.1.1.1.1.2, ⟨hk.1.1.1.2, ⟨hk.1.1.2, hk.1.2⟩⟩⟩)⟩
          have n2_ : Aside0 (Kd.R k31 31 ((w45.setCell ⟨gb28, 0, none⟩ (.slice Ao46 t24.length co46)).setCell ⟨gb28, 1, none⟩ (.int .i64 t27)) w.heap.size (fun k_ => some k_ ≠ (v9 : Value).ownBlock ∧ some k_ ≠ (v12 : Value).ownBlock ∧ some k_ ≠ (v21 : Value).ownBlock ∧ some k_ ≠ (.slice Ao46 t24.length co46 : Value).ownBlock) (.slice Ao38 t15.length co38) t15) := ⟨by (with_reducible repeat (first|apply Kd.R_alloc|apply Kd.R_drewN|apply Kd.R_drew));exact Kd.R_mono (Kd.R_far (p := ⟨gb28, 1, none⟩) (Kd.R_far (p := ⟨gb28, 0, none⟩) (Kd.R_types HO17.out BK28.out (by decide)) (fun _ hk => hk.2) (.slice Ao46 t24.length co46)) (fun _ hk => hk.2) (.int .i64 t27)) (fun _ hk => ⟨hk.1.1.1.1.2, ⟨hk.1.1.1.2, ⟨hk.1.1.2, hk.1.2⟩⟩⟩)⟩
          have n3_ : Aside0 (Kd.R k31 31 ((w45.setCell ⟨gb28, 0, none⟩ (.slice Ao46 t24.length co46)).setCell ⟨gb28, 1, none⟩ (.int .i64 t27)) w.heap.size (fun k_ => some k_ ≠ (v9 : Value).ownBlock ∧ some k_ ≠ (v12 : Value).ownBlock ∧ some k_ ≠ (.slice Ao38 t15.length co38 : Value).ownBlock ∧ some k_ ≠ (.slice Ao46 t24.length co46 : Value).ownBlock) v21 t20) := ⟨by (with_reducible repeat (first|apply Kd.R_alloc|apply Kd.R_drewN|apply Kd.R_drew));exact Kd.R_mono (Kd.R_far (p := ⟨gb28, 1, none⟩) (Kd.R_far (p := ⟨gb28, 0, none⟩) (Kd.R_types HO22.out BK28.out (by decide)) (fun _ hk => hk.2) (.slice Ao46 t24.length co46)) (fun _ hk => hk.2) (.int .i64 t27)) (fun _ hk => ⟨hk.1.1.1.1.2, ⟨hk.1.1.1.2, ⟨hk.1.1.2, hk.1.2⟩⟩⟩)⟩
          have n4_ : Aside0 (Kd.R k31 31 ((w45.setCell ⟨gb28, 0, none⟩ (.slice Ao46 t24.length co46)).setCell ⟨gb28, 1, none⟩ (.int .i64 t27)) w.heap.size (fun k_ => some k_ ≠ (v9 : Value).ownBlock ∧ some k_ ≠ (v12 : Value).ownBlock ∧ some k_ ≠ (.slice Ao38 t15.length co38 : Value).ownBlock ∧ some k_ ≠ (v21 : Value).ownBlock) (.slice Ao46 t24.length co46) t24) := ⟨by (with_reducible repeat (first|apply Kd.R_alloc|apply Kd.R_drewN|apply Kd.R_drew));exact Kd.R_mono (Kd.R_far (p := ⟨gb28, 1, none⟩) (Kd.R_far (p := ⟨gb28, 0, none⟩) (Kd.R_types HO26.out BK28.out (by decide)) (fun _ hk => hk.2) (.slice Ao46 t24.length co46)) (fun _ hk => hk.2) (.int .i64 t27)) (fun _ hk => ⟨hk.1.1.1.1.2, ⟨hk.1.1.1.2, ⟨hk.1.1.2, hk.1.2⟩⟩⟩)⟩
          have n5_ : Aside0 (((w45.setCell ⟨gb28, 0, none⟩ (.slice Ao46 t24.length co46)).setCell ⟨gb28, 1, none⟩ (.int .i64 t27)).heap[gb1]? = some (.cells #[.int .i64 a2_0, .int .i64 a2_1, .int .i64 a2_2] 27 (0, 0))) := ⟨by (with_reducible repeat (first|refine blk_drewN ?_ _|refine blk_drew ?_|refine blk_alloc ?_ _));refine blk_far ?_ NB1_28.out _;(with_reducible repeat (first|refine blk_drewN ?_ _|refine blk_drew ?_|refine blk_alloc ?_ _));refine blk_far ?_ NB1_28.out _;(with_reducible repeat (first|refine blk_drewN ?_ _|refine blk_drew ?_|refine blk_alloc ?_ _));exact BK1.out⟩
          have n6_ : Aside0 (((w45.setCell ⟨gb28, 0, none⟩ (.slice Ao46 t24.length co46)).setCell ⟨gb28, 1, none⟩ (.int .i64 t27)).heap[gb19]? = some (.cells #[.slice Ao38 t15.length co38, .int .i64 t18] 67 (0, 0))) := ⟨by (with_reducible repeat (first|refine blk_drewN ?_ _|refine blk_drew ?_|refine blk_alloc ?_ _));refine blk_far ?_ NB19_28.out _;(with_reducible repeat (first|refine blk_drewN ?_ _|refine blk_drew ?_|refine blk_alloc ?_ _));refine blk_far ?_ NB19_28.out _;(with_reducible repeat (first|refine blk_drewN ?_ _|refine blk_drew ?_|refine blk_alloc ?_ _));exact BK19.out⟩
          have n7_ : Aside0 (((w45.setCell ⟨gb28, 0, none⟩ (.slice Ao46 t24.length co46)).setCell ⟨gb28, 1, none⟩ (.int .i64 t27)).heap[gb28]? = some (.cells #[.slice Ao46 t24.length co46, .int .i64 t27] 67 (0, 0))) := ⟨by (with_reducible repeat (first|refine blk_drewN ?_ _|refine blk_drew ?_|refine blk_alloc ?_ _));refine blk_put (cs := #[.slice Ao46 t24.length co46, .int .i64 0]) ?_ 1 _ rfl;(with_reducible repeat (first|refine blk_drewN ?_ _|refine blk_drew ?_|refine blk_alloc ?_ _));refine blk_put (cs := #[.slice none 0 0, .int .i64 0]) ?_ 0 _ rfl;(with_reducible repeat (first|refine blk_drewN ?_ _|refine blk_drew ?_|refine blk_alloc ?_ _));exact BK28.out⟩
          have n8_ : Aside0 (Below w.heap.size w ((w45.setCell ⟨gb28, 0, none⟩ (.slice Ao46 t24.length co46)).setCell ⟨gb28, 1, none⟩ (.int .i64 t27))) := ⟨by repeat (first|(with_reducible first|exact HB.out|apply below_alloc|apply pw_below_drewN|apply below_drew1|refine below_set ?_ GE1.out|refine below_set ?_ GE19.out|refine below_set ?_ GE28.out)|exact HB.out)⟩
          (try clear HO10)
          (try clear HO13)
          (try clear HO17)
          (try clear HO22)
          (try clear HO26)
          (try clear BK1)
          (try clear BK19)
          (try clear BK28)
          (try clear HB)
          generalize ((w45.setCell ⟨gb28, 0, none⟩ (.slice Ao46 t24.length co46)).setCell ⟨gb28, 1, none⟩ (.int .i64 t27)) = w50 at n0_ n1_ n2_ n3_ n4_ n5_ n6_ n7_ n8_ ⊢
          have HO10 := n0_
          have HO13 := n1_
          have HO17 := n2_
          have HO22 := n3_
          have HO26 := n4_
          have BK1 := n5_
          have BK19 := n6_
          have BK28 := n7_
          have HB := n8_
          clear n0_ n1_ n2_ n3_ n4_ n5_ n6_ n7_ n8_
          have n0_ := Aside0.mk (Kd.R_drew HO10.out)
          have n1_ := Aside0.mk (Kd.R_drew HO13.out)
          have n2_ := Aside0.mk (Kd.R_drew HO17.out)
          have n3_ := Aside0.mk (Kd.R_drew HO22.out)
          have n4_ := Aside0.mk (Kd.R_drew HO26.out)
          have n5_ := Aside0.mk (blk_drew BK1.out)
          have n6_ := Aside0.mk (blk_drew BK19.out)
          have n7_ := Aside0.mk (blk_drew BK28.out)
          have n8_ := Aside0.mk (below_drew1 HB.out)
          clear HO10
          clear HO13
          clear HO17
          clear HO22
          clear HO26
          clear BK1
          clear BK19
          clear BK28
          clear HB
          have HO10 := n0_
          have HO13 := n1_
          have HO17 := n2_
          have HO22 := n3_
          have HO26 := n4_
          have BK1 := n5_
          have BK19 := n6_
          have BK28 := n7_
          have HB := n8_
          clear n0_ n1_ n2_ n3_ n4_ n5_ n6_ n7_ n8_
          obtain ⟨Ao52, co52, eo52⟩ := Kd.R_slice HO13.out
          (first | subst eo52 | (injection eo52 with f1_ f2_ f3_; have f4_ := f1_.symm; have f5_ := f3_.symm; clear f1_ f2_ f3_; subst f4_; subst f5_))
          refine start_ (n := 33) (S := fun w' => w'.cell? ⟨gb19, 0, none⟩ = some (.slice Ao38 t15.length co38) ∧ w'.cell? ⟨gb19, 1, none⟩ = some (.int .i64 t18) ∧ w'.cell? ⟨gb28, 0, none⟩ = some (.slice Ao46 t24.length co46) ∧ w'.cell? ⟨gb28, 1, none⟩ = some (.int .i64 t27)) (ds := []) #[false, false, false, false, false, false, false, false, false, false, false, false, false, false, false, false, false, false, false, false, false, false, false, false, false, false, false, false, false, false, false, false, false] (by kernel_rfl) rfl rfl ⟨(blk_cell BK19.out 0).trans rfl, (blk_cell BK19.out 1).trans rfl, (blk_cell BK28.out 0).trans rfl, (blk_cell BK28.out 1).trans rfl⟩ (fun hHeld => ?_); refine with_tabW law14_AdmitAll.tab8 law14_AdmitAll.bits8 (fun HT_ HW_ => ?_)
          generalize w50.drew = w51 at HO10 HO13 HO17 HO22 HO26 BK1 BK19 BK28 HB hHeld ⊢
          refine pure_ (i := 0) (N := some 52) (v := ?_) (a' := ?_) #[true, false, false, false, false, false, false, false, false, false, false, false, false, false, false, false, false, false, false, false, false, false, false, false, false, false, false, false, false, false, false, false, false] rfl rfl (any_of HT_.out (by kernel_rfl)) (fun _ _ _ h => h) (Or.inl ⟨by rfl, ?_⟩) ?_ ?_
          rotate_left
          ·intro w'
           go_simp
           with_reducible rfl
          rotate_left
          ·simp only [Act.put, List.setIfInBounds_toArray, List.set_cons_zero, List.set_cons_succ, i64_w, i32_w]
           rfl
          refine pure_ (i := 1) (N := some 53) (v := ?_) (a' := ?_) #[true, true, false, false, false, false, false, false, false, false, false, false, false, false, false, false, false, false, false, false, false, false, false, false, false, false, false, false, false, false, false, false, false] rfl rfl (any_of HT_.out (by kernel_rfl)) (fun _ _ _ h => h) (Or.inl ⟨by rfl, ?_⟩) ?_ ?_
          rotate_left
          ·intro w'
           go_simp
           with_reducible rfl
          rotate_left
          ·simp only [Act.put, List.setIfInBounds_toArray, List.set_cons_zero, List.set_cons_succ, i64_w, i32_w]
           rfl
          refine take_ (i := 2) (N := some 54) (v := ?_) (a' := ?_) #[true, true, true, false, false, false, false, false, false, false, false, false, false, false, false, false, false, false, false, false, false, false, false, false, false, false, false, false, false, false, false, false, false] rfl rfl (take_ofW HT_.out HW_.out (by kernel_rfl)) (fun _ _ _ h => h) (Or.inl ⟨by rfl, ?_⟩) hHeld ?_ ?_
          rotate_left
          ·rintro w' ⟨s0, s1, s2, s3⟩
           go_simp
           with_reducible rfl
          rotate_left
          ·simp only [Act.put, List.setIfInBounds_toArray, List.set_cons_zero, List.set_cons_succ, i64_w, i32_w]
           rfl
          refine one_ (i := 3) (N := some 55) #[true, true, true, true, false, false, false, false, false, false, false, false, false, false, false, false, false, false, false, false, false, false, false, false, false, false, false, false, false, false, false, false, false] rfl rfl (one_of HT_.out (by kernel_rfl)) (by decide) (fun K hK => ?_)
          refine goes_ Try.func62 (by kernel_rfl) rfl #[.slice Ao52 t11.length co52, .slice Ao38 t15.length co38] (by rfl) rfl rfl (by (try simp only [List.map_toArray, List.map_cons, List.map_nil]); first | done | rfl | (simp only [List.length_drop, List.length_take]; rfl)) ?_
          with_reducible refine (r10_SameItems.calls kj3 _ _ t11 _ _ t15 true _ ?side1 ?side2 ?side3 ?side4 A19.out).mono ?_
          (case side1 => repeat (first|exact (Kd.R_reads' HO13.out).2.2|(with_reducible refine Kd.C_alloc ?_ _)|(with_reducible refine Kd.C_drewN ?_ _)|(with_reducible refine Kd.C_drew ?_)))
          (case side2 => exact (Kd.R_reads' HO13.out).2.1)
          (case side3 => repeat (first|exact (Kd.R_reads' HO17.out).2.2|(with_reducible refine Kd.C_alloc ?_ _)|(with_reducible refine Kd.C_drewN ?_ _)|(with_reducible refine Kd.C_drew ?_)))
          (case side4 => exact (Kd.R_reads' HO17.out).2.1)
          rintro e w' ⟨rfl, ⟨nd, rfl⟩⟩
          refine ⟨_, rfl, ?_⟩
          refine hK.out _ _ ⟨(blk_cell BK19.out 0).trans rfl, (blk_cell BK19.out 1).trans rfl, (blk_cell BK28.out 0).trans rfl, (blk_cell BK28.out 1).trans rfl⟩ (fun hHeld => ?_)
          clear hK K
          refine norm_ (a' := ?_) ?_ ?_
          rotate_left
          ·show Act.put _ (some 55) _ = _
           simp only [Act.put, List.setIfInBounds_toArray, List.set_cons_zero, List.set_cons_succ, i64_w, i32_w]
           rfl
          refine pure_ (i := 4) (N := some 56) (v := ?_) (a' := ?_) #[true, true, true, true, true, false, false, false, false, false, false, false, false, false, false, false, false, false, false, false, false, false, false, false, false, false, false, false, false, false, false, false, false] rfl rfl (any_of HT_.out (by kernel_rfl)) (fun _ _ _ h => h) (Or.inl ⟨by rfl, ?_⟩) ?_ ?_
          rotate_left
          ·intro w'
           go_simp
           with_reducible rfl
          rotate_left
          ·simp only [Act.put, List.setIfInBounds_toArray, List.set_cons_zero, List.set_cons_succ, i64_w, i32_w]
           rfl
          refine pure_ (i := 5) (N := some 57) (v := ?_) (a' := ?_) #[true, true, true, true, true, true, false, false, false, false, false, false, false, false, false, false, false, false, false, false, false, false, false, false, false, false, false, false, false, false, false, false, false] rfl rfl (any_of HT_.out (by kernel_rfl)) (fun _ _ _ h => h) (Or.inl ⟨by rfl, ?_⟩) ?_ ?_
          rotate_left
          ·intro w'
           go_simp
           with_reducible rfl
          rotate_left
          ·simp only [Act.put, List.setIfInBounds_toArray, List.set_cons_zero, List.set_cons_succ, i64_w, i32_w]
           rfl
          refine pure_ (i := 7) (N := some 59) (v := ?_) (a' := ?_) #[true, true, true, true, true, true, false, true, false, false, false, false, false, false, false, false, false, false, false, false, false, false, false, false, false, false, false, false, false, false, false, false, false] rfl rfl (any_of HT_.out (by kernel_rfl)) (fun _ _ _ h => h) (Or.inl ⟨by rfl, ?_⟩) ?_ ?_
          rotate_left
          ·intro w'
           go_simp
           with_reducible rfl
          rotate_left
          ·simp only [Act.put, List.setIfInBounds_toArray, List.set_cons_zero, List.set_cons_succ, i64_w, i32_w]
           rfl
          refine take_ (i := 8) (N := some 60) (v := ?_) (a' := ?_) #[true, true, true, true, true, true, false, true, true, false, false, false, false, false, false, false, false, false, false, false, false, false, false, false, false, false, false, false, false, false, false, false, false] rfl rfl (take_ofW HT_.out HW_.out (by kernel_rfl)) (fun _ _ _ h => h) (Or.inl ⟨by rfl, ?_⟩) hHeld ?_ ?_
          rotate_left
          ·rintro w' ⟨s0, s1, s2, s3⟩
           go_simp
           with_reducible rfl
          rotate_left
          ·simp only [Act.put, List.setIfInBounds_toArray, List.set_cons_zero, List.set_cons_succ, i64_w, i32_w]
           rfl
          refine one_ (i := 6) (N := some 58) #[true, true, true, true, true, true, true, true, true, false, false, false, false, false, false, false, false, false, false, false, false, false, false, false, false, false, false, false, false, false, false, false, false] rfl rfl (one_of HT_.out (by kernel_rfl)) (by decide) (fun K hK => ?_)
          refine goes_ Try.func61 (by kernel_rfl) rfl #[.int .i64 t14] (by rfl) rfl rfl (by (try simp only [List.map_toArray, List.map_cons, List.map_nil]); first | done | rfl | (simp only [List.length_drop, List.length_take]; rfl)) ?_
          with_reducible refine (law1_Num.calls t14 t30 _ A21.out).mono ?_
          rintro e w' ⟨rfl, ⟨nd, rfl⟩⟩
          refine ⟨_, rfl, ?_⟩
          obtain ⟨Ao53, co53, eo53⟩ := Kd.R_slice HO22.out
          (first | subst eo53 | (injection eo53 with f1_ f2_ f3_; have f4_ := f1_.symm; have f5_ := f3_.symm; clear f1_ f2_ f3_; subst f4_; subst f5_))
          refine hK.out _ _ ⟨(blk_cell BK19.out 0).trans rfl, (blk_cell BK19.out 1).trans rfl, (blk_cell BK28.out 0).trans rfl, (blk_cell BK28.out 1).trans rfl⟩ (fun hHeld => ?_)
          clear hK K
          refine norm_ (a' := ?_) ?_ ?_
          rotate_left
          ·show Act.put _ (some 58) _ = _
           simp only [Act.put, List.setIfInBounds_toArray, List.set_cons_zero, List.set_cons_succ, i64_w, i32_w]
           rfl
          refine pure_ (i := 9) (N := some 61) (v := ?_) (a' := ?_) #[true, true, true, true, true, true, true, true, true, true, false, false, false, false, false, false, false, false, false, false, false, false, false, false, false, false, false, false, false, false, false, false, false] rfl rfl (any_of HT_.out (by kernel_rfl)) (fun _ _ _ h => h) (Or.inl ⟨by rfl, ?_⟩) ?_ ?_
          rotate_left
          ·intro w'
           go_simp
           with_reducible rfl
          rotate_left
          ·simp only [Act.put, List.setIfInBounds_toArray, List.set_cons_zero, List.set_cons_succ, i64_w, i32_w]
           rfl
          refine pure_ (i := 10) (N := some 62) (v := ?_) (a' := ?_) #[true, true, true, true, true, true, true, true, true, true, true, false, false, false, false, false, false, false, false, false, false, false, false, false, false, false, false, false, false, false, false, false, false] rfl rfl (any_of HT_.out (by kernel_rfl)) (fun _ _ _ h => h) (Or.inl ⟨by rfl, ?_⟩) ?_ ?_
          rotate_left
          ·intro w'
           go_simp
           with_reducible rfl
          rotate_left
          ·simp only [Act.put, List.setIfInBounds_toArray, List.set_cons_zero, List.set_cons_succ, i64_w, i32_w]
           rfl
          refine pure_ (i := 11) (N := some 63) (v := ?_) (a' := ?_) #[true, true, true, true, true, true, true, true, true, true, true, true, false, false, false, false, false, false, false, false, false, false, false, false, false, false, false, false, false, false, false, false, false] rfl rfl (any_of HT_.out (by kernel_rfl)) (fun _ _ _ h => h) (Or.inl ⟨by rfl, ?_⟩) ?_ ?_
          rotate_left
          ·intro w'
           go_simp
           with_reducible rfl
          rotate_left
          ·simp only [Act.put, List.setIfInBounds_toArray, List.set_cons_zero, List.set_cons_succ, i64_w, i32_w]
           rfl
          refine pure_ (i := 12) (N := some 64) (v := ?_) (a' := ?_) #[true, true, true, true, true, true, true, true, true, true, true, true, true, false, false, false, false, false, false, false, false, false, false, false, false, false, false, false, false, false, false, false, false] rfl rfl (any_of HT_.out (by kernel_rfl)) (fun _ _ _ h => h) (Or.inl ⟨by rfl, ?_⟩) ?_ ?_
          rotate_left
          ·intro w'
           go_simp
           with_reducible rfl
          rotate_left
          ·simp only [Act.put, List.setIfInBounds_toArray, List.set_cons_zero, List.set_cons_succ, i64_w, i32_w]
           rfl
          refine pure_ (i := 13) (N := some 65) (v := ?_) (a' := ?_) #[true, true, true, true, true, true, true, true, true, true, true, true, true, true, false, false, false, false, false, false, false, false, false, false, false, false, false, false, false, false, false, false, false] rfl rfl (any_of HT_.out (by kernel_rfl)) (fun _ _ _ h => h) (Or.inl ⟨by rfl, ?_⟩) ?_ ?_
          rotate_left
          ·intro w'
           go_simp
           with_reducible rfl
          rotate_left
          ·simp only [Act.put, List.setIfInBounds_toArray, List.set_cons_zero, List.set_cons_succ, i64_w, i32_w]
           rfl
          refine take_ (i := 14) (N := some 66) (v := ?_) (a' := ?_) #[true, true, true, true, true, true, true, true, true, true, true, true, true, true, true, false, false, false, false, false, false, false, false, false, false, false, false, false, false, false, false, false, false] rfl rfl (take_ofW HT_.out HW_.out (by kernel_rfl)) (fun _ _ _ h => h) (Or.inl ⟨by rfl, ?_⟩) hHeld ?_ ?_
          rotate_left
          ·rintro w' ⟨s0, s1, s2, s3⟩
           go_simp
           with_reducible rfl
          rotate_left
          ·simp only [Act.put, List.setIfInBounds_toArray, List.set_cons_zero, List.set_cons_succ, i64_w, i32_w]
           rfl
          refine one_ (i := 15) (N := some 67) #[true, true, true, true, true, true, true, true, true, true, true, true, true, true, true, true, false, false, false, false, false, false, false, false, false, false, false, false, false, false, false, false, false] rfl rfl (one_of HT_.out (by kernel_rfl)) (by decide) (fun K hK => ?_)
          refine goes_ Try.func62 (by kernel_rfl) rfl #[.slice Ao53 t20.length co53, .slice Ao46 t24.length co46] (by rfl) rfl rfl (by (try simp only [List.map_toArray, List.map_cons, List.map_nil]); first | done | rfl | (simp only [List.length_drop, List.length_take]; rfl)) ?_
          with_reducible refine (r10_SameItems.calls kj3 _ _ t20 _ _ t24 true _ ?side1 ?side2 ?side3 ?side4 A23.out).mono ?_
          (case side1 => repeat (first|exact (Kd.R_reads' HO22.out).2.2|(with_reducible refine Kd.C_alloc ?_ _)|(with_reducible refine Kd.C_drewN ?_ _)|(with_reducible refine Kd.C_drew ?_)))
          (case side2 => exact (Kd.R_reads' HO22.out).2.1)
          (case side3 => repeat (first|exact (Kd.R_reads' HO26.out).2.2|(with_reducible refine Kd.C_alloc ?_ _)|(with_reducible refine Kd.C_drewN ?_ _)|(with_reducible refine Kd.C_drew ?_)))
          (case side4 => exact (Kd.R_reads' HO26.out).2.1)
          rintro e w' ⟨rfl, ⟨nd, rfl⟩⟩
          refine ⟨_, rfl, ?_⟩
          refine hK.out _ _ ⟨(blk_cell BK19.out 0).trans rfl, (blk_cell BK19.out 1).trans rfl, (blk_cell BK28.out 0).trans rfl, (blk_cell BK28.out 1).trans rfl⟩ (fun hHeld => ?_)
          clear hK K
          refine norm_ (a' := ?_) ?_ ?_
          rotate_left
          ·show Act.put _ (some 67) _ = _
           simp only [Act.put, List.setIfInBounds_toArray, List.set_cons_zero, List.set_cons_succ, i64_w, i32_w]
           rfl
          refine pure_ (i := 16) (N := some 68) (v := ?_) (a' := ?_) #[true, true, true, true, true, true, true, true, true, true, true, true, true, true, true, true, true, false, false, false, false, false, false, false, false, false, false, false, false, false, false, false, false] rfl rfl (any_of HT_.out (by kernel_rfl)) (fun _ _ _ h => h) (Or.inl ⟨by rfl, ?_⟩) ?_ ?_
          rotate_left
          ·intro w'
           go_simp
           with_reducible rfl
          rotate_left
          ·simp only [Act.put, List.setIfInBounds_toArray, List.set_cons_zero, List.set_cons_succ, i64_w, i32_w]
           rfl
          refine pure_ (i := 17) (N := some 69) (v := ?_) (a' := ?_) #[true, true, true, true, true, true, true, true, true, true, true, true, true, true, true, true, true, true, false, false, false, false, false, false, false, false, false, false, false, false, false, false, false] rfl rfl (any_of HT_.out (by kernel_rfl)) (fun _ _ _ h => h) (Or.inl ⟨by rfl, ?_⟩) ?_ ?_
          rotate_left
          ·intro w'
           go_simp
           with_reducible rfl
          rotate_left
          ·simp only [Act.put, List.setIfInBounds_toArray, List.set_cons_zero, List.set_cons_succ, i64_w, i32_w]
           rfl
          refine pure_ (i := 18) (N := some 70) (v := ?_) (a' := ?_) #[true, true, true, true, true, true, true, true, true, true, true, true, true, true, true, true, true, true, true, false, false, false, false, false, false, false, false, false, false, false, false, false, false] rfl rfl (any_of HT_.out (by kernel_rfl)) (fun _ _ _ h => h) (Or.inl ⟨by rfl, ?_⟩) ?_ ?_
          rotate_left
          ·intro w'
           go_simp
           with_reducible rfl
          rotate_left
          ·simp only [Act.put, List.setIfInBounds_toArray, List.set_cons_zero, List.set_cons_succ, i64_w, i32_w]
           rfl
          refine pure_ (i := 20) (N := some 72) (v := ?_) (a' := ?_) #[true, true, true, true, true, true, true, true, true, true, true, true, true, true, true, true, true, true, true, false, true, false, false, false, false, false, false, false, false, false, false, false, false] rfl rfl (any_of HT_.out (by kernel_rfl)) (fun _ _ _ h => h) (Or.inl ⟨by rfl, ?_⟩) ?_ ?_
          rotate_left
          ·intro w'
           go_simp
           with_reducible rfl
          rotate_left
          ·simp only [Act.put, List.setIfInBounds_toArray, List.set_cons_zero, List.set_cons_succ, i64_w, i32_w]
           rfl
          refine take_ (i := 21) (N := some 73) (v := ?_) (a' := ?_) #[true, true, true, true, true, true, true, true, true, true, true, true, true, true, true, true, true, true, true, false, true, true, false, false, false, false, false, false, false, false, false, false, false] rfl rfl (take_ofW HT_.out HW_.out (by kernel_rfl)) (fun _ _ _ h => h) (Or.inl ⟨by rfl, ?_⟩) hHeld ?_ ?_
          rotate_left
          ·rintro w' ⟨s0, s1, s2, s3⟩
           go_simp
           with_reducible rfl
          rotate_left
          ·simp only [Act.put, List.setIfInBounds_toArray, List.set_cons_zero, List.set_cons_succ, i64_w, i32_w]
           rfl
          refine one_ (i := 19) (N := some 71) #[true, true, true, true, true, true, true, true, true, true, true, true, true, true, true, true, true, true, true, true, true, true, false, false, false, false, false, false, false, false, false, false, false] rfl rfl (one_of HT_.out (by kernel_rfl)) (by decide) (fun K hK => ?_)
          refine goes_ Try.func61 (by kernel_rfl) rfl #[.int .i64 t23] (by rfl) rfl rfl (by (try simp only [List.map_toArray, List.map_cons, List.map_nil]); first | done | rfl | (simp only [List.length_drop, List.length_take]; rfl)) ?_
          with_reducible refine (law1_Num.calls t23 t32 _ A25.out).mono ?_
          rintro e w' ⟨rfl, ⟨nd, rfl⟩⟩
          refine ⟨_, rfl, ?_⟩
          obtain ⟨Ao54, co54, eo54⟩ := Kd.R_slice HO10.out
          (first | subst eo54 | (injection eo54 with f1_ f2_ f3_; have f4_ := f1_.symm; have f5_ := f3_.symm; clear f1_ f2_ f3_; subst f4_; subst f5_))
          refine hK.out _ _ ⟨(blk_cell BK19.out 0).trans rfl, (blk_cell BK19.out 1).trans rfl, (blk_cell BK28.out 0).trans rfl, (blk_cell BK28.out 1).trans rfl⟩ (fun hHeld => ?_)
          clear hK K
          refine norm_ (a' := ?_) ?_ ?_
          rotate_left
          ·show Act.put _ (some 71) _ = _
           simp only [Act.put, List.setIfInBounds_toArray, List.set_cons_zero, List.set_cons_succ, i64_w, i32_w]
           rfl
          refine pure_ (i := 22) (N := some 74) (v := ?_) (a' := ?_) #[true, true, true, true, true, true, true, true, true, true, true, true, true, true, true, true, true, true, true, true, true, true, true, false, false, false, false, false, false, false, false, false, false] rfl rfl (any_of HT_.out (by kernel_rfl)) (fun _ _ _ h => h) (Or.inl ⟨by rfl, ?_⟩) ?_ ?_
          rotate_left
          ·intro w'
           go_simp
           with_reducible rfl
          rotate_left
          ·simp only [Act.put, List.setIfInBounds_toArray, List.set_cons_zero, List.set_cons_succ, i64_w, i32_w]
           rfl
          refine pure_ (i := 23) (N := some 75) (v := ?_) (a' := ?_) #[true, true, true, true, true, true, true, true, true, true, true, true, true, true, true, true, true, true, true, true, true, true, true, true, false, false, false, false, false, false, false, false, false] rfl rfl (any_of HT_.out (by kernel_rfl)) (fun _ _ _ h => h) (Or.inl ⟨by rfl, ?_⟩) ?_ ?_
          rotate_left
          ·intro w'
           go_simp
           with_reducible rfl
          rotate_left
          ·simp only [Act.put, List.setIfInBounds_toArray, List.set_cons_zero, List.set_cons_succ, i64_w, i32_w]
           rfl
          refine pure_ (i := 24) (N := some 76) (v := ?_) (a' := ?_) #[true, true, true, true, true, true, true, true, true, true, true, true, true, true, true, true, true, true, true, true, true, true, true, true, true, false, false, false, false, false, false, false, false] rfl rfl (any_of HT_.out (by kernel_rfl)) (fun _ _ _ h => h) (Or.inl ⟨by rfl, ?_⟩) ?_ ?_
          rotate_left
          ·intro w'
           go_simp
           with_reducible rfl
          rotate_left
          ·simp only [Act.put, List.setIfInBounds_toArray, List.set_cons_zero, List.set_cons_succ, i64_w, i32_w]
           rfl
          refine pure_ (i := 25) (N := some 77) (v := ?_) (a' := ?_) #[true, true, true, true, true, true, true, true, true, true, true, true, true, true, true, true, true, true, true, true, true, true, true, true, true, true, false, false, false, false, false, false, false] rfl rfl (any_of HT_.out (by kernel_rfl)) (fun _ _ _ h => h) (Or.inl ⟨by rfl, ?_⟩) ?_ ?_
          rotate_left
          ·intro w'
           go_simp
           with_reducible rfl
          rotate_left
          ·simp only [Act.put, List.setIfInBounds_toArray, List.set_cons_zero, List.set_cons_succ, i64_w, i32_w]
           rfl
          refine pure_ (i := 26) (N := some 78) (v := ?_) (a' := ?_) #[true, true, true, true, true, true, true, true, true, true, true, true, true, true, true, true, true, true, true, true, true, true, true, true, true, true, true, false, false, false, false, false, false] rfl rfl (any_of HT_.out (by kernel_rfl)) (fun _ _ _ h => h) (Or.inl ⟨by rfl, ?_⟩) ?_ ?_
          rotate_left
          ·intro w'
           go_simp
           with_reducible rfl
          rotate_left
          ·simp only [Act.put, List.setIfInBounds_toArray, List.set_cons_zero, List.set_cons_succ, i64_w, i32_w]
           rfl
          refine one_ (i := 27) (N := some 79) #[true, true, true, true, true, true, true, true, true, true, true, true, true, true, true, true, true, true, true, true, true, true, true, true, true, true, true, true, false, false, false, false, false] rfl rfl (one_of HT_.out (by kernel_rfl)) (by decide) (fun K hK => ?_)
          refine goes_ Try.func62 (by kernel_rfl) rfl #[.slice A0 l0.length c0, .slice Ao54 y8.length co54] (by rfl) rfl rfl (by (try simp only [List.map_toArray, List.map_cons, List.map_nil]); first | done | rfl | (simp only [List.length_drop, List.length_take]; rfl)) ?_
          with_reducible refine (r10_SameItems.calls kj3 _ _ l0 _ _ y8 true _ ?side1 ?side2 ?side3 ?side4 A27.out).mono ?_
          (case side1 => repeat (first|exact (Kd.C_below HR0.out (by repeat (first|(with_reducible first|exact HB.out|apply below_alloc|apply pw_below_drewN|apply below_drew1|refine below_set ?_ GE1.out|refine below_set ?_ GE19.out|refine below_set ?_ GE28.out)|exact HB.out)))|(with_reducible refine Kd.C_alloc ?_ _)|(with_reducible refine Kd.C_drewN ?_ _)|(with_reducible refine Kd.C_drew ?_)))
          (case side2 => exact HC0.out)
          (case side3 => repeat (first|exact (Kd.R_reads' HO10.out).2.2|(with_reducible refine Kd.C_alloc ?_ _)|(with_reducible refine Kd.C_drewN ?_ _)|(with_reducible refine Kd.C_drew ?_)))
          (case side4 => exact (Kd.R_reads' HO10.out).2.1)
          rintro e w' ⟨rfl, ⟨nd, rfl⟩⟩
          refine ⟨_, rfl, ?_⟩
          refine hK.out _ _ ⟨(blk_cell BK19.out 0).trans rfl, (blk_cell BK19.out 1).trans rfl, (blk_cell BK28.out 0).trans rfl, (blk_cell BK28.out 1).trans rfl⟩ (fun hHeld => ?_)
          clear hK K
          refine norm_ (a' := ?_) ?_ ?_
          rotate_left
          ·show Act.put _ (some 79) _ = _
           simp only [Act.put, List.setIfInBounds_toArray, List.set_cons_zero, List.set_cons_succ, i64_w, i32_w]
           rfl
          refine pure_ (i := 28) (N := some 80) (v := ?_) (a' := ?_) #[true, true, true, true, true, true, true, true, true, true, true, true, true, true, true, true, true, true, true, true, true, true, true, true, true, true, true, true, true, false, false, false, false] rfl rfl (any_of HT_.out (by kernel_rfl)) (fun _ _ _ h => h) (Or.inl ⟨by rfl, ?_⟩) ?_ ?_
          rotate_left
          ·intro w'
           go_simp
           with_reducible rfl
          rotate_left
          ·simp only [Act.put, List.setIfInBounds_toArray, List.set_cons_zero, List.set_cons_succ, i64_w, i32_w]
           rfl
          refine pure_ (i := 29) (N := some 81) (v := ?_) (a' := ?_) #[true, true, true, true, true, true, true, true, true, true, true, true, true, true, true, true, true, true, true, true, true, true, true, true, true, true, true, true, true, true, false, false, false] rfl rfl (any_of HT_.out (by kernel_rfl)) (fun _ _ _ h => h) (Or.inl ⟨by rfl, ?_⟩) ?_ ?_
          rotate_left
          ·intro w'
           go_simp
           with_reducible rfl
          rotate_left
          ·simp only [Act.put, List.setIfInBounds_toArray, List.set_cons_zero, List.set_cons_succ, i64_w, i32_w]
           rfl
          refine one_ (i := 30) (N := some 82) #[true, true, true, true, true, true, true, true, true, true, true, true, true, true, true, true, true, true, true, true, true, true, true, true, true, true, true, true, true, true, true, false, false] rfl rfl (one_of HT_.out (by kernel_rfl)) (by decide) (fun K hK => ?_)
          refine goes_ Try.func59 (by kernel_rfl) rfl #[] (by rfl) rfl rfl (by (try simp only [List.map_toArray, List.map_cons, List.map_nil]); first | done | rfl | (simp only [List.length_drop, List.length_take]; rfl)) ?_
          with_reducible refine (law14_awake.calls kj3  t34 _ A29.out).mono ?_
          rintro e w55 ⟨rfl, hb⟩
          refine ⟨_, rfl, ?_⟩
          have n0_ := Aside0.mk (Kd.R_below (by (with_reducible repeat (first|apply Kd.R_alloc|apply Kd.R_drewN|apply Kd.R_drew));exact HO10.out) hb)
          have n1_ := Aside0.mk (Kd.R_below (by (with_reducible repeat (first|apply Kd.R_alloc|apply Kd.R_drewN|apply Kd.R_drew));exact HO13.out) hb)
          have n2_ := Aside0.mk (Kd.R_below (by (with_reducible repeat (first|apply Kd.R_alloc|apply Kd.R_drewN|apply Kd.R_drew));exact HO17.out) hb)
          have n3_ := Aside0.mk (Kd.R_below (by (with_reducible repeat (first|apply Kd.R_alloc|apply Kd.R_drewN|apply Kd.R_drew));exact HO22.out) hb)
          have n4_ := Aside0.mk (Kd.R_below (by (with_reducible repeat (first|apply Kd.R_alloc|apply Kd.R_drewN|apply Kd.R_drew));exact HO26.out) hb)
          have n5_ := Aside0.mk (blk_below (g := gb1) (o := .cells #[.int .i64 a2_0, .int .i64 a2_1, .int .i64 a2_2] 27 (0, 0)) (by (with_reducible repeat (first|refine blk_drewN ?_ _|refine blk_drew ?_|refine blk_alloc ?_ _));exact BK1.out) hb)
          have n6_ := Aside0.mk (blk_below (g := gb19) (o := .cells #[.slice Ao38 t15.length co38, .int .i64 t18] 67 (0, 0)) (by (with_reducible repeat (first|refine blk_drewN ?_ _|refine blk_drew ?_|refine blk_alloc ?_ _));exact BK19.out) hb)
          have n7_ := Aside0.mk (blk_below (g := gb28) (o := .cells #[.slice Ao46 t24.length co46, .int .i64 t27] 67 (0, 0)) (by (with_reducible repeat (first|refine blk_drewN ?_ _|refine blk_drew ?_|refine blk_alloc ?_ _));exact BK28.out) hb)
          have n8_ := Aside0.mk (below_step (by repeat (first|(with_reducible first|exact HB.out|apply below_alloc|apply pw_below_drewN|apply below_drew1|refine below_set ?_ GE1.out|refine below_set ?_ GE19.out|refine below_set ?_ GE28.out)|exact HB.out)) hb)
          clear HO10
          clear HO13
          clear HO17
          clear HO22
          clear HO26
          clear BK1
          clear BK19
          clear BK28
          clear HB
          have HO10 := n0_
          have HO13 := n1_
          have HO17 := n2_
          have HO22 := n3_
          have HO26 := n4_
          have BK1 := n5_
          have BK19 := n6_
          have BK28 := n7_
          have HB := n8_
          clear n0_ n1_ n2_ n3_ n4_ n5_ n6_ n7_ n8_
          (try clear hb)
          (try clear hb2)
          (try clear hk)
          (try clear hi)
          refine hK.out _ _ ⟨(blk_cell BK19.out 0).trans rfl, (blk_cell BK19.out 1).trans rfl, (blk_cell BK28.out 0).trans rfl, (blk_cell BK28.out 1).trans rfl⟩ (fun hHeld => ?_)
          clear hK K
          refine norm_ (a' := ?_) ?_ ?_
          rotate_left
          ·show Act.put _ (some 82) _ = _
           simp only [Act.put, List.setIfInBounds_toArray, List.set_cons_zero, List.set_cons_succ, i64_w, i32_w]
           rfl
          refine pure_ (i := 31) (N := some 83) (v := ?_) (a' := ?_) #[true, true, true, true, true, true, true, true, true, true, true, true, true, true, true, true, true, true, true, true, true, true, true, true, true, true, true, true, true, true, true, true, false] rfl rfl (any_of HT_.out (by kernel_rfl)) (fun _ _ _ h => h) (Or.inl ⟨by rfl, ?_⟩) ?_ ?_
          rotate_left
          ·intro w'
           go_simp
           with_reducible rfl
          rotate_left
          ·simp only [Act.put, List.setIfInBounds_toArray, List.set_cons_zero, List.set_cons_succ, i64_w, i32_w]
           rfl
          refine pure_ (i := 32) (N := some 6) (v := ?_) (a' := ?_) #[true, true, true, true, true, true, true, true, true, true, true, true, true, true, true, true, true, true, true, true, true, true, true, true, true, true, true, true, true, true, true, true, true] rfl rfl (any_of HT_.out (by kernel_rfl)) (fun _ _ _ h => h) (Or.inl ⟨by rfl, ?_⟩) ?_ ?_
          rotate_left
          ·intro w'
           go_simp
           with_reducible rfl
          rotate_left
          ·simp only [Act.put, List.setIfInBounds_toArray, List.set_cons_zero, List.set_cons_succ, i64_w, i32_w]
           rfl
          refine done_ (done_of HT_.out (by kernel_rfl)) ?_
          try go_wp2
          go_ret
          exact ⟨by first|rfl|(simp [errW_none, errW_some] <;> rfl)|(simp [*, errW_none, errW_some] <;> rfl), by repeat (first|(with_reducible first|exact HB.out|apply below_alloc|apply pw_below_drewN|apply below_drew1|refine below_set ?_ GE1.out|refine below_set ?_ GE19.out|refine below_set ?_ GE28.out)|exact HB.out)⟩
         ·replace c28 := Bool.eq_false_iff.mpr c28
          subst c28
          have H1 : (none) = some r := by rw [if_neg (show ¬ (false = true) by decide)] at H; exact H
          cases H1
        ·rw [if_neg c26] at H
         cases H
       ·replace c24 := Bool.eq_false_iff.mpr c24
        subst c24
        have H1 : (none) = some r := by rw [if_neg (show ¬ (false = true) by decide)] at H; exact H
        cases H1
      ·rw [if_neg c22] at H
       cases H
     ·replace c20 := Bool.eq_false_iff.mpr c20
      subst c20
      have H1 : (none) = some r := by rw [if_neg (show ¬ (false = true) by decide)] at H; exact H
      cases H1
    ·rw [if_neg c14] at H
     exact absurd H (by simp)
end Go.Proofs.Ytcgefpklljclgaa.Print

namespace Go.Proofs.Ytcgefpklljclgaa.Print
open Go.RowKit Go.Proofs.YtcgefpklljclgaaW.PrintWords Go.Proofs.YtcgefpklljclgaaW.PrintLast
set_option linter.unusedVariables false
set_option linter.unusedSimpArgs false
abbrev Item := S31
abbrev Vec := S27
abbrev zItem : Item := z31
theorem rd_item (l : List Item) (i : Int) : rd_T31 l i = l.getD i.toNat zItem := rfl
instance baLawful : LawfulBEq ByteArray where
  eq_of_beq {a b} h := by
    obtain ⟨a⟩ := a
    obtain ⟨b⟩ := b
    have : (a == b) = true := h
    rw [eq_of_beq this]
  rfl {a} := by
    obtain ⟨a⟩ := a
    show (a == a) = true
    exact beq_self_eq_true a
/-- a name is its bytes -/
theorem nm_inj {a b : ByteArray} : a.toList = b.toList ↔ a = b := by
  constructor
  · intro h
    rw [ByteArray.toList_eq, ByteArray.toList_eq] at h
    exact ByteArray.ext (Array.toList_inj.1 h)
  · rintro rfl; rfl
theorem nm_beq (a b : ByteArray) : (a.toList == b.toList) = decide (a = b) := by
  rw [Bool.eq_iff_iff, beq_iff_eq, nm_inj, decide_eq_true_iff]
theorem nm_empty {a : ByteArray} : a.toList = ([] : List UInt8) ↔ a = ⟨#[]⟩ := by
  rw [← nm_inj]; rw [show (ByteArray.mk #[]).toList = [] from by rw [ByteArray.toList_eq]]
theorem w64 {n : Int} (h0 : -9223372036854775808 ≤ n) (h1 : n ≤ 9223372036854775807) : wrap64 n = n := by unfold wrap64; omega
/-! the place of a name -/
def look (l : List Item) (n : ByteArray) : Option Item := l.find? (fun x => x.f0 = n)
def fnd (l : List Item) (n : ByteArray) : Int := fidx (fun x : Item => x.f0.toList == n.toList) l 0
theorem fidx_none {α : Type} {p : α → Bool} : ∀ {l : List α} {i : Int}, (∀ x ∈ l, p x = false) → fidx p l i = -1
  | [], _, _ => rfl
  | x :: l, i, h => by
    unfold fidx
    rw [if_neg (by rw [h x (by simp)]; simp)]
    exact fidx_none (fun y hy => h y (by simp [hy]))
theorem fidx_some {α : Type} {p : α → Bool} (z : α) : ∀ {l : List α} {i : Int} {x : α}, l.find? p = some x → ∃ j : Nat, j < l.length ∧ fidx p l i = i + j ∧ l.getD j z = x ∧ p x = true ∧ ∀ m, m < j → p (l.getD m z) = false
  | [], _, _, h => by simp at h
  | y :: l, i, x, h => by
    unfold fidx
    by_cases hy : p y = true
    · rw [if_pos hy]
      simp only [List.find?_cons, hy] at h
      obtain rfl := Option.some.inj h
      exact ⟨0, by simp, by simp, by simp, hy, fun m hm => by omega⟩
    · rw [if_neg hy]
      have hy' : p y = false := by simpa using hy
      simp only [List.find?_cons, hy'] at h
      obtain ⟨j, hj, h1, h2, h3, h4⟩ := fidx_some z (i := i + 1) h
      refine ⟨j + 1, by simp; omega, by rw [h1]; omega, by simpa using h2, h3, fun m hm => ?_⟩
      cases m with
      | zero => simpa using hy'
      | succ m => simpa using h4 m (by omega)
theorem look_pred (n : ByteArray) : (fun x : Item => x.f0.toList == n.toList) = (fun x : Item => decide (x.f0 = n)) := by
  funext x; exact nm_beq _ _
theorem look_mem {l : List Item} {n : ByteArray} {x : Item} (h : look l n = some x) : x ∈ l ∧ x.f0 = n := by
  unfold look at h
  exact ⟨List.mem_of_find?_eq_some h, by simpa using List.find?_some h⟩
theorem look_none {l : List Item} {n : ByteArray} : look l n = none ↔ ∀ x ∈ l, x.f0 ≠ n := by
  unfold look
  simp
theorem fnd_none {l : List Item} {n : ByteArray} (h : look l n = none) : fnd l n = -1 := by
  unfold fnd
  refine fidx_none fun x hx => ?_
  rw [nm_beq]
  simpa using look_none.1 h x hx
theorem fnd_some {l : List Item} {n : ByteArray} {x : Item} (h : look l n = some x) : ∃ j : Nat, j < l.length ∧ fnd l n = j ∧ l.getD j zItem = x ∧ x.f0 = n ∧ ∀ m, m < j → (l.getD m zItem).f0 ≠ n := by
  have h' : l.find? (fun x : Item => x.f0.toList == n.toList) = some x := by rw [look_pred]; exact h
  obtain ⟨j, h1, h2, h3, h4, h5⟩ := fidx_some zItem (i := 0) h'
  refine ⟨j, h1, by unfold fnd; rw [h2]; omega, h3, by simpa [nm_beq] using h4, fun m hm => ?_⟩
  simpa [nm_beq] using h5 m hm
theorem fnd_lt (l : List Item) (n : ByteArray) : fnd l n < l.length := by
  cases h : look l n with
  | none => rw [fnd_none h]; omega
  | some x => obtain ⟨j, h1, h2, _⟩ := fnd_some h; omega
theorem fnd_neg {l : List Item} {n : ByteArray} : fnd l n < 0 ↔ look l n = none := by
  cases h : look l n with
  | none => rw [fnd_none h]; simp
  | some x => obtain ⟨j, h1, h2, _⟩ := fnd_some h; simp; omega
theorem fnd_ge {l : List Item} {n : ByteArray} : 0 ≤ fnd l n ↔ ∃ x, look l n = some x := by
  cases h : look l n with
  | none => rw [fnd_none h]; simp
  | some x => obtain ⟨j, h1, h2, _⟩ := fnd_some h; simp; omega
theorem fnd_rd {l : List Item} {n : ByteArray} {x : Item} (h : look l n = some x) : rd_T31 l (fnd l n) = x := by
  obtain ⟨j, h1, h2, h3, _⟩ := fnd_some h
  rw [rd_item, h2, Int.toNat_natCast]; exact h3
theorem tree_Find_eq (l : List Item) (n : ByteArray) : tree_Find.f l n = some (fnd l n) := rfl
/-! the way up -/
inductive Chain (l : List Item) : ByteArray → List ByteArray → Prop where
  | nil {n : ByteArray} : look l n = none → Chain l n []
  | cons {n : ByteArray} {x : Item} {us : List ByteArray} : look l n = some x → Chain l x.f1 us → Chain l n (n :: us)
def upGo (l : List Item) : Nat → ByteArray → List ByteArray
  | 0, _ => []
  | m + 1, n => match look l n with
    | none => []
    | some x => n :: upGo l m x.f1
def up (l : List Item) (n : ByteArray) : List ByteArray := upGo l (l.length + 1) n
theorem upGo_none {l : List Item} {n : ByteArray} (h : look l n = none) (m : Nat) : upGo l m n = [] := by
  cases m with
  | zero => rfl
  | succ m => unfold upGo; rw [h]
theorem upGo_some {l : List Item} {n : ByteArray} {x : Item} (h : look l n = some x) (m : Nat) : upGo l (m + 1) n = n :: upGo l m x.f1 := by
  rw [upGo.eq_2, h]
theorem Chain.det {l : List Item} {n : ByteArray} {us : List ByteArray} (h : Chain l n us) : ∀ {vs : List ByteArray}, Chain l n vs → us = vs := by
  induction h with
  | nil h =>
    intro vs k
    cases k with
    | nil _ => rfl
    | cons k _ => rw [h] at k; cases k
  | cons h _ ih =>
    intro vs k
    cases k with
    | nil k => rw [h] at k; cases k
    | cons k k2 =>
      rw [h] at k
      cases k
      rw [ih k2]
theorem Chain.upGo {l : List Item} {n : ByteArray} {us : List ByteArray} (h : Chain l n us) : ∀ m, us.length ≤ m → upGo l m n = us := by
  induction h with
  | nil h => intro m _; exact upGo_none h m
  | cons h _ ih =>
    intro m hm
    cases m with
    | zero => simp at hm
    | succ m =>
      rw [upGo_some h, ih m (by simpa using hm)]
theorem upGo_chain (l : List Item) : ∀ (m : Nat) (n : ByteArray), (upGo l m n).length < m → Chain l n (upGo l m n)
  | 0, _, h => by simp [upGo] at h
  | m + 1, n, h => by
    cases hl : look l n with
    | none => rw [upGo_none hl]; exact .nil hl
    | some x =>
      rw [upGo_some hl] at h ⊢
      exact .cons hl (upGo_chain l m x.f1 (by simpa using h))
theorem up_chain {l : List Item} {n : ByteArray} (h : (up l n).length ≤ l.length) : Chain l n (up l n) := upGo_chain l _ n (by unfold up at h; omega)
theorem Chain.suffix {l : List Item} {n : ByteArray} {us : List ByteArray} (h : Chain l n us) : ∀ {m : ByteArray}, m ∈ us → ∃ vs ws, us = ws ++ vs ∧ Chain l m vs ∧ ∃ vt, vs = m :: vt := by
  induction h with
  | nil _ => intro m hm; cases hm
  | @cons n x us h k ih =>
    intro m hm
    rcases List.mem_cons.1 hm with rfl | hm
    · exact ⟨_, [], rfl, .cons h k, _, rfl⟩
    · obtain ⟨vs, ws, e, hc, he⟩ := ih hm
      exact ⟨vs, n :: ws, by rw [e]; rfl, hc, he⟩
theorem Chain.mem_look {l : List Item} {n : ByteArray} {us : List ByteArray} (h : Chain l n us) {m : ByteArray} (hm : m ∈ us) : ∃ x, look l m = some x := by
  obtain ⟨vs, ws, _, hc, vt, rfl⟩ := h.suffix hm
  cases hc with
  | cons h _ => exact ⟨_, h⟩
theorem Chain.nodup {l : List Item} {n : ByteArray} {us : List ByteArray} (h : Chain l n us) : us.Nodup := by
  induction h with
  | nil _ => simp
  | @cons n x us h k ih =>
    rw [List.nodup_cons]
    refine ⟨fun hm => ?_, ih⟩
    obtain ⟨vs, ws, e, hc, _⟩ := k.suffix hm
    have := hc.det (.cons h k)
    rw [this] at e
    have := congrArg List.length e
    simp at this
    omega
theorem Chain.len {l : List Item} {n : ByteArray} {us : List ByteArray} (h : Chain l n us) : us.length ≤ l.length := by
  have := h.nodup.length_le_of_subset (l₂ := l.map (·.f0)) (fun m hm => by
    obtain ⟨x, hx⟩ := h.mem_look hm
    obtain ⟨h1, rfl⟩ := look_mem hx
    exact List.mem_map_of_mem h1)
  simpa using this
theorem Chain.up {l : List Item} {n : ByteArray} {us : List ByteArray} (h : Chain l n us) : up l n = us := h.upGo _ (by have := h.len; omega)
theorem up_len_iff {l : List Item} {n : ByteArray} : (up l n).length ≤ l.length ↔ ∃ us, Chain l n us :=
  ⟨fun h => ⟨_, up_chain h⟩, fun ⟨us, h⟩ => by rw [h.up]; exact h.len⟩
end Go.Proofs.Ytcgefpklljclgaa.Print

namespace Go.Proofs.Ytcgefpklljclgaa.Print
open Go.RowKit Go.Proofs.YtcgefpklljclgaaW.PrintWords Go.Proofs.YtcgefpklljclgaaW.PrintLast
open Go.ChangeShapes Go.WideShapes Go.Deep
set_option linter.unusedVariables false
set_option linter.unusedSimpArgs false
section
variable {H : Type} {enc : TypeId × Value → H} {w : World} {base : Nat} {spare : Nat → Bool} {held : Bool}
theorem cells_i : Try.prog.cellsOf 3 = 1 := by kernel_rfl
theorem cells_s : Try.prog.cellsOf 9 = 1 := by kernel_rfl
theorem cells_v : Try.prog.cellsOf 27 = 3 := by kernel_rfl
theorem cells_it : Try.prog.cellsOf 31 = 12 := by kernel_rfl
theorem open_i {fuel : Nat} {c : Value} {x : DataW H × List MemPlace} (h : DataW.trod enc Try.prog w base spare held fuel 3 [c] = some x) : ∃ n : Int, c = .int .i64 n := by
  obtain ⟨n, e, _, _⟩ := DataW.trod_int Try.underlying3 h
  exact ⟨n, (List.cons.inj e).1⟩
theorem open_s {fuel : Nat} {c : Value} {x : DataW H × List MemPlace} (h : DataW.trod enc Try.prog w base spare held fuel 9 [c] = some x) : ∃ s : ByteArray, c = .string s := by
  obtain ⟨n, e, _, _⟩ := DataW.trod_string Try.underlying9 h
  exact ⟨n, (List.cons.inj e).1⟩
/-- an amount's cells -/
theorem open_vec {fuel : Nat} {cs : List Value} {x : DataW H × List MemPlace} (h : DataW.trod enc Try.prog w base spare held fuel 27 cs = some x) : ∃ v : Vec, cs = [.int .i64 v.f0, .int .i64 v.f1, .int .i64 v.f2] := by
  obtain ⟨xs, n, _, hx, hl, hlen, hf⟩ := DataW.trod_struct Try.underlying27 h
  replace hl : cs.length = 3 := hl.trans cells_v
  replace hlen : xs.length = 3 := hlen
  clear h hx
  obtain ⟨c0, c1, c2, rfl⟩ : ∃ c0 c1 c2, cs = [c0, c1, c2] := by
    clear hf
    match cs, hl with
    | [c0, c1, c2], _ => exact ⟨_, _, _, rfl⟩
  obtain ⟨y0, y1, y2, rfl⟩ : ∃ y0 y1 y2, xs = [y0, y1, y2] := by
    clear hf
    match xs, hlen with
    | [y0, y1, y2], _ => exact ⟨_, _, _, rfl⟩
  have g0 : DataW.trod enc Try.prog w base spare held n 3 (List.take (Try.prog.cellsOf 3) (List.drop 0 [c0, c1, c2])) = some y0 := hf 0 _ rfl
  have g1 : DataW.trod enc Try.prog w base spare held n 3 (List.take (Try.prog.cellsOf 3) (List.drop 1 [c0, c1, c2])) = some y1 := hf 1 _ rfl
  have g2 : DataW.trod enc Try.prog w base spare held n 3 (List.take (Try.prog.cellsOf 3) (List.drop 2 [c0, c1, c2])) = some y2 := hf 2 _ rfl
  rw [cells_i] at g0 g1 g2
  obtain ⟨n0, rfl⟩ := open_i (c := c0) g0
  obtain ⟨n1, rfl⟩ := open_i (c := c1) g1
  obtain ⟨n2, rfl⟩ := open_i (c := c2) g2
  exact ⟨⟨n0, n1, n2⟩, rfl⟩
/-- an item's cells -/
theorem open_item {fuel : Nat} {cs : List Value} {x : DataW H × List MemPlace} (h : DataW.trod enc Try.prog w base spare held fuel 31 cs = some x) : ∃ it : Item, cs = [.string it.f0, .string it.f1, .int .i64 it.f2.f0, .int .i64 it.f2.f1, .int .i64 it.f2.f2, .int .i64 it.f3.f0, .int .i64 it.f3.f1, .int .i64 it.f3.f2, .int .i64 it.f4.f0, .int .i64 it.f4.f1, .int .i64 it.f4.f2, .int .i64 it.f5] := by
  obtain ⟨xs, n, _, hx, hl, hlen, hf⟩ := DataW.trod_struct Try.underlying31 h
  replace hl : cs.length = 12 := hl.trans cells_it
  replace hlen : xs.length = 6 := hlen
  clear h hx
  obtain ⟨c0, c1, c2, c3, c4, c5, c6, c7, c8, c9, c10, c11, rfl⟩ : ∃ c0 c1 c2 c3 c4 c5 c6 c7 c8 c9 c10 c11, cs = [c0, c1, c2, c3, c4, c5, c6, c7, c8, c9, c10, c11] := by
    clear hf
    match cs, hl with
    | [c0, c1, c2, c3, c4, c5, c6, c7, c8, c9, c10, c11], _ => exact ⟨_, _, _, _, _, _, _, _, _, _, _, _, rfl⟩
  obtain ⟨y0, y1, y2, y3, y4, y5, rfl⟩ : ∃ y0 y1 y2 y3 y4 y5, xs = [y0, y1, y2, y3, y4, y5] := by
    clear hf
    match xs, hlen with
    | [y0, y1, y2, y3, y4, y5], _ => exact ⟨_, _, _, _, _, _, rfl⟩
  have g0 : DataW.trod enc Try.prog w base spare held n 9 (List.take (Try.prog.cellsOf 9) (List.drop 0 [c0, c1, c2, c3, c4, c5, c6, c7, c8, c9, c10, c11])) = some y0 := hf 0 _ rfl
  have g1 : DataW.trod enc Try.prog w base spare held n 9 (List.take (Try.prog.cellsOf 9) (List.drop 1 [c0, c1, c2, c3, c4, c5, c6, c7, c8, c9, c10, c11])) = some y1 := hf 1 _ rfl
  have g2 : DataW.trod enc Try.prog w base spare held n 27 (List.take (Try.prog.cellsOf 27) (List.drop 2 [c0, c1, c2, c3, c4, c5, c6, c7, c8, c9, c10, c11])) = some y2 := hf 2 _ rfl
  have g3 : DataW.trod enc Try.prog w base spare held n 27 (List.take (Try.prog.cellsOf 27) (List.drop 5 [c0, c1, c2, c3, c4, c5, c6, c7, c8, c9, c10, c11])) = some y3 := hf 3 _ rfl
  have g4 : DataW.trod enc Try.prog w base spare held n 27 (List.take (Try.prog.cellsOf 27) (List.drop 8 [c0, c1, c2, c3, c4, c5, c6, c7, c8, c9, c10, c11])) = some y4 := hf 4 _ rfl
  have g5 : DataW.trod enc Try.prog w base spare held n 3 (List.take (Try.prog.cellsOf 3) (List.drop 11 [c0, c1, c2, c3, c4, c5, c6, c7, c8, c9, c10, c11])) = some y5 := hf 5 _ rfl
  rw [cells_s] at g0 g1
  rw [cells_v] at g2 g3 g4
  rw [cells_i] at g5
  obtain ⟨n0, rfl⟩ := open_s (c := c0) g0
  obtain ⟨n1, rfl⟩ := open_s (c := c1) g1
  obtain ⟨v2, e2⟩ := open_vec (cs := [c2, c3, c4]) g2
  obtain ⟨v3, e3⟩ := open_vec (cs := [c5, c6, c7]) g3
  obtain ⟨v4, e4⟩ := open_vec (cs := [c8, c9, c10]) g4
  obtain ⟨n5, rfl⟩ := open_i (c := c11) g5
  simp only [List.cons.injEq, and_true] at e2 e3 e4
  obtain ⟨rfl, rfl, rfl⟩ := e2
  obtain ⟨rfl, rfl, rfl⟩ := e3
  obtain ⟨rfl, rfl, rfl⟩ := e4
  exact ⟨⟨n0, n1, v2, v3, v4, n5⟩, rfl⟩
/-- a row of items -/
theorem open_items {t : TypeId} (ht : Try.prog.underlying t = some (.slice 31)) {v : Value} {d : DataW H} {p : List MemPlace} {A : Option Addr} {len cap : Nat} (hv : v = .slice A len cap) (h : DataW.Trod enc Try.prog w base spare held t v d p) :
    ∃ zs : List Item, len = zs.length ∧ len ≤ cap ∧ Kd.C k31 w A zs.length zs := by
  subst hv
  obtain ⟨fuel, hf⟩ := h
  rcases open_slice ht hf with ⟨e, _⟩ | ⟨a, len', cap', m, n, D, Pl, e, _, hl, hm, hmm, _, hi⟩
  · simp only [Value.cells, List.cons.injEq, Value.slice.injEq, and_true] at e
    obtain ⟨rfl, rfl, rfl⟩ := e
    exact ⟨[], rfl, Nat.le_refl _, Kd.C_nil _ _⟩
  · simp only [Value.cells, List.cons.injEq, Value.slice.injEq, and_true] at e
    obtain ⟨rfl, rfl, rfl⟩ := e
    have hlm : len ≤ m := by rw [hmm]; split <;> omega
    have key : ∀ i, i < len → ∃ it : Item, ∀ j u, [Value.string it.f0, .string it.f1, .int .i64 it.f2.f0, .int .i64 it.f2.f1, .int .i64 it.f2.f2, .int .i64 it.f3.f0, .int .i64 it.f3.f1, .int .i64 it.f3.f2, .int .i64 it.f4.f0, .int .i64 it.f4.f1, .int .i64 it.f4.f2, .int .i64 it.f5][j]? = some u → w.cell? (a.add (i * 12 + j)) = some u := by
      intro i hil
      obtain ⟨cs', h1, h2⟩ := hi i (by omega)
      rw [cells_it] at h1
      obtain ⟨_, hcl, hat⟩ := World.cells?_some h1
      obtain ⟨it, rfl⟩ := open_item h2
      refine ⟨it, fun j u hj => ?_⟩
      have hj12 : j < 12 := by
        have := (List.getElem?_eq_some_iff.1 hj).1
        simpa using this
      have := hat j hj12
      rw [Go.Deep.add_add, hj] at this
      exact this
    have hg : ∃ g : Nat → Item, ∀ i, i < len → ∀ j u, [Value.string (g i).f0, .string (g i).f1, .int .i64 (g i).f2.f0, .int .i64 (g i).f2.f1, .int .i64 (g i).f2.f2, .int .i64 (g i).f3.f0, .int .i64 (g i).f3.f1, .int .i64 (g i).f3.f2, .int .i64 (g i).f4.f0, .int .i64 (g i).f4.f1, .int .i64 (g i).f4.f2, .int .i64 (g i).f5][j]? = some u → w.cell? (a.add (i * 12 + j)) = some u := by
      refine ⟨fun i => if q : i < len then Classical.choose (key i q) else zItem, fun i q => ?_⟩
      have := Classical.choose_spec (key i q)
      simp only [q, dif_pos]
      exact this
    obtain ⟨g, hg⟩ := hg
    refine ⟨(List.range len).map g, by simp, hl, ?_⟩
    have hml : maxLen = 9223372036854775807 := rfl
    refine ⟨rfl, by simp; omega, fun _ => ⟨a, rfl, fun j p hj => ?_⟩⟩
    rw [List.getElem?_map] at hj
    obtain ⟨i, hi1, rfl⟩ := Option.map_eq_some_iff.1 hj
    obtain ⟨hjl, e⟩ := List.getElem?_eq_some_iff.1 hi1
    rw [List.getElem_range] at e
    subst e
    rw [List.length_range] at hjl
    exact ⟨_, rfl, k31_mk w (g j), fun i u hu => hg j hjl i u hu⟩
/-- an amount by value -/
theorem open_vec_arg {cs : Array Value} {d : DataW H} {p : List MemPlace} (h : DataW.Trod enc Try.prog w base spare held 27 (.agg cs) d p) : ∃ v : Vec, cs = #[.int .i64 v.f0, .int .i64 v.f1, .int .i64 v.f2] := by
  obtain ⟨fuel, hf⟩ := h
  obtain ⟨v, e⟩ := open_vec hf
  exact ⟨v, Array.toList_inj.1 e⟩
end
end Go.Proofs.Ytcgefpklljclgaa.Print

namespace Go.Proofs.Ytcgefpklljclgaa.Print
open Go.RowKit Go.Proofs.YtcgefpklljclgaaW.PrintWords Go.Proofs.YtcgefpklljclgaaW.PrintLast
set_option linter.unusedVariables false
set_option linter.unusedSimpArgs false
/-! names in order -/
def lt (a b : ByteArray) : Bool := Op.bytesLess a.toList b.toList
theorem bl_irrefl : ∀ a : List UInt8, Op.bytesLess a a = false
  | [] => rfl
  | x :: a => by unfold Op.bytesLess; simp [bl_irrefl a]
theorem bl_trans : ∀ {a b c : List UInt8}, Op.bytesLess a b = true → Op.bytesLess b c = true → Op.bytesLess a c = true
  | [], [], _, h, _ => by simp [Op.bytesLess] at h
  | [], _ :: _, [], _, k => by simp [Op.bytesLess] at k
  | [], _ :: _, _ :: _, _, _ => by simp [Op.bytesLess]
  | _ :: _, [], _, h, _ => by simp [Op.bytesLess] at h
  | _ :: _, _ :: _, [], _, k => by simp [Op.bytesLess] at k
  | x :: a, y :: b, z :: c, h, k => by
    simp only [Op.bytesLess, Bool.or_eq_true, Bool.and_eq_true, decide_eq_true_eq, beq_iff_eq] at h k ⊢
    rcases h with h | ⟨rfl, h⟩
    · rcases k with k | ⟨rfl, k⟩
      · exact .inl (UInt8.lt_trans h k)
      · exact .inl h
    · rcases k with k | ⟨rfl, k⟩
      · exact .inl k
      · exact .inr ⟨rfl, bl_trans h k⟩
theorem lt_irrefl (a : ByteArray) : lt a a = false := bl_irrefl _
theorem lt_trans {a b c : ByteArray} (h : lt a b = true) (k : lt b c = true) : lt a c = true := bl_trans h k
theorem lt_ne {a b : ByteArray} (h : lt a b = true) : a ≠ b := by rintro rfl; rw [lt_irrefl] at h; cases h
/-! amounts -/
inductive Comp where | cpu | mem | pods
def Comp.of : Comp → Vec → Int | .cpu, v => v.f0 | .mem, v => v.f1 | .pods, v => v.f2
theorem vec_ext {a b : Vec} (h : ∀ c : Comp, c.of a = c.of b) : a = b := by
  cases a; cases b
  have h0 := h .cpu; have h1 := h .mem; have h2 := h .pods
  simp [Comp.of] at h0 h1 h2
  simp [h0, h1, h2]
def vadd (a b : Vec) : Vec := ⟨a.f0 + b.f0, a.f1 + b.f1, a.f2 + b.f2⟩
theorem of_vadd (c : Comp) (a b : Vec) : c.of (vadd a b) = c.of a + c.of b := by cases c <;> rfl
def MayP (v : Vec) : Prop := ∀ c : Comp, 0 ≤ c.of v ∧ c.of v ≤ 1099511627776
def LeP (a b : Vec) : Prop := ∀ c : Comp, c.of a ≤ c.of b
theorem comp_all {p : Comp → Prop} : (∀ c, p c) ↔ p .cpu ∧ p .mem ∧ p .pods :=
  ⟨fun h => ⟨h _, h _, h _⟩, fun ⟨a, b, d⟩ c => by cases c <;> assumption⟩
instance (v : Vec) : Decidable (MayP v) := decidable_of_iff _ comp_all.symm
instance (a b : Vec) : Decidable (LeP a b) := decidable_of_iff _ comp_all.symm
theorem mayP_iff {a b d : Int} : MayP ⟨a, b, d⟩ ↔ (0 ≤ a ∧ a ≤ 1099511627776) ∧ (0 ≤ b ∧ b ≤ 1099511627776) ∧ (0 ≤ d ∧ d ≤ 1099511627776) := comp_all
theorem leP_iff {a b d a' b' d' : Int} : LeP ⟨a, b, d⟩ ⟨a', b', d'⟩ ↔ a ≤ a' ∧ b ≤ b' ∧ d ≤ d' := comp_all
/-! sums over a tree -/
def sumBy (g : Item → Int) (l : List Item) : Int := (l.map g).sum
theorem sumBy_nil (g : Item → Int) : sumBy g [] = 0 := rfl
theorem sumBy_cons (g : Item → Int) (x : Item) (l : List Item) : sumBy g (x :: l) = g x + sumBy g l := by simp [sumBy]
theorem sumBy_append (g : Item → Int) (l m : List Item) : sumBy g (l ++ m) = sumBy g l + sumBy g m := by simp [sumBy]
theorem sumBy_nonneg {g : Item → Int} : ∀ {l : List Item}, (∀ x ∈ l, 0 ≤ g x) → 0 ≤ sumBy g l
  | [], _ => by simp [sumBy_nil]
  | x :: l, e => by rw [sumBy_cons]; have := e x (by simp); have := sumBy_nonneg (l := l) (fun y hy => e y (by simp [hy])); omega
theorem sumBy_le {g : Item → Int} {B : Int} : ∀ {l : List Item}, (∀ x ∈ l, g x ≤ B) → sumBy g l ≤ B * l.length
  | [], _ => by simp [sumBy_nil]
  | x :: l, e => by
    rw [sumBy_cons]; have := e x (by simp); have := sumBy_le (l := l) (fun y hy => e y (by simp [hy]))
    simp only [List.length_cons, Int.natCast_succ, Int.mul_add, Int.mul_one]; omega
/-- what the children have -/
def csum (c : Comp) (l : List Item) (n : ByteArray) : Int := sumBy (fun y => if y.f1 = n then c.of y.f4 else 0) l
/-! right trees -/
structure ItemOK (x : Item) : Prop where
  name : x.f0 ≠ ⟨#[]⟩
  size : x.f0.size ≤ 24
  lim : MayP x.f2
  own : MayP x.f3
  sub : MayP x.f4
  fit : LeP x.f4 x.f2
  ver : 1 ≤ x.f5 ∧ x.f5 ≤ 9007199254740992
structure RightP (l : List Item) : Prop where
  len : l.length ≤ 120
  ok : ∀ x ∈ l, ItemOK x
  sorted : l.Pairwise (fun x y => lt x.f0 y.f0 = true)
  par : ∀ x ∈ l, x.f1 = ⟨#[]⟩ ∨ ∃ y, look l x.f1 = some y
  sum : ∀ c : Comp, ∀ x ∈ l, c.of x.f4 = c.of x.f3 + csum c l x.f0
  chain : ∀ x ∈ l, ∃ us, Chain l x.f0 us
theorem sorted_nodup {l : List Item} (h : l.Pairwise (fun x y => lt x.f0 y.f0 = true)) : (l.map (·.f0)).Nodup := by
  rw [List.Nodup, List.pairwise_map]
  exact h.imp (fun hxy => lt_ne hxy)
theorem RightP.nodup {l : List Item} (h : RightP l) : (l.map (·.f0)).Nodup := sorted_nodup h.sorted
theorem look_of_mem {l : List Item} (hn : (l.map (·.f0)).Nodup) {x : Item} (hx : x ∈ l) : look l x.f0 = some x := by
  induction l with
  | nil => cases hx
  | cons y l ih =>
    rw [List.map_cons, List.nodup_cons] at hn
    unfold look
    rw [List.find?_cons]
    rcases List.mem_cons.1 hx with rfl | hx
    · simp
    · have : y.f0 ≠ x.f0 := fun e => hn.1 (by rw [e]; exact List.mem_map_of_mem hx)
      simp only [this, decide_false]
      exact ih hn.2 hx
theorem RightP.look {l : List Item} (h : RightP l) {x : Item} (hx : x ∈ l) : look l x.f0 = some x := look_of_mem h.nodup hx
theorem RightP.chainAll {l : List Item} (h : RightP l) (n : ByteArray) : Chain l n (up l n) := by
  cases hl : Print.look l n with
  | none => have c := Chain.nil hl; rw [c.up]; exact c
  | some x =>
    obtain ⟨hx, rfl⟩ := look_mem hl
    obtain ⟨us, c⟩ := h.chain x hx
    rw [c.up]; exact c
/-- two that have one name are one -/
theorem RightP.eq_of {l : List Item} (h : RightP l) {x y : Item} (hx : x ∈ l) (hy : y ∈ l) (e : x.f0 = y.f0) : x = y := by
  have h1 := h.look hx
  rw [e, h.look hy] at h1
  exact (Option.some.inj h1).symm
end Go.Proofs.Ytcgefpklljclgaa.Print

namespace Go.Proofs.Ytcgefpklljclgaa.Print
open Go.RowKit Go.Proofs.YtcgefpklljclgaaW.PrintWords Go.Proofs.YtcgefpklljclgaaW.PrintLast
set_option linter.unusedVariables false
set_option linter.unusedSimpArgs false
/-! a tree whose items change, but neither their names nor parents -/
theorem look_map {f : Item → Item} (hf : ∀ x, (f x).f0 = x.f0) (l : List Item) (n : ByteArray) : look (l.map f) n = (look l n).map f := by
  unfold look
  rw [List.find?_map]
  congr 2
  funext x
  simp [hf]
theorem Chain.map {f : Item → Item} (hf : ∀ x, (f x).f0 = x.f0) (hp : ∀ x, (f x).f1 = x.f1) {l : List Item} {n : ByteArray} {us : List ByteArray} (h : Chain l n us) : Chain (l.map f) n us := by
  induction h with
  | nil h => exact .nil (by rw [look_map hf, h]; rfl)
  | @cons n x us h k ih => exact .cons (x := f x) (by rw [look_map hf, h]; rfl) (by rw [hp]; exact ih)
theorem up_self {l : List Item} {n : ByteArray} {x : Item} (h : look l n = some x) : n ∈ up l n := by
  unfold up
  rw [upGo_some h]
  simp
/-! letting in (and out) -/
def admF (us : List ByteArray) (n : ByteArray) (v : Vec) (x : Item) : Item := ⟨x.f0, x.f1, x.f2, if x.f0 = n then vadd x.f3 v else x.f3, if x.f0 ∈ us then vadd x.f4 v else x.f4, x.f5⟩
def admL (l : List Item) (n : ByteArray) (v : Vec) : List Item := l.map (admF (up l n) n v)
end Go.Proofs.Ytcgefpklljclgaa.Print

namespace Go.Proofs.Ytcgefpklljclgaa.Print
open Go.RowKit Go.Proofs.YtcgefpklljclgaaW.PrintWords Go.Proofs.YtcgefpklljclgaaW.PrintLast Go.Proofs.YtcgefpklljclgaaW.PrintMore
attribute [local go_sem] max2_int min2_int max_two min_two max_three min_three max_four min_four   -- for this text's walks alone
set_option linter.unusedVariables false
set_option linter.unusedSimpArgs false
end Go.Proofs.Ytcgefpklljclgaa.Print

namespace Go.Proofs.Ytcgefpklljclgaa.Print
open Go.RowKit Go.Proofs.YtcgefpklljclgaaW.PrintWords Go.Proofs.YtcgefpklljclgaaW.PrintLast Go.Proofs.YtcgefpklljclgaaW.PrintMore
attribute [local go_sem] max2_int min2_int max_two min_two max_three min_three max_four min_four   -- for this text's walks alone
set_option linter.unusedVariables false
set_option linter.unusedSimpArgs false
end Go.Proofs.Ytcgefpklljclgaa.Print

namespace Go.Proofs.Ytcgefpklljclgaa.Print
open Go.RowKit Go.Proofs.YtcgefpklljclgaaW.PrintWords Go.Proofs.YtcgefpklljclgaaW.PrintLast
set_option linter.unusedVariables false
set_option linter.unusedSimpArgs false
theorem ite_iff {α : Type} {p q : Prop} [Decidable p] [Decidable q] (h : p ↔ q) {a b : α} : (if p then a else b) = if q then a else b := by
  by_cases hp : p
  · rw [if_pos hp, if_pos (h.1 hp)]
  · rw [if_neg hp, if_neg (fun k => hp (h.2 k))]
/-! the document's small functions -/
theorem r10_Le_eq (a b d a' b' d' : Int) : r10_Le.f a b d a' b' d' = some (decide (LeP ⟨a, b, d⟩ ⟨a', b', d'⟩)) := by
  unfold r10_Le.f
  by_cases h0 : a ≤ a' <;> by_cases h1 : b ≤ b' <;> simp [h0, h1, leP_iff]
theorem r10_unit_eq (a : Int) : r10_unit.f a = some (decide (0 ≤ a ∧ a ≤ 1099511627776)) := by
  unfold r10_unit.f
  by_cases h0 : 0 ≤ a
  · rw [if_pos (by omega)]; simp [h0]
  · rw [if_neg (by omega)]; simp [h0]
theorem r10_MayVec_eq (a b d : Int) : r10_MayVec.f a b d = some (decide (MayP ⟨a, b, d⟩)) := by
  unfold r10_MayVec.f
  simp only [r10_unit_eq, Option.bind_some]
  by_cases h0 : 0 ≤ a ∧ a ≤ 1099511627776 <;> by_cases h1 : 0 ≤ b ∧ b ≤ 1099511627776 <;> simp [h0, h1, mayP_iff]
theorem r10_MayName_eq (n : ByteArray) : r10_MayName.f n = some (decide (n ≠ ⟨#[]⟩ ∧ n.size ≤ 24)) := by
  unfold r10_MayName.f
  by_cases h : n = ⟨#[]⟩
  · rw [if_pos (nm_empty.2 h)]; simp [h]
  · rw [if_neg (fun q => h (nm_empty.1 q))]; simp [h]; omega
theorem r10_copied_eq (l : List Item) (h : l.length < 1000000) : r10_copied.f l = some l := by
  unfold r10_copied.f
  simp only [Option.bind_some, List.length_nil, List.nil_append]
  rw [if_pos (by omega)]
theorem r10_Find_l0 (l : List Item) (n : ByteArray) (hl : l.length < 1000000) : ∀ (d i : Nat), l.length - i = d → i ≤ l.length →
    Ev (fun k => r10_Find.l0 k l n i) (fidx (fun x : Item => x.f0.toList == n.toList) (l.drop i) i)
  | 0, i, hd, hi => by
    obtain rfl : i = l.length := by omega
    refine Ev.step (f := fun _ => some (-1)) (fun k => ?_) (by rw [List.drop_length]; exact Ev.now _)
    simp only [r10_Find.l0]
    rw [if_neg (by omega)]
  | d + 1, i, hd, hi => by
    have hlt : i < l.length := by omega
    rw [fidx_drop _ zItem l i hlt]
    have hrd : rd_T31 l (i : Int) = l.getD i zItem := by rw [rd_item, Int.toNat_natCast]
    by_cases e : (l.getD i zItem).f0.toList = n.toList
    · rw [if_pos (beq_iff_eq.2 e)]
      refine Ev.step (f := fun _ => some (i : Int)) (fun k => ?_) (Ev.now _)
      simp only [r10_Find.l0]
      rw [if_pos (by omega), if_pos (by omega), hrd, if_pos e]
    · rw [if_neg (fun q => e (beq_iff_eq.1 q))]
      refine Ev.step (f := fun k => r10_Find.l0 k l n ((i + 1 : Nat) : Int)) (fun k => ?_) (r10_Find_l0 l n hl d (i + 1) (by omega) (by omega))
      simp only [r10_Find.l0]
      rw [if_pos (by omega), if_pos (by omega), hrd, if_neg e, w64 (by omega) (by omega)]
      rfl
theorem r10_Find_ev (l : List Item) (n : ByteArray) (hl : l.length < 1000000) : Ev (fun k => r10_Find.f k l n) (fnd l n) := r10_Find_l0 l n hl _ 0 rfl (by omega)
theorem r10_Up_l0 (l : List Item) (hl : l.length < 1000000) : ∀ (m : Nat) (n : ByteArray) (out : List ByteArray), out.length + m = l.length + 1 →
    Ev (fun k => r10_Up.l0 k l out (fnd l n)) (out ++ upGo l m n)
  | 0, n, out, hm => by
    rw [upGo.eq_1, List.append_nil]
    refine Ev.step (f := fun _ => some out) (fun k => ?_) (Ev.now _)
    simp only [r10_Up.l0]
    by_cases h : 0 ≤ fnd l n
    · rw [if_pos h, if_neg (by omega)]
    · rw [if_neg h]
  | m + 1, n, out, hm => by
    cases h : look l n with
    | none =>
      rw [upGo_none h, List.append_nil]
      refine Ev.step (f := fun _ => some out) (fun k => ?_) (Ev.now _)
      simp only [r10_Up.l0]
      rw [fnd_none h, if_neg (by omega)]
    | some x =>
      rw [upGo_some h]
      have h0 := fnd_ge.2 ⟨x, h⟩
      have h1 := fnd_lt l n
      obtain ⟨hx, hn⟩ := look_mem h
      refine Ev.step (f := fun k => (r10_Find.f k l x.f1).bind fun t => r10_Up.l0 k l (out ++ [n]) t) (fun k => ?_) (Ev.bind (r10_Find_ev l x.f1 hl) ?_)
      · simp only [r10_Up.l0]
        rw [if_pos h0, if_pos (by omega), if_pos h0, if_pos h1, if_pos (by omega), fnd_rd h, hn]
      · have := r10_Up_l0 l hl m x.f1 (out ++ [n]) (by simp; omega)
        simpa using this
theorem r10_Up_ev (l : List Item) (n : ByteArray) (hl : l.length < 1000000) : Ev (fun k => r10_Up.f k l n) (up l n) :=
  Ev.bind (r10_Find_ev l n hl) (by have := r10_Up_l0 l hl (l.length + 1) n [] (by simp); rw [List.nil_append] at this; exact this)
/-! a store at a name's place -/
theorem set_at {l : List Item} (hn : (l.map (·.f0)).Nodup) {n : ByteArray} {x : Item} (h : look l n = some x) (y : Item) :
    l.set (fnd l n).toNat y = l.map (fun z => if z.f0 = n then y else z) := by
  obtain ⟨j, h1, h2, h3, h4, h5⟩ := fnd_some h
  rw [h2, Int.toNat_natCast]
  have hx : l[j] = x := by rw [← h3]; simp [h1]
  apply List.ext_getElem (by simp)
  intro m hm hm'
  simp only [List.length_set] at hm
  rw [List.getElem_set, List.getElem_map]
  by_cases e : j = m
  · subst e
    rw [if_pos rfl, if_pos (by rw [hx]; exact h4)]
  · rw [if_neg e, if_neg]
    intro q
    have h6 : (l.map (·.f0))[j]'(by simpa using h1) = (l.map (·.f0))[m]'(by simpa using hm) := by simp [hx, h4, q]
    exact e ((List.getElem_inj hn).1 h6)
theorem fnd_map {f : Item → Item} (hf : ∀ x, (f x).f0 = x.f0) (l : List Item) (n : ByteArray) : fnd (l.map f) n = fnd l n := by
  have : ∀ (l : List Item) (i : Int), fidx (fun x : Item => x.f0.toList == n.toList) (l.map f) i = fidx (fun x : Item => x.f0.toList == n.toList) l i := by
    intro l
    induction l with
    | nil => intro i; rfl
    | cons x l ih => intro i; simp only [List.map_cons, fidx, hf, ih]
  exact this l 0
/-! letting in, as the document says -/
def admS (us : List ByteArray) (v : Vec) (x : Item) : Item := ⟨x.f0, x.f1, x.f2, x.f3, if x.f0 ∈ us then vadd x.f4 v else x.f4, x.f5⟩
def admR (l : List Item) (n : ByteArray) (v : Vec) : List Item × Int :=
  if ¬ MayP v then ([], 1) else if (look l n).isNone = true then ([], 2) else if ∀ x ∈ l, x.f0 ∈ up l n → LeP (vadd x.f4 v) x.f2 then (admL l n v, 0) else ([], 12)
theorem vadd_wrap {a b : Vec} (ha : MayP a) (hb : MayP b) : (wrap64 (a.f0 + b.f0), wrap64 (a.f1 + b.f1), wrap64 (a.f2 + b.f2)) = ((vadd a b).f0, (vadd a b).f1, (vadd a b).f2) := by
  have a0 := ha .cpu; have a1 := ha .mem; have a2 := ha .pods
  have b0 := hb .cpu; have b1 := hb .mem; have b2 := hb .pods
  simp only [Comp.of] at a0 a1 a2 b0 b1 b2
  rw [w64 (by omega) (by omega), w64 (by omega) (by omega), w64 (by omega) (by omega)]
  rfl
theorem r10_Add_eq {a b : Vec} (ha : MayP a) (hb : MayP b) : r10_Add.f a.f0 a.f1 a.f2 b.f0 b.f1 b.f2 = some ((vadd a b).f0, (vadd a b).f1, (vadd a b).f2) := by
  unfold r10_Add.f; rw [vadd_wrap ha hb]
theorem look_admS (us : List ByteArray) (v : Vec) (l : List Item) (n : ByteArray) : look (l.map (admS us v)) n = (look l n).map (admS us v) := look_map (f := admS us v) (fun _ => rfl) l n
theorem drop_cons {us : List ByteArray} {i : Nat} (h : i < us.length) : us.drop i = rdOf ByteArray.empty us i :: us.drop (i + 1) := by
  rw [List.drop_eq_getElem_cons h]; simp [rdOf, h]
theorem take_snoc_ {us : List ByteArray} {i : Nat} (h : i < us.length) : us.take (i + 1) = us.take i ++ [rdOf ByteArray.empty us i] := by
  rw [List.take_succ_eq_append_getElem h]; simp [rdOf, h]
theorem fnd_admS (us : List ByteArray) (v : Vec) (l : List Item) (n : ByteArray) : fnd (l.map (admS us v)) n = fnd l n := fnd_map (f := admS us v) (fun _ => rfl) l n
theorem nodup_admS {us : List ByteArray} {v : Vec} {l : List Item} (h : (l.map (·.f0)).Nodup) : ((l.map (admS us v)).map (·.f0)).Nodup := by
  rw [List.map_map]; exact h
theorem r10_Admit_l0 {l : List Item} (hl : RightP l) (n : ByteArray) {v : Vec} (hv : MayP v) (hin : ∃ x, look l n = some x) : ∀ (d i : Nat), (up l n).length - i = d → i ≤ (up l n).length →
    Ev (fun k => r10_Admit.l0 k n (up l n) (l.map (admS ((up l n).take i) v)) i v.f0 v.f1 v.f2) (if ∀ x ∈ l, x.f0 ∈ (up l n).drop i → LeP (vadd x.f4 v) x.f2 then (admL l n v, 0) else ([], 12))
  | 0, i, hd, hi => by
    obtain rfl : i = (up l n).length := by omega
    rw [List.drop_length, List.take_length, if_pos (by simp)]
    obtain ⟨x, hx⟩ := hin
    obtain ⟨hm, hxn⟩ := look_mem hx
    have hlk : look (l.map (admS (up l n) v)) n = some (admS (up l n) v x) := by rw [look_admS, hx]; rfl
    have h0 : 0 ≤ fnd l n := fnd_ge.2 ⟨x, hx⟩
    have h1 : fnd l n < l.length := fnd_lt l n
    obtain ⟨K, hK⟩ := r10_Find_ev (l.map (admS (up l n) v)) n (by rw [List.length_map]; have := hl.len; omega)
    dsimp only at hK
    refine ⟨K + 1, fun k hk => ?_⟩
    obtain ⟨k, rfl⟩ : ∃ m, k = m + 1 := ⟨k - 1, by omega⟩
    have hrd := fnd_rd hlk
    rw [fnd_admS] at hrd
    simp only [r10_Admit.l0]
    rw [if_neg (by omega), hK k (by omega), fnd_admS]
    simp only [Option.bind_some]
    rw [if_pos h0, if_pos (by rw [List.length_map]; omega), hrd, r10_Add_eq (a := (admS (up l n) v x).f3) (hl.ok x hm).own hv]
    simp only [Option.bind_some]
    have hset := set_at (nodup_admS (us := up l n) (v := v) hl.nodup) hlk
    rw [fnd_admS] at hset
    rw [hset, List.map_map]
    congr 2
    unfold admL
    refine List.map_congr_left fun z hz => ?_
    simp only [Function.comp, admF]
    by_cases e : z.f0 = n
    · obtain rfl : z = x := hl.eq_of hz hm (e.trans hxn.symm)
      rw [if_pos (by exact e), if_pos e]
      rfl
    · rw [if_neg (by exact e), if_neg e]
      rfl
  | d + 1, i, hd, hi => by
    have hlt : i < (up l n).length := by omega
    have hc := hl.chainAll n
    have hnd := hc.nodup
    rw [drop_cons hlt]
    have hu : rdOf ByteArray.empty (up l n) i ∈ up l n := by simp [rdOf, hlt]
    obtain ⟨x, hx⟩ := hc.mem_look hu
    obtain ⟨hm, hxn⟩ := look_mem hx
    have hnot : x.f0 ∉ (up l n).take i := by
      rw [hxn]
      rw [← List.take_append_drop i (up l n), drop_cons hlt, List.nodup_append] at hnd
      exact fun q => hnd.2.2 _ q _ (by simp) rfl
    generalize hU : rdOf ByteArray.empty (up l n) i = u at *
    have hlk : look (l.map (admS ((up l n).take i) v)) u = some (admS ((up l n).take i) v x) := by rw [look_admS, hx]; rfl
    have hsame : admS ((up l n).take i) v x = x := by unfold admS; rw [if_neg hnot]
    rw [hsame] at hlk
    have h0 : 0 ≤ fnd l u := fnd_ge.2 ⟨x, hx⟩
    have h1 : fnd l u < l.length := fnd_lt l u
    have hrd := fnd_rd hlk
    have hset := set_at (nodup_admS (us := (up l n).take i) (v := v) hl.nodup) hlk
    rw [fnd_admS] at hrd
    rw [fnd_admS] at hset
    obtain ⟨K, hK⟩ := r10_Find_ev (l.map (admS ((up l n).take i) v)) u (by rw [List.length_map]; have := hl.len; omega)
    obtain ⟨K', hK'⟩ := r10_Admit_l0 hl n hv hin d (i + 1) (by omega) (by omega)
    dsimp only at hK hK'
    refine ⟨K + K' + 1, fun k hk => ?_⟩
    obtain ⟨k, rfl⟩ : ∃ m, k = m + 1 := ⟨k - 1, by omega⟩
    have hup : (up l n).length ≤ l.length := hc.len
    have hlen := hl.len
    simp only [r10_Admit.l0]
    rw [if_pos (by omega), if_pos (by omega), hU, hK k (by omega), fnd_admS]
    simp only [Option.bind_some]
    rw [if_pos h0, if_pos (by rw [List.length_map]; omega), hrd, r10_Add_eq (a := x.f4) (hl.ok x hm).sub hv]
    simp only [Option.bind_some]
    rw [hset, List.map_map]
    have hnew : (l.map ((fun z : Item => if z.f0 = u then (⟨x.f0, x.f1, ⟨x.f2.f0, x.f2.f1, x.f2.f2⟩, ⟨x.f3.f0, x.f3.f1, x.f3.f2⟩, ⟨(vadd x.f4 v).f0, (vadd x.f4 v).f1, (vadd x.f4 v).f2⟩, x.f5⟩ : Item) else z) ∘ admS ((up l n).take i) v)) = l.map (admS ((up l n).take (i + 1)) v) := by
      refine List.map_congr_left fun z hz => ?_
      simp only [Function.comp]
      rw [take_snoc_ hlt, hU]
      by_cases e : z.f0 = u
      · obtain rfl : z = x := hl.eq_of hz hm (e.trans hxn.symm)
        rw [if_pos (by exact e)]
        unfold admS
        rw [if_pos (by simp [e])]
      · rw [if_neg (by exact e)]
        unfold admS
        simp [e]
    rw [hnew]
    have hlk2 : look (l.map (admS ((up l n).take (i + 1)) v)) u = some (admS ((up l n).take (i + 1)) v x) := by rw [look_admS, hx]; rfl
    have hrd2 := fnd_rd hlk2
    rw [fnd_admS] at hrd2
    have hx2 : admS ((up l n).take (i + 1)) v x = ⟨x.f0, x.f1, x.f2, x.f3, vadd x.f4 v, x.f5⟩ := by unfold admS; rw [if_pos (by rw [take_snoc_ hlt, hU, hxn]; simp)]
    rw [hrd2, hx2, r10_Le_eq]
    simp only [Option.bind_some]
    by_cases hfit : LeP (vadd x.f4 v) x.f2
    · rw [if_pos (by exact decide_eq_true hfit), w64 (by omega) (by omega)]
      have h2 := hK' k (by omega)
      rw [show ((i : Int) + 1) = ((i + 1 : Nat) : Int) from by omega, h2]
      congr 1
      refine ite_iff ⟨fun q z hz hzm => ?_, fun q z hz hzm => q z hz (by simp [hzm])⟩
      rcases List.mem_cons.1 hzm with e | hzm
      · obtain rfl : z = x := hl.eq_of hz hm (e.trans hxn.symm)
        exact hfit
      · exact q z hz hzm
    · rw [if_neg (by simpa using hfit), if_neg (fun q => hfit (q x hm (by rw [hxn]; simp)))]
      rfl
theorem r10_Admit_ev {l : List Item} (hl : RightP l) (n : ByteArray) (v : Vec) : Ev (fun k => r10_Admit.f k l n v.f0 v.f1 v.f2) (admR l n v) := by
  have hlen := hl.len
  refine Ev.bind (r10_Up_ev l n (by omega)) ?_
  have hmv : r10_MayVec.f v.f0 v.f1 v.f2 = some (decide (MayP v)) := r10_MayVec_eq _ _ _
  unfold admR
  by_cases hv : MayP v
  · rw [if_neg (by simpa using hv)]
    cases hx : look l n with
    | none =>
      rw [if_pos (show (none : Option Item).isNone = true from rfl)]
      refine Ev.congr (fun k => ?_) (Ev.now _)
      rw [hmv]
      simp only [Option.bind_some]
      rw [if_pos (by exact decide_eq_true hv), show up l n = [] from upGo_none hx _]
      rfl
    | some x =>
      rw [if_neg (by simp)]
      have h := r10_Admit_l0 hl n hv ⟨x, hx⟩ _ 0 rfl (by omega)
      rw [List.take_zero, List.drop_zero, show l.map (admS [] v) = l from by rw [show admS [] v = id from by funext z; simp [admS]]; simp] at h
      refine Ev.congr (fun k => ?_) h
      rw [hmv]
      simp only [Option.bind_some]
      have : (up l n).length ≠ 0 := by have := up_self hx; intro q; rw [List.length_eq_zero_iff.1 q] at this; cases this
      rw [if_pos (by exact decide_eq_true hv), if_neg (by omega), r10_copied_eq l (by omega)]
      rfl
  · rw [if_pos hv]
    refine Ev.congr (fun k => ?_) (Ev.now _)
    rw [hmv]
    simp only [Option.bind_some]
    rw [if_neg (by simpa using hv)]
    rfl
end Go.Proofs.Ytcgefpklljclgaa.Print

namespace Go.Proofs.Ytcgefpklljclgaa.Print
open Go.RowKit Go.Proofs.YtcgefpklljclgaaW.PrintWords Go.Proofs.YtcgefpklljclgaaW.PrintLast
set_option linter.unusedVariables false
set_option linter.unusedSimpArgs false
def Bytes (ns : List Int) : Prop := ∀ x ∈ ns, 0 ≤ x ∧ x ≤ 255
theorem Bytes.rd {ns : List Int} (h : Bytes ns) (i : Int) : 0 ≤ rd ns i ∧ rd ns i ≤ 255 := by
  unfold Go.Proofs.YtcgefpklljclgaaW.PrintWords.rd
  rw [List.getD_eq_getElem?_getD]
  cases e : ns[i.toNat]? with
  | none => simp
  | some x => exact h x (List.mem_of_getElem? e)
/-- a name of one byte -/
def one (c : Int) : ByteArray := strOfNums [c]
structure MadeP (l : List Item) : Prop where
  right : RightP l
  len : l.length ≤ 24
  name : ∀ x ∈ l, ∃ c : Int, 97 ≤ c ∧ c ≤ 120 ∧ x.f0 = one c
  ver : ∀ x ∈ l, x.f5 = 1
  lim : ∀ x ∈ l, ∀ c : Comp, 20 ≤ c.of x.f2 ∧ c.of x.f2 ≤ 275
end Go.Proofs.Ytcgefpklljclgaa.Print

namespace Go.Proofs.Ytcgefpklljclgaa.Print
open Go.RowKit Go.Proofs.YtcgefpklljclgaaW.PrintWords Go.Proofs.YtcgefpklljclgaaW.PrintLast Go.Proofs.YtcgefpklljclgaaW.PrintMore
attribute [local go_sem] max2_int min2_int max_two min_two max_three min_three max_four min_four   -- for this text's walks alone
set_option linter.unusedVariables false
set_option linter.unusedSimpArgs false
end Go.Proofs.Ytcgefpklljclgaa.Print

namespace Go.Proofs.Ytcgefpklljclgaa.Print
open Go.RowKit Go.Proofs.YtcgefpklljclgaaW.PrintWords Go.Proofs.YtcgefpklljclgaaW.PrintLast Go.Proofs.YtcgefpklljclgaaW.PrintMore
attribute [local go_sem] max2_int min2_int max_two min_two max_three min_three max_four min_four   -- for this text's walks alone
set_option linter.unusedVariables false
set_option linter.unusedSimpArgs false
end Go.Proofs.Ytcgefpklljclgaa.Print

namespace Go.Proofs.Ytcgefpklljclgaa.Print
open Go.RowKit Go.Proofs.YtcgefpklljclgaaW.PrintWords Go.Proofs.YtcgefpklljclgaaW.PrintLast Go.Proofs.YtcgefpklljclgaaW.PrintMore
attribute [local go_sem] max2_int min2_int max_two min_two max_three min_three max_four min_four   -- for this text's walks alone
set_option linter.unusedVariables false
set_option linter.unusedSimpArgs false
end Go.Proofs.Ytcgefpklljclgaa.Print

namespace Go.Proofs.Ytcgefpklljclgaa.Print
open Go.RowKit Go.Proofs.YtcgefpklljclgaaW.PrintWords Go.Proofs.YtcgefpklljclgaaW.PrintLast Go.Proofs.YtcgefpklljclgaaW.PrintMore
attribute [local go_sem] max2_int min2_int max_two min_two max_three min_three max_four min_four   -- for this text's walks alone
set_option linter.unusedVariables false
set_option linter.unusedSimpArgs false
end Go.Proofs.Ytcgefpklljclgaa.Print

namespace Go.Proofs.Ytcgefpklljclgaa.Print
open Go.RowKit Go.Proofs.YtcgefpklljclgaaW.PrintWords Go.Proofs.YtcgefpklljclgaaW.PrintLast Go.Proofs.YtcgefpklljclgaaW.PrintMore
attribute [local go_sem] max2_int min2_int max_two min_two max_three min_three max_four min_four   -- for this text's walks alone
set_option linter.unusedVariables false
set_option linter.unusedSimpArgs false
end Go.Proofs.Ytcgefpklljclgaa.Print

namespace Go.Proofs.Ytcgefpklljclgaa.Print
open Go.RowKit Go.Proofs.YtcgefpklljclgaaW.PrintWords Go.Proofs.YtcgefpklljclgaaW.PrintLast Go.Proofs.YtcgefpklljclgaaW.PrintMore
set_option linter.unusedVariables false
set_option linter.unusedSimpArgs false
/-! the program's way up -/
theorem tree_Up_l0 (l : List Item) (hl : l.length < 1000000) : ∀ (m : Nat) (n : ByteArray) (out : List ByteArray), out.length + m = l.length + 1 →
    Ev (fun k => tree_Up.l0 k l out (fnd l n)) (out ++ upGo l m n)
  | 0, n, out, hm => by
    rw [upGo.eq_1, List.append_nil]
    refine Ev.step (f := fun _ => some out) (fun k => ?_) (Ev.now _)
    simp only [tree_Up.l0]
    by_cases h : 0 ≤ fnd l n
    · rw [if_pos h, if_neg (by omega)]
    · rw [if_neg h]
  | m + 1, n, out, hm => by
    cases h : look l n with
    | none =>
      rw [upGo_none h, List.append_nil]
      refine Ev.step (f := fun _ => some out) (fun k => ?_) (Ev.now _)
      simp only [tree_Up.l0]
      rw [fnd_none h, if_neg (by omega)]
    | some x =>
      rw [upGo_some h]
      have h0 := fnd_ge.2 ⟨x, h⟩
      have h1 := fnd_lt l n
      obtain ⟨hx, hn⟩ := look_mem h
      refine Ev.step (f := fun k => tree_Up.l0 k l (out ++ [n]) (fnd l x.f1)) (fun k => ?_) ?_
      · simp only [tree_Up.l0]
        rw [if_pos h0, if_pos (by omega), if_pos h0, if_pos h1, if_pos (by omega), fnd_rd h, hn, tree_Find_eq]
        rfl
      · have := tree_Up_l0 l hl m x.f1 (out ++ [n]) (by simp; omega)
        simpa using this
theorem tree_Up_ev (l : List Item) (n : ByteArray) (hl : l.length < 1000000) : Ev (fun k => tree_Up.f k l n) (up l n) := by
  have := tree_Up_l0 l hl (l.length + 1) n [] (by simp)
  rw [List.nil_append] at this
  exact this
theorem up_in {l : List Item} {n u : ByteArray} (h : u ∈ up l n) : ∃ x, look l u = some x := by
  have : ∀ (m : Nat) (n : ByteArray), u ∈ upGo l m n → ∃ x, look l u = some x := by
    intro m
    induction m with
    | zero => intro n h; cases h
    | succ m ih =>
      intro n h
      cases e : look l n with
      | none => rw [upGo_none e] at h; cases h
      | some x =>
        rw [upGo_some e] at h
        rcases List.mem_cons.1 h with rfl | h
        · exact ⟨x, e⟩
        · exact ih _ h
  exact this _ _ h
theorem vec_Add2 {a b : Vec} (ha : MayP a) (hb : MayP b) : vec_Add.f [a, b] = some (a.f0 + b.f0, a.f1 + b.f1, a.f2 + b.f2) := by
  have a0 := ha .cpu; have a1 := ha .mem; have a2 := ha .pods
  have b0 := hb .cpu; have b1 := hb .mem; have b2 := hb .pods
  simp only [Comp.of] at a0 a1 a2 b0 b1 b2
  simp only [vec_Add.f, vecByF]
  rw [w64 (n := 0 + a.f0) (by omega) (by omega), w64 (n := 0 + a.f1) (by omega) (by omega), w64 (n := 0 + a.f2) (by omega) (by omega), w64 (by omega) (by omega), w64 (by omega) (by omega), w64 (by omega) (by omega), Int.zero_add, Int.zero_add, Int.zero_add]
end Go.Proofs.Ytcgefpklljclgaa.Print

namespace Go.Proofs.Ytcgefpklljclgaa.Print
open Go.RowKit Go.Proofs.YtcgefpklljclgaaW.PrintWords Go.Proofs.YtcgefpklljclgaaW.PrintLast Go.Proofs.YtcgefpklljclgaaW.PrintMore
set_option linter.unusedVariables false
set_option linter.unusedSimpArgs false
/-! letting out -/
def vneg (v : Vec) : Vec := ⟨-v.f0, -v.f1, -v.f2⟩
def relL (l : List Item) (n : ByteArray) (v : Vec) : List Item := admL l n (vneg v)
def relR (l : List Item) (n : ByteArray) (v : Vec) : List Item × Int :=
  if ¬ MayP v then ([], 1) else if (look l n).isNone = true then ([], 2) else if LeP v (rd_T31 l (fnd l n)).f3 then (relL l n v, 0) else ([], 1)
end Go.Proofs.Ytcgefpklljclgaa.Print

namespace Go.Proofs.Ytcgefpklljclgaa.Print
open Go.RowKit Go.Proofs.YtcgefpklljclgaaW.PrintWords Go.Proofs.YtcgefpklljclgaaW.PrintLast Go.Proofs.YtcgefpklljclgaaW.PrintMore
set_option linter.unusedVariables false
set_option linter.unusedSimpArgs false
/-! when a tree is right: place by place -/
def Ok1 (l : List Item) (i : Nat) : Prop := ItemOK (rd_T31 l i) ∧ (0 < i → lt (rd_T31 l ((i : Int) - 1)).f0 (rd_T31 l i).f0 = true) ∧ ((rd_T31 l i).f1 = ⟨#[]⟩ ∨ ∃ y, look l (rd_T31 l i).f1 = some y)
def Ok2 (l : List Item) (i : Nat) : Prop := (∀ c : Comp, c.of (rd_T31 l i).f4 = c.of (rd_T31 l i).f3 + csum c l (rd_T31 l i).f0)
def Ok3 (l : List Item) (i : Nat) : Prop := (up l (rd_T31 l i).f0).length ≤ l.length
theorem rd_get {l : List Item} {i : Nat} (h : i < l.length) : rd_T31 l (i : Int) = l[i] := by rw [rd_item, Int.toNat_natCast]; simp [h]
theorem rd_mem {l : List Item} {i : Nat} (h : i < l.length) : rd_T31 l (i : Int) ∈ l := by rw [rd_get h]; exact List.getElem_mem h
theorem rightP_iff (l : List Item) : RightP l ↔ l.length ≤ 120 ∧ (∀ i, i < l.length → Ok1 l i) ∧ (∀ i, i < l.length → Ok2 l i) ∧ (∀ i, i < l.length → Ok3 l i) := by
  constructor
  · intro h
    refine ⟨h.len, fun i hi => ⟨h.ok _ (rd_mem hi), fun h0 => ?_, h.par _ (rd_mem hi)⟩, fun i hi c => h.sum c _ (rd_mem hi), fun i hi => up_len_iff.2 (h.chain _ (rd_mem hi))⟩
    have := List.pairwise_iff_getElem.1 h.sorted (i - 1) i (by omega) hi (by omega)
    rw [show ((i : Int) - 1) = ((i - 1 : Nat) : Int) from by omega, rd_get (show i - 1 < l.length by omega), rd_get hi]
    exact this
  · rintro ⟨h1, h2, h3, h4⟩
    have hx : ∀ x ∈ l, ∃ i, i < l.length ∧ rd_T31 l (i : Int) = x := fun x hx => by
      obtain ⟨i, hi, e⟩ := List.getElem_of_mem hx
      exact ⟨i, hi, by rw [rd_get hi]; exact e⟩
    refine ⟨h1, fun x hx' => ?_, ?_, fun x hx' => ?_, fun c x hx' => ?_, fun x hx' => ?_⟩
    · obtain ⟨i, hi, rfl⟩ := hx x hx'
      exact (h2 i hi).1
    · rw [List.pairwise_iff_getElem]
      intro i j hi hj hij
      have step : ∀ d : Nat, ∀ hd : i + 1 + d < l.length, lt l[i].f0 (l[i + 1 + d]).f0 = true := by
        intro d
        induction d with
        | zero =>
          intro hd
          have := (h2 (i + 1) (by omega)).2.1 (by omega)
          rw [show (((i + 1 : Nat) : Int) - 1) = (i : Int) from by omega, rd_get hi, rd_get (show i + 1 < l.length by omega)] at this
          exact this
        | succ d ih =>
          intro hd
          have := (h2 (i + 1 + (d + 1)) hd).2.1 (by omega)
          rw [show (((i + 1 + (d + 1) : Nat) : Int) - 1) = ((i + 1 + d : Nat) : Int) from by omega, rd_get (show i + 1 + d < l.length by omega), rd_get hd] at this
          exact lt_trans (ih (by omega)) this
      have := step (j - (i + 1)) (by omega)
      simpa [show i + 1 + (j - (i + 1)) = j by omega] using this
    · obtain ⟨i, hi, rfl⟩ := hx x hx'
      exact (h2 i hi).2.2
    · obtain ⟨i, hi, rfl⟩ := hx x hx'
      exact h3 i hi c
    · obtain ⟨i, hi, rfl⟩ := hx x hx'
      exact up_len_iff.1 (h4 i hi)
end Go.Proofs.Ytcgefpklljclgaa.Print

namespace Go.Proofs.Ytcgefpklljclgaa.Print
open Go.RowKit Go.Proofs.YtcgefpklljclgaaW.PrintWords Go.Proofs.YtcgefpklljclgaaW.PrintLast Go.Proofs.YtcgefpklljclgaaW.PrintMore
attribute [local go_sem] max2_int min2_int max_two min_two max_three min_three max_four min_four   -- for this text's walks alone
set_option linter.unusedVariables false
set_option linter.unusedSimpArgs false
end Go.Proofs.Ytcgefpklljclgaa.Print

namespace Go.Proofs.Ytcgefpklljclgaa.Print
open Go.RowKit Go.Proofs.YtcgefpklljclgaaW.PrintWords Go.Proofs.YtcgefpklljclgaaW.PrintLast Go.Proofs.YtcgefpklljclgaaW.PrintMore
attribute [local go_sem] max2_int min2_int max_two min_two max_three min_three max_four min_four   -- for this text's walks alone
set_option linter.unusedVariables false
set_option linter.unusedSimpArgs false
end Go.Proofs.Ytcgefpklljclgaa.Print

namespace Go.Proofs.Ytcgefpklljclgaa.Print
open Go.RowKit Go.Proofs.YtcgefpklljclgaaW.PrintWords Go.Proofs.YtcgefpklljclgaaW.PrintLast Go.Proofs.YtcgefpklljclgaaW.PrintMore
attribute [local go_sem] max2_int min2_int max_two min_two max_three min_three max_four min_four   -- for this text's walks alone
set_option linter.unusedVariables false
set_option linter.unusedSimpArgs false
end Go.Proofs.Ytcgefpklljclgaa.Print

namespace Go.Proofs.Ytcgefpklljclgaa.Print
open Go.RowKit Go.Proofs.YtcgefpklljclgaaW.PrintWords Go.Proofs.YtcgefpklljclgaaW.PrintLast Go.Proofs.YtcgefpklljclgaaW.PrintMore
attribute [local go_sem] max2_int min2_int max_two min_two max_three min_three max_four min_four   -- for this text's walks alone
set_option linter.unusedVariables false
set_option linter.unusedSimpArgs false
end Go.Proofs.Ytcgefpklljclgaa.Print

namespace Go.Proofs.Ytcgefpklljclgaa.Print
open Go.RowKit Go.Proofs.YtcgefpklljclgaaW.PrintWords Go.Proofs.YtcgefpklljclgaaW.PrintLast Go.Proofs.YtcgefpklljclgaaW.PrintMore
attribute [local go_sem] max2_int min2_int max_two min_two max_three min_three max_four min_four   -- for this text's walks alone
set_option linter.unusedVariables false
set_option linter.unusedSimpArgs false
end Go.Proofs.Ytcgefpklljclgaa.Print

namespace Go.Proofs.Ytcgefpklljclgaa.Print
open Go.RowKit Go.Proofs.YtcgefpklljclgaaW.PrintWords Go.Proofs.YtcgefpklljclgaaW.PrintLast Go.Proofs.YtcgefpklljclgaaW.PrintMore
set_option linter.unusedVariables false
set_option linter.unusedSimpArgs false
def addV (a : Vec) (ws : List Item) : Vec := ⟨a.f0 + sumBy (fun x => x.f4.f0) ws, a.f1 + sumBy (fun x => x.f4.f1) ws, a.f2 + sumBy (fun x => x.f4.f2) ws⟩
theorem addV_nil (a : Vec) : addV a [] = a := by unfold addV; simp [sumBy_nil]
def SmallV (a : Vec) (n : Nat) : Prop := ∀ c : Comp, 0 ≤ c.of a ∧ c.of a ≤ 1099511627776 * n
theorem small_wrap {a b : Vec} {n : Nat} (ha : SmallV a n) (hb : MayP b) (hn : n ≤ 1000) : wrap64 (a.f0 + b.f0) = (vadd a b).f0 ∧ wrap64 (a.f1 + b.f1) = (vadd a b).f1 ∧ wrap64 (a.f2 + b.f2) = (vadd a b).f2 := by
  have a0 := ha .cpu; have a1 := ha .mem; have a2 := ha .pods
  have b0 := hb .cpu; have b1 := hb .mem; have b2 := hb .pods
  simp only [Comp.of] at a0 a1 a2 b0 b1 b2
  exact ⟨w64 (by omega) (by omega), w64 (by omega) (by omega), w64 (by omega) (by omega)⟩
end Go.Proofs.Ytcgefpklljclgaa.Print

namespace Go.Proofs.Ytcgefpklljclgaa.Print
open Go.RowKit Go.Proofs.YtcgefpklljclgaaW.PrintWords Go.Proofs.YtcgefpklljclgaaW.PrintLast Go.Proofs.YtcgefpklljclgaaW.PrintMore
attribute [local go_sem] max2_int min2_int max_two min_two max_three min_three max_four min_four   -- for this text's walks alone
set_option linter.unusedVariables false
set_option linter.unusedSimpArgs false
end Go.Proofs.Ytcgefpklljclgaa.Print

namespace Go.Proofs.Ytcgefpklljclgaa.Print
open Go.RowKit Go.Proofs.YtcgefpklljclgaaW.PrintWords Go.Proofs.YtcgefpklljclgaaW.PrintLast Go.Proofs.YtcgefpklljclgaaW.PrintMore
set_option linter.unusedVariables false
set_option linter.unusedSimpArgs false
theorem sumBy_filter (g : Item → Int) (p : Item → Bool) : ∀ l : List Item, sumBy g (l.filter p) = sumBy (fun x => if p x = true then g x else 0) l
  | [] => rfl
  | x :: l => by
    rw [sumBy_cons]
    by_cases h : p x = true
    · rw [List.filter_cons_of_pos h, sumBy_cons, sumBy_filter g p l, if_pos h]
    · rw [List.filter_cons_of_neg h, sumBy_filter g p l, if_neg h]; omega
end Go.Proofs.Ytcgefpklljclgaa.Print

namespace Go.Proofs.Ytcgefpklljclgaa.Print
open Go.RowKit Go.Proofs.YtcgefpklljclgaaW.PrintWords Go.Proofs.YtcgefpklljclgaaW.PrintLast Go.Proofs.YtcgefpklljclgaaW.PrintMore
set_option linter.unusedVariables false
set_option linter.unusedSimpArgs false
/-! the document's answer of any tree -/
theorem of_addV_ (c : Comp) (a : Vec) (ws : List Item) : c.of (addV a ws) = c.of a + sumBy (fun x => c.of x.f4) ws := by cases c <;> rfl
theorem addV_snoc_ (a : Vec) (ws : List Item) (y : Item) : addV a (ws ++ [y]) = vadd (addV a ws) y.f4 := vec_ext fun c => by
  rw [of_vadd, of_addV_, of_addV_, sumBy_append, sumBy_cons, sumBy_nil]; omega
theorem small_addV_ {a : Vec} {n : Nat} (ha : SmallV a n) {ws : List Item} (hw : ∀ y ∈ ws, MayP y.f4) : SmallV (addV a ws) (n + ws.length) := fun c => by
  have h1 := ha c
  have h2 := sumBy_nonneg (g := fun x => c.of x.f4) (l := ws) (fun y hy => (hw y hy c).1)
  have h3 := sumBy_le (g := fun x => c.of x.f4) (B := 1099511627776) (l := ws) (fun y hy => (hw y hy c).2)
  rw [of_addV_]
  omega
theorem r10_add_small_ {a b : Vec} {n : Nat} (ha : SmallV a n) (hb : MayP b) (hn : n ≤ 1000) : r10_Add.f a.f0 a.f1 a.f2 b.f0 b.f1 b.f2 = some ((vadd a b).f0, (vadd a b).f1, (vadd a b).f2) := by
  obtain ⟨e0, e1, e2⟩ := small_wrap ha hb hn
  unfold r10_Add.f
  rw [e0, e1, e2]
theorem ok2_iff {l : List Item} {i : Nat} {x : Item} (hx : rd_T31 l i = x) : Ok2 l i ↔ addV x.f3 (l.filter (fun y => decide (y.f1 = x.f0))) = x.f4 := by
  have key : ∀ c : Comp, c.of (addV x.f3 (l.filter (fun y => decide (y.f1 = x.f0)))) = c.of x.f3 + csum c l x.f0 := fun c => by
    rw [of_addV_, sumBy_filter]
    simp only [decide_eq_true_eq]
    rfl
  unfold Ok2
  rw [hx]
  constructor
  · intro h
    exact vec_ext fun c => by rw [key c, h c]
  · intro h c
    rw [← key c, h]
theorem r10_full_l2 {l : List Item} (hlen : l.length ≤ 120) (h1 : ∀ i, i < l.length → Ok1 l i) {i : Nat} (hi : i < l.length) {x : Item} (hx : rd_T31 l i = x) {b : Bool} (hno : ¬ (Ok2 l i ∧ Ok3 l i) → b = false)
    (rest : Ok2 l i ∧ Ok3 l i → Ev (fun k => r10_Right.l1 k l ((i + 1 : Nat) : Int)) b) : ∀ (d j : Nat), l.length - j = d → j ≤ l.length →
    Ev (fun k => r10_Right.l2 k l i j (addV x.f3 ((l.take j).filter (fun y => decide (y.f1 = x.f0)))).f0 (addV x.f3 ((l.take j).filter (fun y => decide (y.f1 = x.f0)))).f1 (addV x.f3 ((l.take j).filter (fun y => decide (y.f1 = x.f0)))).f2) b
  | 0, j, hd, hj => by
    obtain rfl : j = l.length := by omega
    rw [List.take_length]
    have hok := ok2_iff (l := l) (i := i) hx
    generalize addV x.f3 (l.filter (fun y => decide (y.f1 = x.f0))) = s at hok
    refine Ev.step (fun k => r10_Right.l2.eq_2 (k := k) ..) ?_
    have e1 : ((i : Int) < (l.length : Int)) = True := eq_true (by omega)
    have e2 : ((0 : Int) ≤ (i : Int)) = True := eq_true (by omega)
    have e3 : wrap64 ((i : Int) + 1) = ((i + 1 : Nat) : Int) := by rw [w64 (by omega) (by omega)]; rfl
    simp only [Int.lt_irrefl, if_false, e1, e2, if_true, hx, e3]
    by_cases hs : s = x.f4
    · subst hs
      refine Ev.congr (fun k => if_neg (by simp)) ?_
      refine Ev.bind (r10_Up_ev l x.f0 (by omega)) ?_
      by_cases hu : (up l x.f0).length ≤ l.length
      · exact Ev.congr (fun k => if_neg (by omega)) (rest ⟨hok.2 rfl, by unfold Ok3; rw [hx]; exact hu⟩)
      · refine Ev.congr (fun k => if_pos (by omega)) ?_
        rw [hno (fun q => hu (by have := q.2; unfold Ok3 at this; rw [hx] at this; exact this))]
        exact Ev.now _
    · refine Ev.congr (fun k => if_pos ?_) ?_
      · have : ¬ (s.f0 = x.f4.f0 ∧ s.f1 = x.f4.f1 ∧ s.f2 = x.f4.f2) := fun ⟨a, b, c⟩ => hs (vec_ext fun d => by cases d <;> assumption)
        by_cases a : s.f0 = x.f4.f0 <;> by_cases b : s.f1 = x.f4.f1 <;> by_cases c : s.f2 = x.f4.f2 <;> simp_all
      · rw [hno (fun q => hs (hok.1 q.1))]
        exact Ev.now _
  | d + 1, j, hd, hj => by
    have hlt : j < l.length := by omega
    have ih := r10_full_l2 hlen h1 hi hx hno rest d (j + 1) (by omega) (by omega)
    have hrd := rd_get hlt
    have hall : ∀ y ∈ l, ItemOK y := fun y hy => by
      obtain ⟨m, hm, e⟩ := List.getElem_of_mem hy
      have := (h1 m hm).1
      rw [rd_get hm, e] at this
      exact this
    have hym : MayP (l[j]).f4 := (hall _ (List.getElem_mem hlt)).sub
    rw [List.take_succ_eq_append_getElem hlt, List.filter_append] at ih
    have hxm : ItemOK x := by rw [← hx]; exact (h1 i hi).1
    have hsm := small_addV_ (a := x.f3) (n := 1) (fun c => by have := hxm.own c; omega) (ws := (l.take j).filter (fun y => decide (y.f1 = x.f0))) (fun y hy => (hall y (List.mem_of_mem_take (List.mem_filter.1 hy).1)).sub)
    have hfl := List.length_filter_le (fun y : Item => decide (y.f1 = x.f0)) (l.take j)
    rw [List.length_take] at hfl
    generalize l[j] = y at hrd ih hym
    refine Ev.step (fun k => r10_Right.l2.eq_2 (k := k) ..) ?_
    have e1 : ((i : Int) < (l.length : Int)) = True := eq_true (by omega)
    have e2 : ((0 : Int) ≤ (i : Int)) = True := eq_true (by omega)
    have e4 : ((j : Int) < (l.length : Int)) = True := eq_true (by omega)
    have e5 : ((0 : Int) ≤ (j : Int)) = True := eq_true (by omega)
    have e3 : wrap64 ((j : Int) + 1) = ((j + 1 : Nat) : Int) := by rw [w64 (by omega) (by omega)]; rfl
    simp only [e1, e2, e4, e5, if_true, hx, hrd, e3]
    by_cases hy : y.f1 = x.f0
    · have e6 : (y.f1.toList = x.f0.toList) = True := eq_true (nm_inj.2 hy)
      rw [List.filter_cons_of_pos (by simpa using hy), List.filter_nil, addV_snoc_] at ih
      simp only [e6, if_true, r10_add_small_ hsm hym (by omega), Option.bind_some]
      exact ih
    · have e6 : (y.f1.toList = x.f0.toList) = False := eq_false (fun q => hy (nm_inj.1 q))
      rw [List.filter_cons_of_neg (by simpa using hy), List.filter_nil, List.append_nil] at ih
      simp only [e6, if_false]
      exact ih
theorem r10_full_l1 {l : List Item} (hlen : l.length ≤ 120) (h1 : ∀ i, i < l.length → Ok1 l i) {b : Bool} (hb : b = true ↔ RightP l) : ∀ (d i : Nat), l.length - i = d → i ≤ l.length → (∀ j, j < i → Ok2 l j ∧ Ok3 l j) → Ev (fun k => r10_Right.l1 k l i) b
  | 0, i, hd, hi, hp => by
    obtain rfl : i = l.length := by omega
    refine Ev.step (fun k => r10_Right.l1.eq_2 (k := k) ..) ?_
    simp only [Int.lt_irrefl, if_false]
    rw [hb.2 ((rightP_iff l).2 ⟨hlen, h1, fun j hj => (hp j hj).1, fun j hj => (hp j hj).2⟩)]
    exact Ev.now _
  | d + 1, i, hd, hi, hp => by
    have hlt : i < l.length := by omega
    refine Ev.step (fun k => r10_Right.l1.eq_2 (k := k) ..) ?_
    have e1 : ((i : Int) < (l.length : Int)) = True := eq_true (by omega)
    have e2 : ((0 : Int) ≤ (i : Int)) = True := eq_true (by omega)
    simp only [e1, e2, if_true]
    have := r10_full_l2 hlen h1 hlt (x := rd_T31 l i) rfl (b := b) (fun q => by
      cases b with
      | false => rfl
      | true =>
        obtain ⟨_, _, a, c⟩ := (rightP_iff l).1 (hb.1 rfl)
        exact absurd ⟨a i hlt, c i hlt⟩ q) (fun q => r10_full_l1 hlen h1 hb d (i + 1) (by omega) (by omega) (fun j hj => by
        by_cases e : j = i
        · rw [e]; exact q
        · exact hp j (by omega))) _ 0 rfl (by omega)
    rw [List.take_zero, List.filter_nil, addV_nil] at this
    exact this
theorem r10_full_l0 {l : List Item} (hlen : l.length ≤ 120) {b : Bool} (hb : b = true ↔ RightP l) : ∀ (d i : Nat), l.length - i = d → i ≤ l.length → (∀ j, j < i → Ok1 l j) → Ev (fun k => r10_Right.l0 k l i) b
  | 0, i, hd, hi, hp => by
    obtain rfl : i = l.length := by omega
    refine Ev.step (fun k => r10_Right.l0.eq_2 (k := k) ..) ?_
    simp only [Int.lt_irrefl, if_false]
    exact r10_full_l1 hlen hp hb _ 0 rfl (by omega) (fun j hj => absurd hj (by omega))
  | d + 1, i, hd, hi, hp => by
    have hlt : i < l.length := by omega
    have hbad : ¬ Ok1 l i → Ev (fun _ => some false) b := fun q => by
      cases b with
      | false => exact Ev.now _
      | true => exact absurd (((rightP_iff l).1 (hb.1 rfl)).2.1 i hlt) q
    have hnext : Ok1 l i → Ev (fun k => r10_Right.l0 k l ((i + 1 : Nat) : Int)) b := fun q => r10_full_l0 hlen hb d (i + 1) (by omega) (by omega) (fun j hj => by
      by_cases e : j = i
      · rw [e]; exact q
      · exact hp j (by omega))
    obtain ⟨x, hx⟩ : ∃ x, rd_T31 l (i : Int) = x := ⟨_, rfl⟩
    have hOk : Ok1 l i ↔ ItemOK x ∧ (0 < i → lt (rd_T31 l ((i : Int) - 1)).f0 x.f0 = true) ∧ (x.f1 = ⟨#[]⟩ ∨ ∃ y, look l x.f1 = some y) := by unfold Ok1; rw [hx]
    have e1 : ((i : Int) < (l.length : Int)) = True := eq_true (by omega)
    have e2 : ((0 : Int) ≤ (i : Int)) = True := eq_true (by omega)
    have e3 : wrap64 ((i : Int) + 1) = ((i + 1 : Nat) : Int) := by rw [w64 (by omega) (by omega)]; rfl
    have n0 : r10_MayName.f x.f0 = some (decide (x.f0 ≠ ⟨#[]⟩ ∧ x.f0.size ≤ 24)) := r10_MayName_eq _
    have n1 : r10_MayVec.f x.f2.f0 x.f2.f1 x.f2.f2 = some (decide (MayP x.f2)) := r10_MayVec_eq _ _ _
    have n2 : r10_MayVec.f x.f3.f0 x.f3.f1 x.f3.f2 = some (decide (MayP x.f3)) := r10_MayVec_eq _ _ _
    have n3 : r10_Le.f x.f4.f0 x.f4.f1 x.f4.f2 x.f2.f0 x.f2.f1 x.f2.f2 = some (decide (LeP x.f4 x.f2)) := r10_Le_eq _ _ _ _ _ _
    have n4 : r10_MayVec.f x.f4.f0 x.f4.f1 x.f4.f2 = some (decide (MayP x.f4)) := r10_MayVec_eq _ _ _
    refine Ev.step (fun k => r10_Right.l0.eq_2 (k := k) ..) ?_
    simp only [e1, e2, if_true, hx, n0, n1, n2, n3, n4, Option.bind_some, e3, decide_eq_true_eq]
    by_cases m0 : x.f0 ≠ ⟨#[]⟩ ∧ x.f0.size ≤ 24
    case neg => exact Ev.congr (fun k => if_neg m0) (hbad fun q => m0 ⟨(hOk.1 q).1.name, (hOk.1 q).1.size⟩)
    refine Ev.congr (fun k => if_pos m0) ?_
    have hver : (0 < i → lt (rd_T31 l ((i : Int) - 1)).f0 x.f0 = true) → MayP x.f2 → MayP x.f3 → (x.f1 = ⟨#[]⟩ ∨ ∃ y, look l x.f1 = some y) →
        Ev (fun k => if x.f5 < 1 then some false else if x.f5 > 9007199254740992 then some false else if LeP x.f4 x.f2 then (if MayP x.f4 then r10_Right.l0 k l ((i + 1 : Nat) : Int) else some false) else some false) b := fun ho ml mo hpar => by
      by_cases v1 : x.f5 < 1
      · exact Ev.congr (fun k => if_pos v1) (hbad fun q => by have := (hOk.1 q).1.ver; omega)
      refine Ev.congr (fun k => if_neg v1) ?_
      by_cases v2 : x.f5 > 9007199254740992
      · exact Ev.congr (fun k => if_pos v2) (hbad fun q => by have := (hOk.1 q).1.ver; omega)
      refine Ev.congr (fun k => if_neg v2) ?_
      by_cases v3 : LeP x.f4 x.f2
      case neg => exact Ev.congr (fun k => if_neg v3) (hbad fun q => v3 (hOk.1 q).1.fit)
      refine Ev.congr (fun k => if_pos v3) ?_
      by_cases v4 : MayP x.f4
      case neg => exact Ev.congr (fun k => if_neg v4) (hbad fun q => v4 (hOk.1 q).1.sub)
      exact Ev.congr (fun k => if_pos v4) (hnext (hOk.2 ⟨⟨m0.1, m0.2, ml, mo, v4, v3, by omega⟩, ho, hpar⟩))
    have hpar : (0 < i → lt (rd_T31 l ((i : Int) - 1)).f0 x.f0 = true) → Ev (fun k => if MayP x.f2 then (if MayP x.f3 then (if x.f1.toList = ([] : List UInt8) then (if x.f5 < 1 then some false else if x.f5 > 9007199254740992 then some false else if LeP x.f4 x.f2 then (if MayP x.f4 then r10_Right.l0 k l ((i + 1 : Nat) : Int) else some false) else some false) else ((r10_Find.f k l x.f1).bind fun t9 => (if t9 < 0 then some false else (if x.f5 < 1 then some false else if x.f5 > 9007199254740992 then some false else if LeP x.f4 x.f2 then (if MayP x.f4 then r10_Right.l0 k l ((i + 1 : Nat) : Int) else some false) else some false)))) else some false) else some false) b := fun ho => by
      by_cases ml : MayP x.f2
      case neg => exact Ev.congr (fun k => if_neg ml) (hbad fun q => ml (hOk.1 q).1.lim)
      refine Ev.congr (fun k => if_pos ml) ?_
      by_cases mo : MayP x.f3
      case neg => exact Ev.congr (fun k => if_neg mo) (hbad fun q => mo (hOk.1 q).1.own)
      refine Ev.congr (fun k => if_pos mo) ?_
      by_cases hp : x.f1 = ⟨#[]⟩
      · exact Ev.congr (fun k => if_pos (nm_empty.2 hp)) (hver ho ml mo (.inl hp))
      · refine Ev.congr (fun k => if_neg (fun z => hp (nm_empty.1 z))) (Ev.bind (r10_Find_ev l x.f1 (by omega)) ?_)
        by_cases hf : fnd l x.f1 < 0
        · refine Ev.congr (fun k => if_pos hf) (hbad fun q => ?_)
          rcases (hOk.1 q).2.2 with z | ⟨y, hy⟩
          · exact hp z
          · rw [fnd_neg.1 hf] at hy; cases hy
        · exact Ev.congr (fun k => if_neg hf) (hver ho ml mo (.inr (fnd_ge.1 (by omega))))
    by_cases hi0 : (i : Int) > 0
    · have e4 : wrap64 ((i : Int) - 1) = (i : Int) - 1 := w64 (by omega) (by omega)
      have e5 : ((i : Int) > 0) = True := eq_true hi0
      have e6 : (0 ≤ (i : Int) - 1) = True := eq_true (by omega)
      have e7 : ((i : Int) - 1 < (l.length : Int)) = True := eq_true (by omega)
      simp only [e4, e5, e6, e7, if_true]
      by_cases m2 : lt (rd_T31 l ((i : Int) - 1)).f0 x.f0 = true
      · exact Ev.congr (fun k => if_pos m2) (hpar (fun _ => m2))
      · exact Ev.congr (fun k => if_neg m2) (hbad fun q => m2 ((hOk.1 q).2.1 (by omega)))
    · have e5 : ((i : Int) > 0) = False := eq_false hi0
      simp only [e5, if_false]
      exact hpar (fun q => absurd q (by omega))
theorem r10_Right_ev (l : List Item) {b : Bool} (hb : b = true ↔ RightP l) : Ev (fun k => r10_Right.f k l) b := by
  unfold r10_Right.f
  by_cases h : (l.length : Int) > 120
  · refine Ev.congr (fun k => if_pos h) ?_
    cases b with
    | false => exact Ev.now _
    | true => exact absurd (hb.1 rfl).len (by omega)
  · exact Ev.congr (fun k => if_neg h) (r10_full_l0 (by omega) hb _ 0 rfl (by omega) (fun j hj => absurd hj (by omega)))
end Go.Proofs.Ytcgefpklljclgaa.Print

namespace Go.Proofs.Ytcgefpklljclgaa.Print
open Go.RowKit Go.Proofs.YtcgefpklljclgaaW.PrintWords Go.Proofs.YtcgefpklljclgaaW.PrintLast Go.Proofs.YtcgefpklljclgaaW.PrintMore
set_option linter.unusedVariables false
set_option linter.unusedSimpArgs false
/-! more than a statement goes through? -/
theorem great_l0 (l : List Item) : ∀ (d i : Nat), 150 - i = d → i ≤ 150 → i ≤ l.length → ∃ g, Ev (fun k => law12_Great.l0 k l i) g ∧ (g = false → l.length ≤ 130)
  | 0, i, hd, hi, hl => by
    obtain rfl : i = 150 := by omega
    have hj : Ev (fun k => law12_Great.j1 k l ((150 : Nat) : Int) false) (decide ((l.length : Int) > 130)) := by
      refine Ev.step (fun k => law12_Great.j1.eq_2 (k := k) ..) ?_
      simp only [Bool.false_eq_true, if_false]
      exact Ev.now _
    refine ⟨decide ((l.length : Int) > 130), ?_, fun h => by have := of_decide_eq_false h; omega⟩
    refine Ev.step (fun k => law12_Great.l0.eq_2 (k := k) ..) ?_
    rw [show decide (((150 : Nat) : Int) < 150) = false from by decide]
    by_cases h : ((150 : Nat) : Int) < (l.length : Int)
    · exact Ev.congr (fun k => if_pos h) hj
    · exact Ev.congr (fun k => if_neg h) hj
  | d + 1, i, hd, hi, hl => by
    by_cases h : (i : Int) < (l.length : Int)
    · have hj : ∃ g, Ev (fun k => law12_Great.j1 k l (i : Int) true) g ∧ (g = false → l.length ≤ 130) := by
        have e1 : ((0 : Int) ≤ (i : Int)) = True := eq_true (by omega)
        have e2 : ((i : Int) < (l.length : Int)) = True := eq_true h
        have e3 : wrap64 ((i : Int) + 1) = ((i + 1 : Nat) : Int) := by rw [w64 (by omega) (by omega)]; rfl
        by_cases h1 : ((rd_T31 l (i : Int)).f0.size : Int) > 100
        · refine ⟨true, ?_, fun q => by cases q⟩
          refine Ev.step (fun k => law12_Great.j1.eq_2 (k := k) ..) ?_
          simp only [e1, e2, if_true]
          exact Ev.congr (fun k => if_pos h1) (Ev.now _)
        by_cases h2 : ((rd_T31 l (i : Int)).f1.size : Int) > 100
        · refine ⟨true, ?_, fun q => by cases q⟩
          refine Ev.step (fun k => law12_Great.j1.eq_2 (k := k) ..) ?_
          simp only [e1, e2, if_true]
          exact Ev.congr (fun k => (if_neg h1).trans (if_pos h2)) (Ev.now _)
        · obtain ⟨g, hg, hg2⟩ := great_l0 l d (i + 1) (by omega) (by omega) (by omega)
          refine ⟨g, ?_, hg2⟩
          refine Ev.step (fun k => law12_Great.j1.eq_2 (k := k) ..) ?_
          simp only [e1, e2, e3, if_true]
          exact Ev.congr (fun k => (if_neg h1).trans (if_neg h2)) hg
      obtain ⟨g, hg, hg2⟩ := hj
      refine ⟨g, ?_, hg2⟩
      refine Ev.step (fun k => law12_Great.l0.eq_2 (k := k) ..) ?_
      rw [show decide ((i : Int) < 150) = true from decide_eq_true (by omega)]
      exact Ev.congr (fun k => if_pos h) hg
    · refine ⟨decide ((l.length : Int) > 130), ?_, fun h => by have := of_decide_eq_false h; omega⟩
      refine Ev.step (fun k => law12_Great.l0.eq_2 (k := k) ..) ?_
      refine Ev.congr (fun k => if_neg h) ?_
      refine Ev.step (fun k => law12_Great.j1.eq_2 (k := k) ..) ?_
      simp only [Bool.false_eq_true, if_false]
      exact Ev.now _
theorem great_ev (l : List Item) : ∃ g, Ev (fun k => law12_Great.f k l) g ∧ (g = false → l.length ≤ 130) := great_l0 l _ 0 rfl (by omega) (by omega)
/-- the document's answer, true or not -/
theorem r10_Right_some (l : List Item) : ∃ b, Ev (fun k => r10_Right.f k l) b ∧ (b = true ↔ RightP l) := by
  by_cases h : RightP l
  · exact ⟨true, r10_Right_ev l (by simp [h]), by simp [h]⟩
  · exact ⟨false, r10_Right_ev l (by simp [h]), by simp [h]⟩
end Go.Proofs.Ytcgefpklljclgaa.Print

namespace Go.Proofs.Ytcgefpklljclgaa.Print
open Go.RowKit Go.Proofs.YtcgefpklljclgaaW.PrintWords Go.Proofs.YtcgefpklljclgaaW.PrintLast Go.Proofs.YtcgefpklljclgaaW.PrintMore
set_option linter.unusedVariables false
set_option linter.unusedSimpArgs false
/-! letting in, as the program does it -/
theorem vec_Le_eq (a b d a' b' d' : Int) : vec_Le.f a b d a' b' d' = some (decide (LeP ⟨a, b, d⟩ ⟨a', b', d'⟩)) := by
  unfold vec_Le.f
  by_cases h0 : a ≤ a' <;> by_cases h1 : b ≤ b' <;> simp [h0, h1, leP_iff]
theorem leV_dec (a b : Vec) : leV a b = decide (LeP a b) := by
  have := (leV_eq a b).symm.trans (vec_Le_eq _ _ _ _ _ _)
  exact Option.some.inj this
theorem vec_May_eq (a b d : Int) : vec_May.f a b d = some (decide (MayP ⟨a, b, d⟩)) := by
  unfold vec_May.f vec_Most.f
  simp only [vec_Le_eq, Option.bind_some]
  by_cases h : LeP ⟨0, 0, 0⟩ ⟨a, b, d⟩
  · rw [if_pos (by exact decide_eq_true h)]
    congr 1
    rw [Bool.eq_iff_iff, decide_eq_true_iff, decide_eq_true_iff, mayP_iff, leP_iff]
    rw [leP_iff] at h
    constructor <;> intro k <;> omega
  · rw [if_neg (by simpa using h)]
    congr 1
    symm
    rw [decide_eq_false_iff_not, mayP_iff]
    rw [leP_iff] at h
    omega
theorem opAdd_eq {a v : Vec} (ha : MayP a) (hv : MayP v) : opAdd v a = vadd a v := by
  unfold opAdd
  rw [vec_Add2 ha hv]
  rfl
theorem found_up (l : List Item) (us : List ByteArray) (h : ∀ u ∈ us, ∃ x, look l u = some x) : found l us = true := by
  unfold found
  rw [List.all_eq_true]
  intro u hu
  have h0 := fnd_ge.2 (h u hu)
  have h1 := fnd_lt l u
  rw [tree_Find_eq, Option.getD_some]
  simp [h0, h1]
theorem admAllF_eq {l : List Item} (p : Item → Bool) (us : List ByteArray) (h : ∀ u ∈ us, ∃ x, look l u = some x) : admAllF p l us = some (us.all fun s => p (rd_T31 l (fnd l s))) := by
  unfold admAllF
  exact if_pos (found_up l us h)
theorem setAt_map {l : List Item} (hn : (l.map (·.f0)).Nodup) (f g : Item → Item) (hg : ∀ x, (g x).f0 = x.f0) {u : ByteArray} {x : Item} (h : look l u = some x) :
    setAt f (l.map g) (fnd l u) = l.map (fun z => if z.f0 = u then f (g z) else g z) := by
  have hlk : look (l.map g) u = some (g x) := by rw [look_map hg, h]; rfl
  have hn' : ((l.map g).map (·.f0)).Nodup := by rw [List.map_map, show ((fun x : Item => x.f0) ∘ g) = (fun x => x.f0) from funext hg]; exact hn
  obtain ⟨hx, hxu⟩ := look_mem h
  have h2 := set_at hn' hlk (f (g x))
  have h3 := fnd_rd hlk
  rw [fnd_map hg] at h2 h3
  unfold setAt
  rw [h3, h2, List.map_map]
  refine List.map_congr_left fun z hz => ?_
  simp only [Function.comp, hg]
  by_cases e : z.f0 = u
  · have : z = x := by
      have h4 := look_of_mem hn hz
      rw [e, h] at h4
      exact (Option.some.inj h4).symm
    rw [if_pos e, if_pos e, this]
  · rw [if_neg e, if_neg e]
def subM (op : Vec → Vec) (us : List ByteArray) (x : Item) : Item := if x.f0 ∈ us then subF op x else x
theorem subM_name (op : Vec → Vec) (us : List ByteArray) (x : Item) : (subM op us x).f0 = x.f0 := by unfold subM; split <;> rfl
theorem subs_map {l : List Item} (hn : (l.map (·.f0)).Nodup) (op : Vec → Vec) (us : List ByteArray) (hu : us.Nodup) (h : ∀ u ∈ us, ∃ x, look l u = some x) : subs op l us l = l.map (subM op us) := by
  have : ∀ i : Nat, i ≤ us.length → subs op l (us.take i) l = l.map (subM op (us.take i)) := by
    intro i
    induction i with
    | zero =>
      intro _
      show l = _
      rw [List.take_zero, show subM op [] = id from funext fun x => by simp [subM]]
      simp
    | succ i ih =>
      intro hi
      have hlt : i < us.length := by omega
      have hmem : rdOf ByteArray.empty us i ∈ us := by simp [rdOf, hlt]
      obtain ⟨x, hx⟩ := h _ hmem
      have hnot : rdOf ByteArray.empty us i ∉ us.take i := by
        rw [← List.take_append_drop i us, drop_cons hlt, List.nodup_append] at hu
        exact fun q => hu.2.2 _ q _ (by simp) rfl
      rw [subs_take op l us l i hlt, ih (by omega), tree_Find_eq, Option.getD_some, setAt_map hn _ _ (subM_name op _) hx]
      refine List.map_congr_left fun z hz => ?_
      by_cases e : z.f0 = rdOf ByteArray.empty us i
      · rw [if_pos e]
        have e1 : subM op (us.take i) z = z := by unfold subM; rw [if_neg (by rw [e]; exact hnot)]
        rw [e1]
        unfold subM
        rw [if_pos (by rw [take_snoc_ hlt, e]; simp)]
      · rw [if_neg e]
        unfold subM
        rw [take_snoc_ hlt]
        simp [e]
  have h2 := this us.length (Nat.le_refl _)
  rw [List.take_length] at h2
  exact h2
theorem slices_Clone_eq (l : List Item) (h : l.length < 1000000) : slices_Clone_Item.f l = some l := by
  unfold slices_Clone_Item.f; rw [if_pos (by omega)]
def chgF (op : Vec → Vec) (us : List ByteArray) (n : ByteArray) (x : Item) : Item := ⟨x.f0, x.f1, x.f2, if x.f0 = n then op x.f3 else x.f3, if x.f0 ∈ us then op x.f4 else x.f4, x.f5⟩
theorem changedF_eq {l : List Item} (hl : RightP l) (op : Vec → Vec) {n : ByteArray} {x : Item} (hx : look l n = some x) : changedF op l (up l n) = some (l.map (chgF op (up l n) n)) := by
  have hin : ∀ u ∈ up l n, ∃ x, look l u = some x := fun u hu => up_in hu
  have hhead : rdOf ByteArray.empty (up l n) 0 = n := by unfold up; rw [upGo_some hx]; rfl
  have hpos : 0 < (up l n).length := by have := up_self hx; exact List.length_pos_of_mem this
  have hlen := hl.len
  unfold changedF
  rw [if_pos ⟨found_up l _ hin, hpos⟩, slices_Clone_eq l (by omega)]
  simp only [Option.bind_some]
  rw [subs_map hl.nodup op _ (hl.chainAll n).nodup hin, hhead, tree_Find_eq, Option.getD_some, setAt_map hl.nodup _ _ (subM_name op _) hx]
  congr 1
  refine List.map_congr_left fun z hz => ?_
  unfold subM chgF ownF subF
  by_cases e : z.f0 = n
  · have hm : z.f0 ∈ up l n := by rw [e]; exact up_self hx
    simp [e] at hm ⊢
    simp [hm, e]
  · by_cases hm : z.f0 ∈ up l n <;> simp [e, hm]
theorem all_up {l : List Item} (hl : RightP l) (n : ByteArray) (p : Item → Bool) : ((up l n).all fun s => p (rd_T31 l (fnd l s))) = decide (∀ x ∈ l, x.f0 ∈ up l n → p x = true) := by
  rw [Bool.eq_iff_iff, decide_eq_true_iff, List.all_eq_true]
  constructor
  · intro h x hx hm
    have := h _ hm
    rwa [fnd_rd (hl.look hx)] at this
  · intro h s hs
    obtain ⟨x, hx⟩ := up_in hs
    obtain ⟨h1, rfl⟩ := look_mem hx
    rw [fnd_rd hx]
    exact h x h1 hs
theorem admit_Admit_ev {l : List Item} (hl : RightP l) (n : ByteArray) (v : Vec) : Ev (fun k => admit_Admit.f k l n v.f0 v.f1 v.f2) (admR l n v) := by
  have hlen := hl.len
  refine Ev.bind (tree_Up_ev l n (by omega)) ?_
  have hmv : vec_May.f v.f0 v.f1 v.f2 = some (decide (MayP v)) := vec_May_eq _ _ _
  refine Ev.congr (fun k => ?_) (Ev.now _)
  rw [hmv]
  simp only [Option.bind_some]
  unfold admR
  by_cases hv : MayP v
  · rw [if_pos (by exact decide_eq_true hv), if_neg (show ¬ ¬ MayP v from fun q => q hv)]
    cases hx : look l n with
    | none =>
      rw [if_pos (by rw [show up l n = [] from upGo_none hx _]; rfl), if_pos (show (none : Option Item).isNone = true from rfl)]
    | some x =>
      have hpos : 0 < (up l n).length := by have := up_self hx; exact List.length_pos_of_mem this
      rw [if_neg (by omega), if_neg (by simp), admAllF_eq _ _ (fun u hu => up_in hu), show ((up l n).all fun s => leV (opAdd ⟨v.f0, v.f1, v.f2⟩ (rd_T31 l (fnd l s)).f4) (rd_T31 l (fnd l s)).f2) = _ from all_up hl n (fun x => leV (opAdd ⟨v.f0, v.f1, v.f2⟩ x.f4) x.f2)]
      simp only [Option.bind_some]
      have e : (∀ y ∈ l, y.f0 ∈ up l n → leV (opAdd ⟨v.f0, v.f1, v.f2⟩ y.f4) y.f2 = true) ↔ (∀ y ∈ l, y.f0 ∈ up l n → LeP (vadd y.f4 v) y.f2) := by
        constructor <;> intro h y hy hm <;> have := h y hy hm
        · rw [opAdd_eq (v := ⟨v.f0, v.f1, v.f2⟩) (hl.ok y hy).sub hv, leV_dec, decide_eq_true_iff] at this
          exact this
        · rw [opAdd_eq (v := ⟨v.f0, v.f1, v.f2⟩) (hl.ok y hy).sub hv, leV_dec, decide_eq_true_iff]
          exact this
      by_cases hf : ∀ y ∈ l, y.f0 ∈ up l n → LeP (vadd y.f4 v) y.f2
      · rw [if_pos hf, if_pos (decide_eq_true (e.2 hf)), changedF_eq hl _ hx]
        simp only [Option.bind_some]
        congr 2
        unfold admL
        refine List.map_congr_left fun z hz => ?_
        unfold chgF admF
        rw [opAdd_eq (v := ⟨v.f0, v.f1, v.f2⟩) (hl.ok z hz).sub hv, opAdd_eq (v := ⟨v.f0, v.f1, v.f2⟩) (hl.ok z hz).own hv]
      · rw [if_neg hf, if_neg (fun q => hf (e.1 (of_decide_eq_true q)))]
  · rw [if_neg (by simpa using hv), if_pos hv]
/-! one tree and another -/
theorem r10_Same_l0 (l : List Item) (hl : l.length < 1000000) : ∀ (d i : Nat), l.length - i = d → i ≤ l.length → Ev (fun k => r10_SameItems.l0 k l l i) true
  | 0, i, hd, hi => by
    refine Ev.step (f := fun _ => some true) (fun k => ?_) (Ev.now _)
    simp only [r10_SameItems.l0]
    rw [if_neg (by omega)]
  | d + 1, i, hd, hi => by
    refine Ev.step (f := fun k => r10_SameItems.l0 k l l ((i + 1 : Nat) : Int)) (fun k => ?_) (r10_Same_l0 l hl d (i + 1) (by omega) (by omega))
    simp only [r10_SameItems.l0]
    rw [if_pos (by omega), if_pos (by omega), if_pos (by omega), if_neg (by simp), w64 (by omega) (by omega)]
    rfl
theorem r10_Same_refl (l : List Item) (hl : l.length < 1000000) : Ev (fun k => r10_SameItems.f k l l) true :=
  Ev.congr (fun k => if_pos rfl) (r10_Same_l0 l hl _ 0 rfl (by omega))
end Go.Proofs.Ytcgefpklljclgaa.Print

namespace Go.Proofs.Ytcgefpklljclgaa.Print
open Go.RowKit Go.Proofs.YtcgefpklljclgaaW.PrintWords Go.Proofs.YtcgefpklljclgaaW.PrintLast Go.Proofs.YtcgefpklljclgaaW.PrintMore
set_option linter.unusedVariables false
set_option linter.unusedSimpArgs false
/-! letting out: the document's answer, and the program's -/
theorem sub_wrap {a b : Vec} (ha : MayP a) (hb : MayP b) : (wrap64 (a.f0 - b.f0), wrap64 (a.f1 - b.f1), wrap64 (a.f2 - b.f2)) = ((vadd a (vneg b)).f0, (vadd a (vneg b)).f1, (vadd a (vneg b)).f2) := by
  have a0 := ha .cpu; have a1 := ha .mem; have a2 := ha .pods
  have b0 := hb .cpu; have b1 := hb .mem; have b2 := hb .pods
  simp only [Comp.of] at a0 a1 a2 b0 b1 b2
  rw [w64 (by omega) (by omega), w64 (by omega) (by omega), w64 (by omega) (by omega)]
  rfl
theorem r10_Sub_eq' {a b : Vec} (ha : MayP a) (hb : MayP b) : r10_Sub.f a.f0 a.f1 a.f2 b.f0 b.f1 b.f2 = some ((vadd a (vneg b)).f0, (vadd a (vneg b)).f1, (vadd a (vneg b)).f2) := by
  unfold r10_Sub.f; rw [sub_wrap ha hb]
theorem opSub_eq {a v : Vec} (ha : MayP a) (hv : MayP v) : opSub v a = vadd a (vneg v) := by
  have := sub_wrap ha hv
  simp only [Prod.mk.injEq] at this
  unfold opSub
  rw [this.1, this.2.1, this.2.2]
theorem r10_Release_l0 {l : List Item} (hl : RightP l) (n : ByteArray) {v : Vec} (hv : MayP v) (hin : ∃ x, look l n = some x) : ∀ (d i : Nat), (up l n).length - i = d → i ≤ (up l n).length →
    Ev (fun k => r10_Release.l0 k n (up l n) (l.map (admS ((up l n).take i) (vneg v))) i v.f0 v.f1 v.f2) (relL l n v, 0)
  | 0, i, hd, hi => by
    obtain rfl : i = (up l n).length := by omega
    rw [List.take_length]
    obtain ⟨x, hx⟩ := hin
    obtain ⟨hm, hxn⟩ := look_mem hx
    have hlk : look (l.map (admS (up l n) (vneg v))) n = some (admS (up l n) (vneg v) x) := by rw [look_admS, hx]; rfl
    have h0 : 0 ≤ fnd l n := fnd_ge.2 ⟨x, hx⟩
    have h1 : fnd l n < l.length := fnd_lt l n
    obtain ⟨K, hK⟩ := r10_Find_ev (l.map (admS (up l n) (vneg v))) n (by rw [List.length_map]; have := hl.len; omega)
    dsimp only at hK
    refine ⟨K + 1, fun k hk => ?_⟩
    obtain ⟨k, rfl⟩ : ∃ m, k = m + 1 := ⟨k - 1, by omega⟩
    have hrd := fnd_rd hlk
    rw [fnd_admS] at hrd
    simp only [r10_Release.l0]
    rw [if_neg (by omega), hK k (by omega), fnd_admS]
    simp only [Option.bind_some]
    rw [if_pos h0, if_pos (by rw [List.length_map]; omega), hrd, r10_Sub_eq' (a := (admS (up l n) (vneg v) x).f3) (hl.ok x hm).own hv]
    simp only [Option.bind_some]
    have hset := set_at (nodup_admS (us := up l n) (v := vneg v) hl.nodup) hlk
    rw [fnd_admS] at hset
    rw [hset, List.map_map]
    congr 2
    unfold relL admL
    refine List.map_congr_left fun z hz => ?_
    simp only [Function.comp, admF]
    by_cases e : z.f0 = n
    · obtain rfl : z = x := hl.eq_of hz hm (e.trans hxn.symm)
      rw [if_pos (by exact e), if_pos e]
      rfl
    · rw [if_neg (by exact e), if_neg e]
      rfl
  | d + 1, i, hd, hi => by
    have hlt : i < (up l n).length := by omega
    have hc := hl.chainAll n
    have hnd := hc.nodup
    have hu : rdOf ByteArray.empty (up l n) i ∈ up l n := by simp [rdOf, hlt]
    obtain ⟨x, hx⟩ := hc.mem_look hu
    obtain ⟨hm, hxn⟩ := look_mem hx
    have hnot : x.f0 ∉ (up l n).take i := by
      rw [hxn]
      rw [← List.take_append_drop i (up l n), drop_cons hlt, List.nodup_append] at hnd
      exact fun q => hnd.2.2 _ q _ (by simp) rfl
    generalize hU : rdOf ByteArray.empty (up l n) i = u at *
    have hlk : look (l.map (admS ((up l n).take i) (vneg v))) u = some (admS ((up l n).take i) (vneg v) x) := by rw [look_admS, hx]; rfl
    have hsame : admS ((up l n).take i) (vneg v) x = x := by unfold admS; rw [if_neg hnot]
    rw [hsame] at hlk
    have h0 : 0 ≤ fnd l u := fnd_ge.2 ⟨x, hx⟩
    have h1 : fnd l u < l.length := fnd_lt l u
    have hrd := fnd_rd hlk
    have hset := set_at (nodup_admS (us := (up l n).take i) (v := vneg v) hl.nodup) hlk
    rw [fnd_admS] at hrd
    rw [fnd_admS] at hset
    obtain ⟨K, hK⟩ := r10_Find_ev (l.map (admS ((up l n).take i) (vneg v))) u (by rw [List.length_map]; have := hl.len; omega)
    obtain ⟨K', hK'⟩ := r10_Release_l0 hl n hv hin d (i + 1) (by omega) (by omega)
    dsimp only at hK hK'
    refine ⟨K + K' + 1, fun k hk => ?_⟩
    obtain ⟨k, rfl⟩ : ∃ m, k = m + 1 := ⟨k - 1, by omega⟩
    have hup : (up l n).length ≤ l.length := hc.len
    have hlen := hl.len
    simp only [r10_Release.l0]
    rw [if_pos (by omega), if_pos (by omega), hU, hK k (by omega), fnd_admS]
    simp only [Option.bind_some]
    rw [if_pos h0, if_pos (by rw [List.length_map]; omega), hrd, r10_Sub_eq' (a := x.f4) (hl.ok x hm).sub hv]
    simp only [Option.bind_some]
    rw [hset, List.map_map]
    have hnew : (l.map ((fun z : Item => if z.f0 = u then (⟨x.f0, x.f1, ⟨x.f2.f0, x.f2.f1, x.f2.f2⟩, ⟨x.f3.f0, x.f3.f1, x.f3.f2⟩, ⟨(vadd x.f4 (vneg v)).f0, (vadd x.f4 (vneg v)).f1, (vadd x.f4 (vneg v)).f2⟩, x.f5⟩ : Item) else z) ∘ admS ((up l n).take i) (vneg v))) = l.map (admS ((up l n).take (i + 1)) (vneg v)) := by
      refine List.map_congr_left fun z hz => ?_
      simp only [Function.comp]
      rw [take_snoc_ hlt, hU]
      by_cases e : z.f0 = u
      · obtain rfl : z = x := hl.eq_of hz hm (e.trans hxn.symm)
        rw [if_pos (by exact e)]
        unfold admS
        rw [if_pos (by simp [e])]
      · rw [if_neg (by exact e)]
        unfold admS
        simp [e]
    rw [hnew, w64 (by omega) (by omega)]
    exact hK' k (by omega)
theorem r10_Release_ev {l : List Item} (hl : RightP l) (n : ByteArray) (v : Vec) : Ev (fun k => r10_Release.f k l n v.f0 v.f1 v.f2) (relR l n v) := by
  have hlen := hl.len
  refine Ev.bind (r10_Up_ev l n (by omega)) ?_
  have hmv : r10_MayVec.f v.f0 v.f1 v.f2 = some (decide (MayP v)) := r10_MayVec_eq _ _ _
  unfold relR
  by_cases hv : MayP v
  · rw [if_neg (by simpa using hv)]
    cases hx : look l n with
    | none =>
      rw [if_pos (show (none : Option Item).isNone = true from rfl)]
      refine Ev.congr (fun k => ?_) (Ev.now _)
      rw [hmv]
      simp only [Option.bind_some]
      rw [if_pos (by exact decide_eq_true hv), show up l n = [] from upGo_none hx _]
      rfl
    | some x =>
      rw [if_neg (by simp)]
      have hz : ((up l n).length : Int) ≠ 0 := by have := up_self hx; intro q; rw [List.length_eq_zero_iff.1 (by omega : (up l n).length = 0)] at this; cases this
      have h0 := fnd_ge.2 ⟨x, hx⟩
      have h1 := fnd_lt l n
      have e1 : (decide (MayP v) = true) = True := eq_true (decide_eq_true hv)
      have e2 : (((up l n).length : Int) = 0) = False := eq_false hz
      have e3 : (0 ≤ fnd l n) = True := eq_true h0
      have e4 : (fnd l n < (l.length : Int)) = True := eq_true h1
      have e5 : r10_Le.f v.f0 v.f1 v.f2 x.f3.f0 x.f3.f1 x.f3.f2 = some (decide (LeP v x.f3)) := r10_Le_eq _ _ _ _ _ _
      simp only [hmv, Option.bind_some, e1, if_true, e2, if_false]
      refine Ev.bind (r10_Find_ev l n (by omega)) ?_
      simp only [e3, e4, if_true, fnd_rd hx, e5, Option.bind_some, r10_copied_eq l (by omega)]
      by_cases hle : LeP v x.f3
      · rw [if_pos hle]
        have h := r10_Release_l0 hl n hv ⟨x, hx⟩ _ 0 rfl (by omega)
        rw [List.take_zero, show l.map (admS [] (vneg v)) = l from by rw [show admS [] (vneg v) = id from by funext z; simp [admS]]; simp] at h
        exact Ev.congr (fun k => if_pos (decide_eq_true hle)) h
      · rw [if_neg hle]
        exact Ev.congr (fun k => if_neg (by simpa using hle)) (Ev.now _)
  · rw [if_pos hv]
    refine Ev.congr (fun k => ?_) (Ev.now _)
    rw [hmv]
    simp only [Option.bind_some]
    rw [if_neg (by simpa using hv)]
    rfl
theorem admit_Release_ev {l : List Item} (hl : RightP l) (n : ByteArray) (v : Vec) : Ev (fun k => admit_Release.f k l n v.f0 v.f1 v.f2) (relR l n v) := by
  have hlen := hl.len
  refine Ev.bind (tree_Up_ev l n (by omega)) ?_
  have hmv : vec_May.f v.f0 v.f1 v.f2 = some (decide (MayP v)) := vec_May_eq _ _ _
  refine Ev.congr (fun k => ?_) (Ev.now _)
  rw [hmv]
  simp only [Option.bind_some]
  unfold relR
  by_cases hv : MayP v
  · rw [if_pos (by exact decide_eq_true hv), if_neg (show ¬ ¬ MayP v from fun q => q hv)]
    cases hx : look l n with
    | none =>
      rw [if_pos (by rw [show up l n = [] from upGo_none hx _]; rfl), if_pos (show (none : Option Item).isNone = true from rfl)]
    | some x =>
      have hpos : 0 < (up l n).length := by have := up_self hx; exact List.length_pos_of_mem this
      have h0 := fnd_ge.2 ⟨x, hx⟩
      have h1 := fnd_lt l n
      rw [if_neg (by omega), if_neg (by simp), tree_Find_eq]
      simp only [Option.bind_some]
      rw [if_pos ⟨h0, h1⟩, fnd_rd hx, leV_dec]
      by_cases hle : LeP v x.f3
      · rw [if_pos hle, if_pos (by exact decide_eq_true hle), changedF_eq hl _ hx]
        simp only [Option.bind_some]
        congr 2
        unfold relL admL
        refine List.map_congr_left fun z hz => ?_
        unfold chgF admF
        rw [opSub_eq (v := ⟨v.f0, v.f1, v.f2⟩) (hl.ok z hz).sub hv, opSub_eq (v := ⟨v.f0, v.f1, v.f2⟩) (hl.ok z hz).own hv]
      · rw [if_neg hle, if_neg (by simpa using hle)]
  · rw [if_neg (by simpa using hv), if_pos hv]
end Go.Proofs.Ytcgefpklljclgaa.Print

namespace Go.Proofs.Ytcgefpklljclgaa.Print
open Go.RowKit Go.Proofs.YtcgefpklljclgaaW.PrintWords Go.Proofs.YtcgefpklljclgaaW.PrintLast Go.Proofs.YtcgefpklljclgaaW.PrintMore
set_option linter.unusedVariables false
set_option linter.unusedSimpArgs false
theorem aa_awake_ev : Ev (fun k => law14_awake.f k) true := Ev.of (g := fun k => law14_awake.f k) (fun k => law14_awake.mono k) (k := 20) (by kernel_rfl)
theorem aa_awake_bind : Ev (fun k => (law14_awake.f k).bind fun t => some t) true := Ev.bind aa_awake_ev (Ev.now _)
theorem aa_num (e : Int) : law1_Num.f e = some e := rfl
theorem aa_admR_len {l : List Item} (hl : RightP l) (n : ByteArray) (v : Vec) : (admR l n v).1.length < 1000000 := by
  have hlen := hl.len
  unfold admR
  split
  · simp
  split
  · simp
  split
  · unfold admL; simp; omega
  · simp
theorem aa_relR_len {l : List Item} (hl : RightP l) (n : ByteArray) (v : Vec) : (relR l n v).1.length < 1000000 := by
  have hlen := hl.len
  unfold relR
  split
  · simp
  split
  · simp
  split
  · unfold relL admL; simp; omega
  · simp
theorem aa_j1 (l : List Item) (n : ByteArray) (v : Vec) : Ev (fun k => law14_AdmitAll.j0 k l n true v.f0 v.f1 v.f2) true := by
  refine Ev.step (fun k => law14_AdmitAll.j0.eq_2 (k := k) ..) ?_
  simp only [if_true]
  exact aa_awake_bind
theorem aa_j0 {l : List Item} (hl : RightP l) (n : ByteArray) (v : Vec) : Ev (fun k => law14_AdmitAll.j0 k l n false v.f0 v.f1 v.f2) true := by
  have hlen := hl.len
  refine Ev.step (fun k => law14_AdmitAll.j0.eq_2 (k := k) ..) ?_
  simp only [Bool.false_eq_true, if_false, Option.bind_some]
  refine Ev.congr (fun k => if_pos (by simp; omega)) ?_
  refine Ev.bind (admit_Admit_ev hl n v) (Ev.bind (r10_Admit_ev hl n v) (Ev.bind (admit_Release_ev hl n v) (Ev.bind (r10_Release_ev hl n v) ?_)))
  refine Ev.bind (r10_Same_refl _ (aa_admR_len hl n v)) (Ev.congr (fun k => if_pos rfl) ?_)
  simp only [aa_num, Option.bind_some, if_true]
  refine Ev.bind (r10_Same_refl _ (aa_relR_len hl n v)) (Ev.congr (fun k => if_pos rfl) ?_)
  refine Ev.bind (a := true) ?_ (Ev.congr (fun k => if_pos rfl) aa_awake_bind)
  rw [List.nil_append]
  exact r10_Same_refl l (by omega)
end Go.Proofs.Ytcgefpklljclgaa.Print
namespace Go.Proofs.Ytcgefpklljclgaa.Pure
open Go.RowKit Go.Proofs.Ytcgefpklljclgaa.Print Go.Proofs.YtcgefpklljclgaaW.PrintWords Go.Proofs.YtcgefpklljclgaaW.PrintLast
set_option linter.unusedVariables false
set_option linter.unusedSimpArgs false
theorem AdmitAll (l : List Print.Item) (n : ByteArray) (v : Vec) : ∃ k, law14_AdmitAll.f k l n v.f0 v.f1 v.f2 = some true := by
  obtain ⟨g, hg, hg2⟩ := great_ev l
  unfold law14_AdmitAll.f
  refine Ev.rounds (Ev.bind hg ?_)
  cases g with
  | true => exact Ev.congr (fun k => if_pos rfl) (aa_j1 l n v)
  | false =>
    refine Ev.congr (fun k => if_neg (by simp)) ?_
    by_cases h : (n.size : Int) > 100
    · exact Ev.congr (fun k => if_pos h) (aa_j1 l n v)
    refine Ev.congr (fun k => if_neg h) ?_
    obtain ⟨b, hb, hb2⟩ := r10_Right_some l
    refine Ev.bind hb ?_
    cases b with
    | false => exact aa_j1 l n v
    | true => exact aa_j0 (hb2.1 rfl) n v
end Go.Proofs.Ytcgefpklljclgaa.Pure

namespace Go.Proofs.Ytcgefpklljclgaa.Head
/-- the translation's head, sign by sign -/
def signs : List Char := [Char.ofNat 104, Char.ofNat 97, Char.ofNat 114, Char.ofNat 110, Char.ofNat 101, Char.ofNat 115, Char.ofNat 115, Char.ofNat 32, Char.ofNat 101, Char.ofNat 57, Char.ofNat 98, Char.ofNat 52, Char.ofNat 101, Char.ofNat 102, Char.ofNat 52, Char.ofNat 49, Char.ofNat 56, Char.ofNat 50, Char.ofNat 56, Char.ofNat 101, Char.ofNat 102, Char.ofNat 50, Char.ofNat 55, Char.ofNat 102, Char.ofNat 51, Char.ofNat 55, Char.ofNat 102, Char.ofNat 48, Char.ofNat 53, Char.ofNat 54, Char.ofNat 50, Char.ofNat 55, Char.ofNat 56, Char.ofNat 50, Char.ofNat 54, Char.ofNat 101, Char.ofNat 101, Char.ofNat 100, Char.ofNat 101, Char.ofNat 57, Char.ofNat 53, Char.ofNat 99, Char.ofNat 56, Char.ofNat 98, Char.ofNat 55, Char.ofNat 57, Char.ofNat 99, Char.ofNat 100, Char.ofNat 98, Char.ofNat 99, Char.ofNat 52, Char.ofNat 99, Char.ofNat 49, Char.ofNat 100, Char.ofNat 54, Char.ofNat 49, Char.ofNat 98, Char.ofNat 101, Char.ofNat 98, Char.ofNat 55, Char.ofNat 57, Char.ofNat 55, Char.ofNat 52, Char.ofNat 102, Char.ofNat 49, Char.ofNat 51, Char.ofNat 53, Char.ofNat 99, Char.ofNat 97, Char.ofNat 49, Char.ofNat 48, Char.ofNat 51, Char.ofNat 32, Char.ofNat 99, Char.ofNat 117, Char.ofNat 116, Char.ofNat 32, Char.ofNat 97, Char.ofNat 116, Char.ofNat 32, Char.ofNat 100, Char.ofNat 111, Char.ofNat 111, Char.ofNat 114, Char.ofNat 107, Char.ofNat 101, Char.ofNat 101, Char.ofNat 112, Char.ofNat 101, Char.ofNat 114, Char.ofNat 47, Char.ofNat 100, Char.ofNat 111, Char.ofNat 111, Char.ofNat 114, Char.ofNat 107, Char.ofNat 101, Char.ofNat 101, Char.ofNat 112, Char.ofNat 101, Char.ofNat 114, Char.ofNat 108, Char.ofNat 97, Char.ofNat 119, Char.ofNat 49, Char.ofNat 51, Char.ofNat 46, Char.ofNat 82, Char.ofNat 111, Char.ofNat 111, Char.ofNat 109, Char.ofNat 85, Char.ofNat 112, Char.ofNat 32, Char.ofNat 100, Char.ofNat 111, Char.ofNat 111, Char.ofNat 114, Char.ofNat 107, Char.ofNat 101, Char.ofNat 101, Char.ofNat 112, Char.ofNat 101, Char.ofNat 114, Char.ofNat 47, Char.ofNat 100, Char.ofNat 111, Char.ofNat 111, Char.ofNat 114, Char.ofNat 107, Char.ofNat 101, Char.ofNat 101, Char.ofNat 112, Char.ofNat 101, Char.ofNat 114, Char.ofNat 108, Char.ofNat 97, Char.ofNat 119, Char.ofNat 49, Char.ofNat 55, Char.ofNat 46, Char.ofNat 68, Char.ofNat 114, Char.ofNat 105, Char.ofNat 102, Char.ofNat 116, Char.ofNat 65, Char.ofNat 108, Char.ofNat 108, Char.ofNat 32, Char.ofNat 100, Char.ofNat 111, Char.ofNat 111, Char.ofNat 114, Char.ofNat 107, Char.ofNat 101, Char.ofNat 101, Char.ofNat 112, Char.ofNat 101, Char.ofNat 114, Char.ofNat 47, Char.ofNat 100, Char.ofNat 111, Char.ofNat 111, Char.ofNat 114, Char.ofNat 107, Char.ofNat 101, Char.ofNat 101, Char.ofNat 112, Char.ofNat 101, Char.ofNat 114, Char.ofNat 108, Char.ofNat 97, Char.ofNat 119, Char.ofNat 49, Char.ofNat 55, Char.ofNat 46, Char.ofNat 68, Char.ofNat 114, Char.ofNat 105, Char.ofNat 102, Char.ofNat 116, Char.ofNat 84, Char.ofNat 101, Char.ofNat 108, Char.ofNat 108, Char.ofNat 115, Char.ofNat 32, Char.ofNat 100, Char.ofNat 111, Char.ofNat 111, Char.ofNat 114, Char.ofNat 107, Char.ofNat 101, Char.ofNat 101, Char.ofNat 112, Char.ofNat 101, Char.ofNat 114, Char.ofNat 47, Char.ofNat 100, Char.ofNat 111, Char.ofNat 111, Char.ofNat 114, Char.ofNat 107, Char.ofNat 101, Char.ofNat 101, Char.ofNat 112, Char.ofNat 101, Char.ofNat 114, Char.ofNat 108, Char.ofNat 97, Char.ofNat 119, Char.ofNat 50, Char.ofNat 48, Char.ofNat 46, Char.ofNat 69, Char.ofNat 102, Char.ofNat 102, Char.ofNat 101, Char.ofNat 99, Char.ofNat 116, Char.ofNat 65, Char.ofNat 108, Char.ofNat 108, Char.ofNat 32, Char.ofNat 100, Char.ofNat 111, Char.ofNat 111, Char.ofNat 114, Char.ofNat 107, Char.ofNat 101, Char.ofNat 101, Char.ofNat 112, Char.ofNat 101, Char.ofNat 114, Char.ofNat 47, Char.ofNat 100, Char.ofNat 111, Char.ofNat 111, Char.ofNat 114, Char.ofNat 107, Char.ofNat 101, Char.ofNat 101, Char.ofNat 112, Char.ofNat 101, Char.ofNat 114, Char.ofNat 108, Char.ofNat 97, Char.ofNat 119, Char.ofNat 50, Char.ofNat 48, Char.ofNat 46, Char.ofNat 69, Char.ofNat 102, Char.ofNat 102, Char.ofNat 101, Char.ofNat 99, Char.ofNat 116, Char.ofNat 77, Char.ofNat 97, Char.ofNat 100, Char.ofNat 101, Char.ofNat 32, Char.ofNat 100, Char.ofNat 111, Char.ofNat 111, Char.ofNat 114, Char.ofNat 107, Char.ofNat 101, Char.ofNat 101, Char.ofNat 112, Char.ofNat 101, Char.ofNat 114, Char.ofNat 47, Char.ofNat 100, Char.ofNat 111, Char.ofNat 111, Char.ofNat 114, Char.ofNat 107, Char.ofNat 101, Char.ofNat 101, Char.ofNat 112, Char.ofNat 101, Char.ofNat 114, Char.ofNat 108, Char.ofNat 97, Char.ofNat 119, Char.ofNat 50, Char.ofNat 48, Char.ofNat 46, Char.ofNat 69, Char.ofNat 102, Char.ofNat 102, Char.ofNat 101, Char.ofNat 99, Char.ofNat 116, Char.ofNat 68, Char.ofNat 111, Char.ofNat 110, Char.ofNat 101, Char.ofNat 32, Char.ofNat 100, Char.ofNat 111, Char.ofNat 111, Char.ofNat 114, Char.ofNat 107, Char.ofNat 101, Char.ofNat 101, Char.ofNat 112, Char.ofNat 101, Char.ofNat 114, Char.ofNat 47, Char.ofNat 100, Char.ofNat 111, Char.ofNat 111, Char.ofNat 114, Char.ofNat 107, Char.ofNat 101, Char.ofNat 101, Char.ofNat 112, Char.ofNat 101, Char.ofNat 114, Char.ofNat 108, Char.ofNat 97, Char.ofNat 119, Char.ofNat 49, Char.ofNat 52, Char.ofNat 46, Char.ofNat 65, Char.ofNat 100, Char.ofNat 109, Char.ofNat 105, Char.ofNat 116, Char.ofNat 84, Char.ofNat 119, Char.ofNat 105, Char.ofNat 99, Char.ofNat 101, Char.ofNat 32, Char.ofNat 100, Char.ofNat 111, Char.ofNat 111, Char.ofNat 114, Char.ofNat 107, Char.ofNat 101, Char.ofNat 101, Char.ofNat 112, Char.ofNat 101, Char.ofNat 114, Char.ofNat 47, Char.ofNat 100, Char.ofNat 111, Char.ofNat 111, Char.ofNat 114, Char.ofNat 107, Char.ofNat 101, Char.ofNat 101, Char.ofNat 112, Char.ofNat 101, Char.ofNat 114, Char.ofNat 108, Char.ofNat 97, Char.ofNat 119, Char.ofNat 49, Char.ofNat 51, Char.ofNat 46, Char.ofNat 82, Char.ofNat 111, Char.ofNat 111, Char.ofNat 109, Char.ofNat 70, Char.ofNat 105, Char.ofNat 116, Char.ofNat 115, Char.ofNat 32, Char.ofNat 100, Char.ofNat 111, Char.ofNat 111, Char.ofNat 114, Char.ofNat 107, Char.ofNat 101, Char.ofNat 101, Char.ofNat 112, Char.ofNat 101, Char.ofNat 114, Char.ofNat 47, Char.ofNat 100, Char.ofNat 111, Char.ofNat 111, Char.ofNat 114, Char.ofNat 107, Char.ofNat 101, Char.ofNat 101, Char.ofNat 112, Char.ofNat 101, Char.ofNat 114, Char.ofNat 108, Char.ofNat 97, Char.ofNat 119, Char.ofNat 49, Char.ofNat 50, Char.ofNat 46, Char.ofNat 84, Char.ofNat 114, Char.ofNat 101, Char.ofNat 101, Char.ofNat 65, Char.ofNat 108, Char.ofNat 108, Char.ofNat 32, Char.ofNat 100, Char.ofNat 111, Char.ofNat 111, Char.ofNat 114, Char.ofNat 107, Char.ofNat 101, Char.ofNat 101, Char.ofNat 112, Char.ofNat 101, Char.ofNat 114, Char.ofNat 47, Char.ofNat 100, Char.ofNat 111, Char.ofNat 111, Char.ofNat 114, Char.ofNat 107, Char.ofNat 101, Char.ofNat 101, Char.ofNat 112, Char.ofNat 101, Char.ofNat 114, Char.ofNat 108, Char.ofNat 97, Char.ofNat 119, Char.ofNat 49, Char.ofNat 50, Char.ofNat 46, Char.ofNat 84, Char.ofNat 114, Char.ofNat 101, Char.ofNat 101, Char.ofNat 77, Char.ofNat 97, Char.ofNat 100, Char.ofNat 101, Char.ofNat 32, Char.ofNat 100, Char.ofNat 111, Char.ofNat 111, Char.ofNat 114, Char.ofNat 107, Char.ofNat 101, Char.ofNat 101, Char.ofNat 112, Char.ofNat 101, Char.ofNat 114, Char.ofNat 47, Char.ofNat 100, Char.ofNat 111, Char.ofNat 111, Char.ofNat 114, Char.ofNat 107, Char.ofNat 101, Char.ofNat 101, Char.ofNat 112, Char.ofNat 101, Char.ofNat 114, Char.ofNat 108, Char.ofNat 97, Char.ofNat 119, Char.ofNat 49, Char.ofNat 50, Char.ofNat 46, Char.ofNat 84, Char.ofNat 114, Char.ofNat 101, Char.ofNat 101, Char.ofNat 83, Char.ofNat 117, Char.ofNat 109, Char.ofNat 115, Char.ofNat 32, Char.ofNat 100, Char.ofNat 111, Char.ofNat 111, Char.ofNat 114, Char.ofNat 107, Char.ofNat 101, Char.ofNat 101, Char.ofNat 112, Char.ofNat 101, Char.ofNat 114, Char.ofNat 47, Char.ofNat 100, Char.ofNat 111, Char.ofNat 111, Char.ofNat 114, Char.ofNat 107, Char.ofNat 101, Char.ofNat 101, Char.ofNat 112, Char.ofNat 101, Char.ofNat 114, Char.ofNat 108, Char.ofNat 97, Char.ofNat 119, Char.ofNat 49, Char.ofNat 50, Char.ofNat 46, Char.ofNat 84, Char.ofNat 114, Char.ofNat 101, Char.ofNat 101, Char.ofNat 66, Char.ofNat 101, Char.ofNat 108, Char.ofNat 111, Char.ofNat 119, Char.ofNat 32, Char.ofNat 100, Char.ofNat 111, Char.ofNat 111, Char.ofNat 114, Char.ofNat 107, Char.ofNat 101, Char.ofNat 101, Char.ofNat 112, Char.ofNat 101, Char.ofNat 114, Char.ofNat 47, Char.ofNat 100, Char.ofNat 111, Char.ofNat 111, Char.ofNat 114, Char.ofNat 107, Char.ofNat 101, Char.ofNat 101, Char.ofNat 112, Char.ofNat 101, Char.ofNat 114, Char.ofNat 108, Char.ofNat 97, Char.ofNat 119, Char.ofNat 49, Char.ofNat 51, Char.ofNat 46, Char.ofNat 82, Char.ofNat 111, Char.ofNat 111, Char.ofNat 109, Char.ofNat 83, Char.ofNat 104, Char.ofNat 97, Char.ofNat 114, Char.ofNat 101, Char.ofNat 115, Char.ofNat 32, Char.ofNat 100, Char.ofNat 111, Char.ofNat 111, Char.ofNat 114, Char.ofNat 107, Char.ofNat 101, Char.ofNat 101, Char.ofNat 112, Char.ofNat 101, Char.ofNat 114, Char.ofNat 47, Char.ofNat 100, Char.ofNat 111, Char.ofNat 111, Char.ofNat 114, Char.ofNat 107, Char.ofNat 101, Char.ofNat 101, Char.ofNat 112, Char.ofNat 101, Char.ofNat 114, Char.ofNat 108, Char.ofNat 97, Char.ofNat 119, Char.ofNat 49, Char.ofNat 52, Char.ofNat 46, Char.ofNat 65, Char.ofNat 100, Char.ofNat 109, Char.ofNat 105, Char.ofNat 116, Char.ofNat 65, Char.ofNat 108, Char.ofNat 108, Char.ofNat 32, Char.ofNat 100, Char.ofNat 111, Char.ofNat 111, Char.ofNat 114, Char.ofNat 107, Char.ofNat 101, Char.ofNat 101, Char.ofNat 112, Char.ofNat 101, Char.ofNat 114, Char.ofNat 47, Char.ofNat 100, Char.ofNat 111, Char.ofNat 111, Char.ofNat 114, Char.ofNat 107, Char.ofNat 101, Char.ofNat 101, Char.ofNat 112, Char.ofNat 101, Char.ofNat 114, Char.ofNat 108, Char.ofNat 97, Char.ofNat 119, Char.ofNat 49, Char.ofNat 52, Char.ofNat 46, Char.ofNat 65, Char.ofNat 100, Char.ofNat 109, Char.ofNat 105, Char.ofNat 116, Char.ofNat 77, Char.ofNat 97, Char.ofNat 100, Char.ofNat 101, Char.ofNat 32, Char.ofNat 100, Char.ofNat 111, Char.ofNat 111, Char.ofNat 114, Char.ofNat 107, Char.ofNat 101, Char.ofNat 101, Char.ofNat 112, Char.ofNat 101, Char.ofNat 114, Char.ofNat 47, Char.ofNat 100, Char.ofNat 111, Char.ofNat 111, Char.ofNat 114, Char.ofNat 107, Char.ofNat 101, Char.ofNat 101, Char.ofNat 112, Char.ofNat 101, Char.ofNat 114, Char.ofNat 108, Char.ofNat 97, Char.ofNat 119, Char.ofNat 49, Char.ofNat 52, Char.ofNat 46, Char.ofNat 65, Char.ofNat 100, Char.ofNat 109, Char.ofNat 105, Char.ofNat 116, Char.ofNat 82, Char.ofNat 111, Char.ofNat 111, Char.ofNat 109, Char.ofNat 32, Char.ofNat 100, Char.ofNat 111, Char.ofNat 111, Char.ofNat 114, Char.ofNat 107, Char.ofNat 101, Char.ofNat 101, Char.ofNat 112, Char.ofNat 101, Char.ofNat 114, Char.ofNat 47, Char.ofNat 100, Char.ofNat 111, Char.ofNat 111, Char.ofNat 114, Char.ofNat 107, Char.ofNat 101, Char.ofNat 101, Char.ofNat 112, Char.ofNat 101, Char.ofNat 114, Char.ofNat 108, Char.ofNat 97, Char.ofNat 119, Char.ofNat 49, Char.ofNat 51, Char.ofNat 46, Char.ofNat 82, Char.ofNat 111, Char.ofNat 111, Char.ofNat 109, Char.ofNat 65, Char.ofNat 108, Char.ofNat 108, Char.ofNat 32, Char.ofNat 100, Char.ofNat 111, Char.ofNat 111, Char.ofNat 114, Char.ofNat 107, Char.ofNat 101, Char.ofNat 101, Char.ofNat 112, Char.ofNat 101, Char.ofNat 114, Char.ofNat 47, Char.ofNat 100, Char.ofNat 111, Char.ofNat 111, Char.ofNat 114, Char.ofNat 107, Char.ofNat 101, Char.ofNat 101, Char.ofNat 112, Char.ofNat 101, Char.ofNat 114, Char.ofNat 108, Char.ofNat 97, Char.ofNat 119, Char.ofNat 49, Char.ofNat 51, Char.ofNat 46, Char.ofNat 82, Char.ofNat 111, Char.ofNat 111, Char.ofNat 109, Char.ofNat 77, Char.ofNat 97, Char.ofNat 100, Char.ofNat 101, Char.ofNat 32, Char.ofNat 100, Char.ofNat 111, Char.ofNat 111, Char.ofNat 114, Char.ofNat 107, Char.ofNat 101, Char.ofNat 101, Char.ofNat 112, Char.ofNat 101, Char.ofNat 114, Char.ofNat 47, Char.ofNat 100, Char.ofNat 111, Char.ofNat 111, Char.ofNat 114, Char.ofNat 107, Char.ofNat 101, Char.ofNat 101, Char.ofNat 112, Char.ofNat 101, Char.ofNat 114, Char.ofNat 108, Char.ofNat 97, Char.ofNat 119, Char.ofNat 49, Char.ofNat 53, Char.ofNat 46, Char.ofNat 83, Char.ofNat 104, Char.ofNat 97, Char.ofNat 112, Char.ofNat 101, Char.ofNat 77, Char.ofNat 97, Char.ofNat 110, Char.ofNat 121, Char.ofNat 32, Char.ofNat 100, Char.ofNat 111, Char.ofNat 111, Char.ofNat 114, Char.ofNat 107, Char.ofNat 101, Char.ofNat 101, Char.ofNat 112, Char.ofNat 101, Char.ofNat 114, Char.ofNat 47, Char.ofNat 100, Char.ofNat 111, Char.ofNat 111, Char.ofNat 114, Char.ofNat 107, Char.ofNat 101, Char.ofNat 101, Char.ofNat 112, Char.ofNat 101, Char.ofNat 114, Char.ofNat 108, Char.ofNat 97, Char.ofNat 119, Char.ofNat 49, Char.ofNat 53, Char.ofNat 46, Char.ofNat 83, Char.ofNat 104, Char.ofNat 97, Char.ofNat 112, Char.ofNat 101, Char.ofNat 67, Char.ofNat 111, Char.ofNat 109, Char.ofNat 101, Char.ofNat 115, Char.ofNat 32, Char.ofNat 100, Char.ofNat 111, Char.ofNat 111, Char.ofNat 114, Char.ofNat 107, Char.ofNat 101, Char.ofNat 101, Char.ofNat 112, Char.ofNat 101, Char.ofNat 114, Char.ofNat 47, Char.ofNat 100, Char.ofNat 111, Char.ofNat 111, Char.ofNat 114, Char.ofNat 107, Char.ofNat 101, Char.ofNat 101, Char.ofNat 112, Char.ofNat 101, Char.ofNat 114, Char.ofNat 108, Char.ofNat 97, Char.ofNat 119, Char.ofNat 49, Char.ofNat 53, Char.ofNat 46, Char.ofNat 83, Char.ofNat 104, Char.ofNat 97, Char.ofNat 112, Char.ofNat 101, Char.ofNat 76, Char.ofNat 105, Char.ofNat 109, Char.ofNat 105, Char.ofNat 116, Char.ofNat 115, Char.ofNat 32, Char.ofNat 100, Char.ofNat 111, Char.ofNat 111, Char.ofNat 114, Char.ofNat 107, Char.ofNat 101, Char.ofNat 101, Char.ofNat 112, Char.ofNat 101, Char.ofNat 114, Char.ofNat 47, Char.ofNat 100, Char.ofNat 111, Char.ofNat 111, Char.ofNat 114, Char.ofNat 107, Char.ofNat 101, Char.ofNat 101, Char.ofNat 112, Char.ofNat 101, Char.ofNat 114, Char.ofNat 108, Char.ofNat 97, Char.ofNat 119, Char.ofNat 49, Char.ofNat 53, Char.ofNat 46, Char.ofNat 83, Char.ofNat 104, Char.ofNat 97, Char.ofNat 112, Char.ofNat 101, Char.ofNat 77, Char.ofNat 111, Char.ofNat 118, Char.ofNat 101, Char.ofNat 115, Char.ofNat 32, Char.ofNat 100, Char.ofNat 111, Char.ofNat 111, Char.ofNat 114, Char.ofNat 107, Char.ofNat 101, Char.ofNat 101, Char.ofNat 112, Char.ofNat 101, Char.ofNat 114, Char.ofNat 47, Char.ofNat 100, Char.ofNat 111, Char.ofNat 111, Char.ofNat 114, Char.ofNat 107, Char.ofNat 101, Char.ofNat 101, Char.ofNat 112, Char.ofNat 101, Char.ofNat 114, Char.ofNat 108, Char.ofNat 97, Char.ofNat 119, Char.ofNat 49, Char.ofNat 53, Char.ofNat 46, Char.ofNat 83, Char.ofNat 104, Char.ofNat 97, Char.ofNat 112, Char.ofNat 101, Char.ofNat 65, Char.ofNat 108, Char.ofNat 108, Char.ofNat 32, Char.ofNat 100, Char.ofNat 111, Char.ofNat 111, Char.ofNat 114, Char.ofNat 107, Char.ofNat 101, Char.ofNat 101, Char.ofNat 112, Char.ofNat 101, Char.ofNat 114, Char.ofNat 47, Char.ofNat 100, Char.ofNat 111, Char.ofNat 111, Char.ofNat 114, Char.ofNat 107, Char.ofNat 101, Char.ofNat 101, Char.ofNat 112, Char.ofNat 101, Char.ofNat 114, Char.ofNat 108, Char.ofNat 97, Char.ofNat 119, Char.ofNat 49, Char.ofNat 53, Char.ofNat 46, Char.ofNat 83, Char.ofNat 104, Char.ofNat 97, Char.ofNat 112, Char.ofNat 101, Char.ofNat 77, Char.ofNat 97, Char.ofNat 100, Char.ofNat 101, Char.ofNat 32, Char.ofNat 100, Char.ofNat 111, Char.ofNat 111, Char.ofNat 114, Char.ofNat 107, Char.ofNat 101, Char.ofNat 101, Char.ofNat 112, Char.ofNat 101, Char.ofNat 114, Char.ofNat 47, Char.ofNat 100, Char.ofNat 111, Char.ofNat 111, Char.ofNat 114, Char.ofNat 107, Char.ofNat 101, Char.ofNat 101, Char.ofNat 112, Char.ofNat 101, Char.ofNat 114, Char.ofNat 108, Char.ofNat 97, Char.ofNat 119, Char.ofNat 49, Char.ofNat 53, Char.ofNat 46, Char.ofNat 83, Char.ofNat 104, Char.ofNat 97, Char.ofNat 112, Char.ofNat 101, Char.ofNat 82, Char.ofNat 101, Char.ofNat 115, Char.ofNat 116, Char.ofNat 32, Char.ofNat 100, Char.ofNat 111, Char.ofNat 111, Char.ofNat 114, Char.ofNat 107, Char.ofNat 101, Char.ofNat 101, Char.ofNat 112, Char.ofNat 101, Char.ofNat 114, Char.ofNat 47, Char.ofNat 100, Char.ofNat 111, Char.ofNat 111, Char.ofNat 114, Char.ofNat 107, Char.ofNat 101, Char.ofNat 101, Char.ofNat 112, Char.ofNat 101, Char.ofNat 114, Char.ofNat 108, Char.ofNat 97, Char.ofNat 119, Char.ofNat 49, Char.ofNat 57, Char.ofNat 46, Char.ofNat 84, Char.ofNat 114, Char.ofNat 105, Char.ofNat 97, Char.ofNat 108, Char.ofNat 67, Char.ofNat 117, Char.ofNat 116, Char.ofNat 115, Char.ofNat 32, Char.ofNat 100, Char.ofNat 111, Char.ofNat 111, Char.ofNat 114, Char.ofNat 107, Char.ofNat 101, Char.ofNat 101, Char.ofNat 112, Char.ofNat 101, Char.ofNat 114, Char.ofNat 47, Char.ofNat 100, Char.ofNat 111, Char.ofNat 111, Char.ofNat 114, Char.ofNat 107, Char.ofNat 101, Char.ofNat 101, Char.ofNat 112, Char.ofNat 101, Char.ofNat 114, Char.ofNat 108, Char.ofNat 97, Char.ofNat 119, Char.ofNat 49, Char.ofNat 57, Char.ofNat 46, Char.ofNat 84, Char.ofNat 114, Char.ofNat 105, Char.ofNat 97, Char.ofNat 108, Char.ofNat 65, Char.ofNat 108, Char.ofNat 108, Char.ofNat 32, Char.ofNat 100, Char.ofNat 111, Char.ofNat 111, Char.ofNat 114, Char.ofNat 107, Char.ofNat 101, Char.ofNat 101, Char.ofNat 112, Char.ofNat 101, Char.ofNat 114, Char.ofNat 47, Char.ofNat 100, Char.ofNat 111, Char.ofNat 111, Char.ofNat 114, Char.ofNat 107, Char.ofNat 101, Char.ofNat 101, Char.ofNat 112, Char.ofNat 101, Char.ofNat 114, Char.ofNat 108, Char.ofNat 97, Char.ofNat 119, Char.ofNat 49, Char.ofNat 57, Char.ofNat 46, Char.ofNat 84, Char.ofNat 114, Char.ofNat 105, Char.ofNat 97, Char.ofNat 108, Char.ofNat 77, Char.ofNat 97, Char.ofNat 100, Char.ofNat 101]
set_option maxRecDepth 100000 in
theorem word : Try.prog.initOrder = String.ofList signs := by kernel_rfl
theorem list : Try.prog.initOrder.toList = signs := by rw [word, String.toList_ofList]
theorem words_app : ∀ (w r : List Char), (∀ c ∈ w, c ≠ Char.ofNat 32) → wordsSigns (w ++ Char.ofNat 32 :: r) = w :: wordsSigns r
  | [], r, _ => rfl
  | c :: w, r, h => by
    have hc : c ≠ Char.ofNat 32 := h c (by simp)
    have ih := words_app w r (fun d hd => h d (by simp [hd]))
    show wordsSigns (c :: (w ++ Char.ofNat 32 :: r)) = _
    rw [wordsSigns.eq_3 _ _ (fun q => hc q), ih]
def w1 : List Char := [Char.ofNat 104, Char.ofNat 97, Char.ofNat 114, Char.ofNat 110, Char.ofNat 101, Char.ofNat 115, Char.ofNat 115]
def w2 : List Char := [Char.ofNat 101, Char.ofNat 57, Char.ofNat 98, Char.ofNat 52, Char.ofNat 101, Char.ofNat 102, Char.ofNat 52, Char.ofNat 49, Char.ofNat 56, Char.ofNat 50, Char.ofNat 56, Char.ofNat 101, Char.ofNat 102, Char.ofNat 50, Char.ofNat 55, Char.ofNat 102, Char.ofNat 51, Char.ofNat 55, Char.ofNat 102, Char.ofNat 48, Char.ofNat 53, Char.ofNat 54, Char.ofNat 50, Char.ofNat 55, Char.ofNat 56, Char.ofNat 50, Char.ofNat 54, Char.ofNat 101, Char.ofNat 101, Char.ofNat 100, Char.ofNat 101, Char.ofNat 57, Char.ofNat 53, Char.ofNat 99, Char.ofNat 56, Char.ofNat 98, Char.ofNat 55, Char.ofNat 57, Char.ofNat 99, Char.ofNat 100, Char.ofNat 98, Char.ofNat 99, Char.ofNat 52, Char.ofNat 99, Char.ofNat 49, Char.ofNat 100, Char.ofNat 54, Char.ofNat 49, Char.ofNat 98, Char.ofNat 101, Char.ofNat 98, Char.ofNat 55, Char.ofNat 57, Char.ofNat 55, Char.ofNat 52, Char.ofNat 102, Char.ofNat 49, Char.ofNat 51, Char.ofNat 53, Char.ofNat 99, Char.ofNat 97, Char.ofNat 49, Char.ofNat 48, Char.ofNat 51]
def w3 : List Char := [Char.ofNat 99, Char.ofNat 117, Char.ofNat 116]
def rest : List Char := [Char.ofNat 97, Char.ofNat 116, Char.ofNat 32, Char.ofNat 100, Char.ofNat 111, Char.ofNat 111, Char.ofNat 114, Char.ofNat 107, Char.ofNat 101, Char.ofNat 101, Char.ofNat 112, Char.ofNat 101, Char.ofNat 114, Char.ofNat 47, Char.ofNat 100, Char.ofNat 111, Char.ofNat 111, Char.ofNat 114, Char.ofNat 107, Char.ofNat 101, Char.ofNat 101, Char.ofNat 112, Char.ofNat 101, Char.ofNat 114, Char.ofNat 108, Char.ofNat 97, Char.ofNat 119, Char.ofNat 49, Char.ofNat 51, Char.ofNat 46, Char.ofNat 82, Char.ofNat 111, Char.ofNat 111, Char.ofNat 109, Char.ofNat 85, Char.ofNat 112, Char.ofNat 32, Char.ofNat 100, Char.ofNat 111, Char.ofNat 111, Char.ofNat 114, Char.ofNat 107, Char.ofNat 101, Char.ofNat 101, Char.ofNat 112, Char.ofNat 101, Char.ofNat 114, Char.ofNat 47, Char.ofNat 100, Char.ofNat 111, Char.ofNat 111, Char.ofNat 114, Char.ofNat 107, Char.ofNat 101, Char.ofNat 101, Char.ofNat 112, Char.ofNat 101, Char.ofNat 114, Char.ofNat 108, Char.ofNat 97, Char.ofNat 119, Char.ofNat 49, Char.ofNat 55, Char.ofNat 46, Char.ofNat 68, Char.ofNat 114, Char.ofNat 105, Char.ofNat 102, Char.ofNat 116, Char.ofNat 65, Char.ofNat 108, Char.ofNat 108, Char.ofNat 32, Char.ofNat 100, Char.ofNat 111, Char.ofNat 111, Char.ofNat 114, Char.ofNat 107, Char.ofNat 101, Char.ofNat 101, Char.ofNat 112, Char.ofNat 101, Char.ofNat 114, Char.ofNat 47, Char.ofNat 100, Char.ofNat 111, Char.ofNat 111, Char.ofNat 114, Char.ofNat 107, Char.ofNat 101, Char.ofNat 101, Char.ofNat 112, Char.ofNat 101, Char.ofNat 114, Char.ofNat 108, Char.ofNat 97, Char.ofNat 119, Char.ofNat 49, Char.ofNat 55, Char.ofNat 46, Char.ofNat 68, Char.ofNat 114, Char.ofNat 105, Char.ofNat 102, Char.ofNat 116, Char.ofNat 84, Char.ofNat 101, Char.ofNat 108, Char.ofNat 108, Char.ofNat 115, Char.ofNat 32, Char.ofNat 100, Char.ofNat 111, Char.ofNat 111, Char.ofNat 114, Char.ofNat 107, Char.ofNat 101, Char.ofNat 101, Char.ofNat 112, Char.ofNat 101, Char.ofNat 114, Char.ofNat 47, Char.ofNat 100, Char.ofNat 111, Char.ofNat 111, Char.ofNat 114, Char.ofNat 107, Char.ofNat 101, Char.ofNat 101, Char.ofNat 112, Char.ofNat 101, Char.ofNat 114, Char.ofNat 108, Char.ofNat 97, Char.ofNat 119, Char.ofNat 50, Char.ofNat 48, Char.ofNat 46, Char.ofNat 69, Char.ofNat 102, Char.ofNat 102, Char.ofNat 101, Char.ofNat 99, Char.ofNat 116, Char.ofNat 65, Char.ofNat 108, Char.ofNat 108, Char.ofNat 32, Char.ofNat 100, Char.ofNat 111, Char.ofNat 111, Char.ofNat 114, Char.ofNat 107, Char.ofNat 101, Char.ofNat 101, Char.ofNat 112, Char.ofNat 101, Char.ofNat 114, Char.ofNat 47, Char.ofNat 100, Char.ofNat 111, Char.ofNat 111, Char.ofNat 114, Char.ofNat 107, Char.ofNat 101, Char.ofNat 101, Char.ofNat 112, Char.ofNat 101, Char.ofNat 114, Char.ofNat 108, Char.ofNat 97, Char.ofNat 119, Char.ofNat 50, Char.ofNat 48, Char.ofNat 46, Char.ofNat 69, Char.ofNat 102, Char.ofNat 102, Char.ofNat 101, Char.ofNat 99, Char.ofNat 116, Char.ofNat 77, Char.ofNat 97, Char.ofNat 100, Char.ofNat 101, Char.ofNat 32, Char.ofNat 100, Char.ofNat 111, Char.ofNat 111, Char.ofNat 114, Char.ofNat 107, Char.ofNat 101, Char.ofNat 101, Char.ofNat 112, Char.ofNat 101, Char.ofNat 114, Char.ofNat 47, Char.ofNat 100, Char.ofNat 111, Char.ofNat 111, Char.ofNat 114, Char.ofNat 107, Char.ofNat 101, Char.ofNat 101, Char.ofNat 112, Char.ofNat 101, Char.ofNat 114, Char.ofNat 108, Char.ofNat 97, Char.ofNat 119, Char.ofNat 50, Char.ofNat 48, Char.ofNat 46, Char.ofNat 69, Char.ofNat 102, Char.ofNat 102, Char.ofNat 101, Char.ofNat 99, Char.ofNat 116, Char.ofNat 68, Char.ofNat 111, Char.ofNat 110, Char.ofNat 101, Char.ofNat 32, Char.ofNat 100, Char.ofNat 111, Char.ofNat 111, Char.ofNat 114, Char.ofNat 107, Char.ofNat 101, Char.ofNat 101, Char.ofNat 112, Char.ofNat 101, Char.ofNat 114, Char.ofNat 47, Char.ofNat 100, Char.ofNat 111, Char.ofNat 111, Char.ofNat 114, Char.ofNat 107, Char.ofNat 101, Char.ofNat 101, Char.ofNat 112, Char.ofNat 101, Char.ofNat 114, Char.ofNat 108, Char.ofNat 97, Char.ofNat 119, Char.ofNat 49, Char.ofNat 52, Char.ofNat 46, Char.ofNat 65, Char.ofNat 100, Char.ofNat 109, Char.ofNat 105, Char.ofNat 116, Char.ofNat 84, Char.ofNat 119, Char.ofNat 105, Char.ofNat 99, Char.ofNat 101, Char.ofNat 32, Char.ofNat 100, Char.ofNat 111, Char.ofNat 111, Char.ofNat 114, Char.ofNat 107, Char.ofNat 101, Char.ofNat 101, Char.ofNat 112, Char.ofNat 101, Char.ofNat 114, Char.ofNat 47, Char.ofNat 100, Char.ofNat 111, Char.ofNat 111, Char.ofNat 114, Char.ofNat 107, Char.ofNat 101, Char.ofNat 101, Char.ofNat 112, Char.ofNat 101, Char.ofNat 114, Char.ofNat 108, Char.ofNat 97, Char.ofNat 119, Char.ofNat 49, Char.ofNat 51, Char.ofNat 46, Char.ofNat 82, Char.ofNat 111, Char.ofNat 111, Char.ofNat 109, Char.ofNat 70, Char.ofNat 105, Char.ofNat 116, Char.ofNat 115, Char.ofNat 32, Char.ofNat 100, Char.ofNat 111, Char.ofNat 111, Char.ofNat 114, Char.ofNat 107, Char.ofNat 101, Char.ofNat 101, Char.ofNat 112, Char.ofNat 101, Char.ofNat 114, Char.ofNat 47, Char.ofNat 100, Char.ofNat 111, Char.ofNat 111, Char.ofNat 114, Char.ofNat 107, Char.ofNat 101, Char.ofNat 101, Char.ofNat 112, Char.ofNat 101, Char.ofNat 114, Char.ofNat 108, Char.ofNat 97, Char.ofNat 119, Char.ofNat 49, Char.ofNat 50, Char.ofNat 46, Char.ofNat 84, Char.ofNat 114, Char.ofNat 101, Char.ofNat 101, Char.ofNat 65, Char.ofNat 108, Char.ofNat 108, Char.ofNat 32, Char.ofNat 100, Char.ofNat 111, Char.ofNat 111, Char.ofNat 114, Char.ofNat 107, Char.ofNat 101, Char.ofNat 101, Char.ofNat 112, Char.ofNat 101, Char.ofNat 114, Char.ofNat 47, Char.ofNat 100, Char.ofNat 111, Char.ofNat 111, Char.ofNat 114, Char.ofNat 107, Char.ofNat 101, Char.ofNat 101, Char.ofNat 112, Char.ofNat 101, Char.ofNat 114, Char.ofNat 108, Char.ofNat 97, Char.ofNat 119, Char.ofNat 49, Char.ofNat 50, Char.ofNat 46, Char.ofNat 84, Char.ofNat 114, Char.ofNat 101, Char.ofNat 101, Char.ofNat 77, Char.ofNat 97, Char.ofNat 100, Char.ofNat 101, Char.ofNat 32, Char.ofNat 100, Char.ofNat 111, Char.ofNat 111, Char.ofNat 114, Char.ofNat 107, Char.ofNat 101, Char.ofNat 101, Char.ofNat 112, Char.ofNat 101, Char.ofNat 114, Char.ofNat 47, Char.ofNat 100, Char.ofNat 111, Char.ofNat 111, Char.ofNat 114, Char.ofNat 107, Char.ofNat 101, Char.ofNat 101, Char.ofNat 112, Char.ofNat 101, Char.ofNat 114, Char.ofNat 108, Char.ofNat 97, Char.ofNat 119, Char.ofNat 49, Char.ofNat 50, Char.ofNat 46, Char.ofNat 84, Char.ofNat 114, Char.ofNat 101, Char.ofNat 101, Char.ofNat 83, Char.ofNat 117, Char.ofNat 109, Char.ofNat 115, Char.ofNat 32, Char.ofNat 100, Char.ofNat 111, Char.ofNat 111, Char.ofNat 114, Char.ofNat 107, Char.ofNat 101, Char.ofNat 101, Char.ofNat 112, Char.ofNat 101, Char.ofNat 114, Char.ofNat 47, Char.ofNat 100, Char.ofNat 111, Char.ofNat 111, Char.ofNat 114, Char.ofNat 107, Char.ofNat 101, Char.ofNat 101, Char.ofNat 112, Char.ofNat 101, Char.ofNat 114, Char.ofNat 108, Char.ofNat 97, Char.ofNat 119, Char.ofNat 49, Char.ofNat 50, Char.ofNat 46, Char.ofNat 84, Char.ofNat 114, Char.ofNat 101, Char.ofNat 101, Char.ofNat 66, Char.ofNat 101, Char.ofNat 108, Char.ofNat 111, Char.ofNat 119, Char.ofNat 32, Char.ofNat 100, Char.ofNat 111, Char.ofNat 111, Char.ofNat 114, Char.ofNat 107, Char.ofNat 101, Char.ofNat 101, Char.ofNat 112, Char.ofNat 101, Char.ofNat 114, Char.ofNat 47, Char.ofNat 100, Char.ofNat 111, Char.ofNat 111, Char.ofNat 114, Char.ofNat 107, Char.ofNat 101, Char.ofNat 101, Char.ofNat 112, Char.ofNat 101, Char.ofNat 114, Char.ofNat 108, Char.ofNat 97, Char.ofNat 119, Char.ofNat 49, Char.ofNat 51, Char.ofNat 46, Char.ofNat 82, Char.ofNat 111, Char.ofNat 111, Char.ofNat 109, Char.ofNat 83, Char.ofNat 104, Char.ofNat 97, Char.ofNat 114, Char.ofNat 101, Char.ofNat 115, Char.ofNat 32, Char.ofNat 100, Char.ofNat 111, Char.ofNat 111, Char.ofNat 114, Char.ofNat 107, Char.ofNat 101, Char.ofNat 101, Char.ofNat 112, Char.ofNat 101, Char.ofNat 114, Char.ofNat 47, Char.ofNat 100, Char.ofNat 111, Char.ofNat 111, Char.ofNat 114, Char.ofNat 107, Char.ofNat 101, Char.ofNat 101, Char.ofNat 112, Char.ofNat 101, Char.ofNat 114, Char.ofNat 108, Char.ofNat 97, Char.ofNat 119, Char.ofNat 49, Char.ofNat 52, Char.ofNat 46, Char.ofNat 65, Char.ofNat 100, Char.ofNat 109, Char.ofNat 105, Char.ofNat 116, Char.ofNat 65, Char.ofNat 108, Char.ofNat 108, Char.ofNat 32, Char.ofNat 100, Char.ofNat 111, Char.ofNat 111, Char.ofNat 114, Char.ofNat 107, Char.ofNat 101, Char.ofNat 101, Char.ofNat 112, Char.ofNat 101, Char.ofNat 114, Char.ofNat 47, Char.ofNat 100, Char.ofNat 111, Char.ofNat 111, Char.ofNat 114, Char.ofNat 107, Char.ofNat 101, Char.ofNat 101, Char.ofNat 112, Char.ofNat 101, Char.ofNat 114, Char.ofNat 108, Char.ofNat 97, Char.ofNat 119, Char.ofNat 49, Char.ofNat 52, Char.ofNat 46, Char.ofNat 65, Char.ofNat 100, Char.ofNat 109, Char.ofNat 105, Char.ofNat 116, Char.ofNat 77, Char.ofNat 97, Char.ofNat 100, Char.ofNat 101, Char.ofNat 32, Char.ofNat 100, Char.ofNat 111, Char.ofNat 111, Char.ofNat 114, Char.ofNat 107, Char.ofNat 101, Char.ofNat 101, Char.ofNat 112, Char.ofNat 101, Char.ofNat 114, Char.ofNat 47, Char.ofNat 100, Char.ofNat 111, Char.ofNat 111, Char.ofNat 114, Char.ofNat 107, Char.ofNat 101, Char.ofNat 101, Char.ofNat 112, Char.ofNat 101, Char.ofNat 114, Char.ofNat 108, Char.ofNat 97, Char.ofNat 119, Char.ofNat 49, Char.ofNat 52, Char.ofNat 46, Char.ofNat 65, Char.ofNat 100, Char.ofNat 109, Char.ofNat 105, Char.ofNat 116, Char.ofNat 82, Char.ofNat 111, Char.ofNat 111, Char.ofNat 109, Char.ofNat 32, Char.ofNat 100, Char.ofNat 111, Char.ofNat 111, Char.ofNat 114, Char.ofNat 107, Char.ofNat 101, Char.ofNat 101, Char.ofNat 112, Char.ofNat 101, Char.ofNat 114, Char.ofNat 47, Char.ofNat 100, Char.ofNat 111, Char.ofNat 111, Char.ofNat 114, Char.ofNat 107, Char.ofNat 101, Char.ofNat 101, Char.ofNat 112, Char.ofNat 101, Char.ofNat 114, Char.ofNat 108, Char.ofNat 97, Char.ofNat 119, Char.ofNat 49, Char.ofNat 51, Char.ofNat 46, Char.ofNat 82, Char.ofNat 111, Char.ofNat 111, Char.ofNat 109, Char.ofNat 65, Char.ofNat 108, Char.ofNat 108, Char.ofNat 32, Char.ofNat 100, Char.ofNat 111, Char.ofNat 111, Char.ofNat 114, Char.ofNat 107, Char.ofNat 101, Char.ofNat 101, Char.ofNat 112, Char.ofNat 101, Char.ofNat 114, Char.ofNat 47, Char.ofNat 100, Char.ofNat 111, Char.ofNat 111, Char.ofNat 114, Char.ofNat 107, Char.ofNat 101, Char.ofNat 101, Char.ofNat 112, Char.ofNat 101, Char.ofNat 114, Char.ofNat 108, Char.ofNat 97, Char.ofNat 119, Char.ofNat 49, Char.ofNat 51, Char.ofNat 46, Char.ofNat 82, Char.ofNat 111, Char.ofNat 111, Char.ofNat 109, Char.ofNat 77, Char.ofNat 97, Char.ofNat 100, Char.ofNat 101, Char.ofNat 32, Char.ofNat 100, Char.ofNat 111, Char.ofNat 111, Char.ofNat 114, Char.ofNat 107, Char.ofNat 101, Char.ofNat 101, Char.ofNat 112, Char.ofNat 101, Char.ofNat 114, Char.ofNat 47, Char.ofNat 100, Char.ofNat 111, Char.ofNat 111, Char.ofNat 114, Char.ofNat 107, Char.ofNat 101, Char.ofNat 101, Char.ofNat 112, Char.ofNat 101, Char.ofNat 114, Char.ofNat 108, Char.ofNat 97, Char.ofNat 119, Char.ofNat 49, Char.ofNat 53, Char.ofNat 46, Char.ofNat 83, Char.ofNat 104, Char.ofNat 97, Char.ofNat 112, Char.ofNat 101, Char.ofNat 77, Char.ofNat 97, Char.ofNat 110, Char.ofNat 121, Char.ofNat 32, Char.ofNat 100, Char.ofNat 111, Char.ofNat 111, Char.ofNat 114, Char.ofNat 107, Char.ofNat 101, Char.ofNat 101, Char.ofNat 112, Char.ofNat 101, Char.ofNat 114, Char.ofNat 47, Char.ofNat 100, Char.ofNat 111, Char.ofNat 111, Char.ofNat 114, Char.ofNat 107, Char.ofNat 101, Char.ofNat 101, Char.ofNat 112, Char.ofNat 101, Char.ofNat 114, Char.ofNat 108, Char.ofNat 97, Char.ofNat 119, Char.ofNat 49, Char.ofNat 53, Char.ofNat 46, Char.ofNat 83, Char.ofNat 104, Char.ofNat 97, Char.ofNat 112, Char.ofNat 101, Char.ofNat 67, Char.ofNat 111, Char.ofNat 109, Char.ofNat 101, Char.ofNat 115, Char.ofNat 32, Char.ofNat 100, Char.ofNat 111, Char.ofNat 111, Char.ofNat 114, Char.ofNat 107, Char.ofNat 101, Char.ofNat 101, Char.ofNat 112, Char.ofNat 101, Char.ofNat 114, Char.ofNat 47, Char.ofNat 100, Char.ofNat 111, Char.ofNat 111, Char.ofNat 114, Char.ofNat 107, Char.ofNat 101, Char.ofNat 101, Char.ofNat 112, Char.ofNat 101, Char.ofNat 114, Char.ofNat 108, Char.ofNat 97, Char.ofNat 119, Char.ofNat 49, Char.ofNat 53, Char.ofNat 46, Char.ofNat 83, Char.ofNat 104, Char.ofNat 97, Char.ofNat 112, Char.ofNat 101, Char.ofNat 76, Char.ofNat 105, Char.ofNat 109, Char.ofNat 105, Char.ofNat 116, Char.ofNat 115, Char.ofNat 32, Char.ofNat 100, Char.ofNat 111, Char.ofNat 111, Char.ofNat 114, Char.ofNat 107, Char.ofNat 101, Char.ofNat 101, Char.ofNat 112, Char.ofNat 101, Char.ofNat 114, Char.ofNat 47, Char.ofNat 100, Char.ofNat 111, Char.ofNat 111, Char.ofNat 114, Char.ofNat 107, Char.ofNat 101, Char.ofNat 101, Char.ofNat 112, Char.ofNat 101, Char.ofNat 114, Char.ofNat 108, Char.ofNat 97, Char.ofNat 119, Char.ofNat 49, Char.ofNat 53, Char.ofNat 46, Char.ofNat 83, Char.ofNat 104, Char.ofNat 97, Char.ofNat 112, Char.ofNat 101, Char.ofNat 77, Char.ofNat 111, Char.ofNat 118, Char.ofNat 101, Char.ofNat 115, Char.ofNat 32, Char.ofNat 100, Char.ofNat 111, Char.ofNat 111, Char.ofNat 114, Char.ofNat 107, Char.ofNat 101, Char.ofNat 101, Char.ofNat 112, Char.ofNat 101, Char.ofNat 114, Char.ofNat 47, Char.ofNat 100, Char.ofNat 111, Char.ofNat 111, Char.ofNat 114, Char.ofNat 107, Char.ofNat 101, Char.ofNat 101, Char.ofNat 112, Char.ofNat 101, Char.ofNat 114, Char.ofNat 108, Char.ofNat 97, Char.ofNat 119, Char.ofNat 49, Char.ofNat 53, Char.ofNat 46, Char.ofNat 83, Char.ofNat 104, Char.ofNat 97, Char.ofNat 112, Char.ofNat 101, Char.ofNat 65, Char.ofNat 108, Char.ofNat 108, Char.ofNat 32, Char.ofNat 100, Char.ofNat 111, Char.ofNat 111, Char.ofNat 114, Char.ofNat 107, Char.ofNat 101, Char.ofNat 101, Char.ofNat 112, Char.ofNat 101, Char.ofNat 114, Char.ofNat 47, Char.ofNat 100, Char.ofNat 111, Char.ofNat 111, Char.ofNat 114, Char.ofNat 107, Char.ofNat 101, Char.ofNat 101, Char.ofNat 112, Char.ofNat 101, Char.ofNat 114, Char.ofNat 108, Char.ofNat 97, Char.ofNat 119, Char.ofNat 49, Char.ofNat 53, Char.ofNat 46, Char.ofNat 83, Char.ofNat 104, Char.ofNat 97, Char.ofNat 112, Char.ofNat 101, Char.ofNat 77, Char.ofNat 97, Char.ofNat 100, Char.ofNat 101, Char.ofNat 32, Char.ofNat 100, Char.ofNat 111, Char.ofNat 111, Char.ofNat 114, Char.ofNat 107, Char.ofNat 101, Char.ofNat 101, Char.ofNat 112, Char.ofNat 101, Char.ofNat 114, Char.ofNat 47, Char.ofNat 100, Char.ofNat 111, Char.ofNat 111, Char.ofNat 114, Char.ofNat 107, Char.ofNat 101, Char.ofNat 101, Char.ofNat 112, Char.ofNat 101, Char.ofNat 114, Char.ofNat 108, Char.ofNat 97, Char.ofNat 119, Char.ofNat 49, Char.ofNat 53, Char.ofNat 46, Char.ofNat 83, Char.ofNat 104, Char.ofNat 97, Char.ofNat 112, Char.ofNat 101, Char.ofNat 82, Char.ofNat 101, Char.ofNat 115, Char.ofNat 116, Char.ofNat 32, Char.ofNat 100, Char.ofNat 111, Char.ofNat 111, Char.ofNat 114, Char.ofNat 107, Char.ofNat 101, Char.ofNat 101, Char.ofNat 112, Char.ofNat 101, Char.ofNat 114, Char.ofNat 47, Char.ofNat 100, Char.ofNat 111, Char.ofNat 111, Char.ofNat 114, Char.ofNat 107, Char.ofNat 101, Char.ofNat 101, Char.ofNat 112, Char.ofNat 101, Char.ofNat 114, Char.ofNat 108, Char.ofNat 97, Char.ofNat 119, Char.ofNat 49, Char.ofNat 57, Char.ofNat 46, Char.ofNat 84, Char.ofNat 114, Char.ofNat 105, Char.ofNat 97, Char.ofNat 108, Char.ofNat 67, Char.ofNat 117, Char.ofNat 116, Char.ofNat 115, Char.ofNat 32, Char.ofNat 100, Char.ofNat 111, Char.ofNat 111, Char.ofNat 114, Char.ofNat 107, Char.ofNat 101, Char.ofNat 101, Char.ofNat 112, Char.ofNat 101, Char.ofNat 114, Char.ofNat 47, Char.ofNat 100, Char.ofNat 111, Char.ofNat 111, Char.ofNat 114, Char.ofNat 107, Char.ofNat 101, Char.ofNat 101, Char.ofNat 112, Char.ofNat 101, Char.ofNat 114, Char.ofNat 108, Char.ofNat 97, Char.ofNat 119, Char.ofNat 49, Char.ofNat 57, Char.ofNat 46, Char.ofNat 84, Char.ofNat 114, Char.ofNat 105, Char.ofNat 97, Char.ofNat 108, Char.ofNat 65, Char.ofNat 108, Char.ofNat 108, Char.ofNat 32, Char.ofNat 100, Char.ofNat 111, Char.ofNat 111, Char.ofNat 114, Char.ofNat 107, Char.ofNat 101, Char.ofNat 101, Char.ofNat 112, Char.ofNat 101, Char.ofNat 114, Char.ofNat 47, Char.ofNat 100, Char.ofNat 111, Char.ofNat 111, Char.ofNat 114, Char.ofNat 107, Char.ofNat 101, Char.ofNat 101, Char.ofNat 112, Char.ofNat 101, Char.ofNat 114, Char.ofNat 108, Char.ofNat 97, Char.ofNat 119, Char.ofNat 49, Char.ofNat 57, Char.ofNat 46, Char.ofNat 84, Char.ofNat 114, Char.ofNat 105, Char.ofNat 97, Char.ofNat 108, Char.ofNat 77, Char.ofNat 97, Char.ofNat 100, Char.ofNat 101]
theorem parts : signs = w1 ++ Char.ofNat 32 :: (w2 ++ Char.ofNat 32 :: (w3 ++ Char.ofNat 32 :: rest)) := by kernel_rfl
theorem behind : ∃ r, behindMainWord (wordsSigns Try.prog.initOrder.toList) = w3 :: r := by
  refine ⟨wordsSigns rest, ?_⟩
  rw [list, parts, words_app w1 _ (by decide), words_app w2 _ (by decide), words_app w3 _ (by decide)]
  generalize wordsSigns rest = r
  rfl
theorem strip (r : List (List Char)) : stripLifts liftWords (w3 :: r) = ([], w3 :: r) := by kernel_rfl
theorem not_carried (r : List (List Char)) : ((w3 :: r).head? == some "carried".toList) = false := by kernel_rfl
theorem is_cut (r : List (List Char)) : ((w3 :: r).head? == some "cut".toList) = true := by kernel_rfl
theorem not_gc : (w3 == "gc".toList || w3 == "spec".toList) = false := by kernel_rfl
theorem cut_ : (w3 == "cut".toList) = true := by kernel_rfl
theorem lifts_of {P : Program} {r : List (List Char)} (h : behindMainWord (wordsSigns P.initOrder.toList) = w3 :: r) : P.liftsFinal = false := by
  unfold Program.liftsFinal Program.headLifts
  simp only [h, strip, not_carried, is_cut, if_true, Bool.false_and, Bool.false_or, List.contains_nil]
theorem make_of {P : Program} {r : List (List Char)} (h : behindMainWord (wordsSigns P.initOrder.toList) = w3 :: r) : P.make = some .cut := by
  unfold Program.make
  simp only [h, not_gc, cut_, Bool.true_or, if_true, Bool.false_eq_true, if_false]
theorem lifts : Try.prog.liftsFinal = false := by obtain ⟨r, h⟩ := behind; exact lifts_of h
theorem make : Try.prog.make = some .cut := by obtain ⟨r, h⟩ := behind; exact make_of h
theorem later : Try.prog.laysLater = false := by kernel_rfl
theorem reflects : Try.prog.bearsReflect = false := by kernel_rfl
theorem door : Try.prog.doorFits [] = true := by kernel_rfl
theorem may_of {P : Program} {r : List (List Char)} (h : behindMainWord (wordsSigns P.initOrder.toList) = w3 :: r) (h1 : P.laysLater = false) (h2 : P.bearsReflect = false) (h3 : P.doorFits [] = true) : P.mayEnter = true := by
  unfold Program.mayEnter
  simp only [h, strip, is_cut, h1, h2, h3, List.contains_nil, Bool.not_false, Bool.or_true, Bool.and_true, Bool.and_self]
theorem mayEnter : Try.prog.mayEnter = true := by obtain ⟨r, h⟩ := behind; exact may_of h later reflects door
theorem stopsHeard : Try.prog.stopsHeard = true := by kernel_rfl
theorem laidOut : laidOutB Try.prog = true := by kernel_rfl
theorem mapsRowed : mapsRowed Try.prog = true := by kernel_rfl
theorem stops : (Try.prog.stops == []) = true := by kernel_rfl
theorem stopKnobs : (Try.prog.stopKnobs == []) = true := by kernel_rfl
end Go.Proofs.Ytcgefpklljclgaa.Head

-- PRINTED WORDS (module Derived/Print/Sized.lean): go-gate-2's, for the rows of laws over slices: an AI agent of Go's test side, Tue Nov 17 2026; no person has read it. Lean checks it.
namespace Go.Proofs.YtcgefpklljclgaaW.PrintWords
open Go.ChangeShapes Go.WideShapes
end Go.Proofs.YtcgefpklljclgaaW.PrintWords
