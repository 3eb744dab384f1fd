/- A part of the proof of RoomFits: the machine's side by the kit's print, contracts and lemmas by this session. -/
import Derived.Laws.Strings
import Derived.Test.YtcgefpklljclgaaBRoomFits1
import Derived.Test.YtcgefpklljclgaaBRoomFits2
import Derived.Test.YtcgefpklljclgaaBRoomFits3
import Derived.Test.YtcgefpklljclgaaBRoomFits4
namespace Go.Proofs.Ytcgefpklljclgaa.Print
open Go.RowKit Go.Proofs.YtcgefpklljclgaaW.PrintWords Go.Proofs.YtcgefpklljclgaaW.PrintLast Go.Proofs.YtcgefpklljclgaaW.PrintMore
attribute [local go_sem] max2_int min2_int max_two min_two max_three min_three max_four min_four   -- for this text's walks alone
set_option linter.unusedVariables false
set_option linter.unusedSimpArgs false
mutual
def law13_RoomFits.j0 : Nat → Int → List (S31) → ByteArray → List ByteArray → Bool → Int → Int → Int → Option (Bool)
 | 0, _, _, _, _, _, _, _, _ => none
 | k + 1, x2, x7, x8, x11, x55, x12000, x12001, x12002 => if x55 = true then (some false) else (if (Int.tmod x2 3) = 0 then (law13_RoomFits.j1 k x7 x8 x11 x12000 x12001 x12002 (wrap64 (x12000 + 1)) x12001 x12002) else (if (Int.tmod x2 3) = 1 then (law13_RoomFits.j1 k x7 x8 x11 x12000 x12001 x12002 x12000 (wrap64 (x12001 + 1)) x12002) else (law13_RoomFits.j1 k x7 x8 x11 x12000 x12001 x12002 x12000 x12001 (wrap64 (x12002 + 1)))))
def law13_RoomFits.j1 : Nat → List (S31) → ByteArray → List ByteArray → Int → Int → Int → Int → Int → Int → Option (Bool)
 | 0, _, _, _, _, _, _, _, _, _ => none
 | k + 1, x7, x8, x11, x12000, x12001, x12002, x17000, x17001, x17002 => (r10_Admit.f k x7 x8 x12000 x12001 x12002).bind fun bt17 => (if bt17.2 = 0 then ((r10_Admit.f k x7 x8 x17000 x17001 x17002).bind fun bt22 => (law13_RoomFits.j2 k x11 (bt22.2 != 12) bt17.1 bt17.2)) else (law13_RoomFits.j2 k x11 true bt17.1 bt17.2))
def law13_RoomFits.j2 : Nat → List ByteArray → Bool → List (S31) → Int → Option (Bool)
 | 0, _, _, _, _ => none
 | k + 1, x11, x89, x22000, x22001 => if x89 = true then (some false) else (law13_RoomFits.l0 k x11 0 x22000 x22001)
def law13_RoomFits.l0 : Nat → List ByteArray → Int → List (S31) → Int → Option (Bool)
 | 0, _, _, _, _ => none
 | k + 1, x11, x14, x22000, x22001 => if x14 < (x11.length : Int) then (if 0 ≤ x14 then ((r10_Find.f k x22000 (rdOf ByteArray.empty x11 x14)).bind fun t27 => (if t27 < 0 then (some false) else (if 0 ≤ t27 then (if t27 < (x22000.length : Int) then (if ((rd_T31 x22000 t27).f4.f0) = ((rd_T31 x22000 t27).f2.f0) then (law13_RoomFits.l0 k x11 (wrap64 (x14 + 1)) x22000 x22001) else (if ((rd_T31 x22000 t27).f4.f1) = ((rd_T31 x22000 t27).f2.f1) then (law13_RoomFits.l0 k x11 (wrap64 (x14 + 1)) x22000 x22001) else (if ((rd_T31 x22000 t27).f4.f2) = ((rd_T31 x22000 t27).f2.f2) then (law13_RoomFits.l0 k x11 (wrap64 (x14 + 1)) x22000 x22001) else (some false)))) else (none)) else (none)))) else (none)) else ((law13_awake.f k).bind fun t34 => (some t34))
end
def law13_RoomFits.f (k : Nat) (l0 : List Int) (a1 : Int) (a2 : Int) : Option (Bool) := if (l0.length : Int) > 90 then ((law13_awake.f k).bind fun t1 => (some t1)) else ((law12_Make.f k l0).bind fun t2 => (if (t2.length : Int) = 0 then ((law13_awake.f k).bind fun t5 => (some t5)) else (if 0 ≤ (Int.tmod (wrap64 (a1)) (t2.length : Int)) then (if (Int.tmod (wrap64 (a1)) (t2.length : Int)) < (t2.length : Int) then ((room_Of.f k t2 ((rd_T31 t2 (Int.tmod (wrap64 (a1)) (t2.length : Int))).f0)).bind fun bt7 => ((room_Tight.f k t2 ((rd_T31 t2 (Int.tmod (wrap64 (a1)) (t2.length : Int))).f0)).bind fun t12 => (if bt7.2.2.2 = true then (if (t12.length : Int) = 0 then (law13_RoomFits.j0 k a2 t2 ((rd_T31 t2 (Int.tmod (wrap64 (a1)) (t2.length : Int))).f0) t12 true bt7.1 bt7.2.1 bt7.2.2.1) else ((r10_MayVec.f bt7.1 bt7.2.1 bt7.2.2.1).bind fun t15 => (law13_RoomFits.j0 k a2 t2 ((rd_T31 t2 (Int.tmod (wrap64 (a1)) (t2.length : Int))).f0) t12 (!t15) bt7.1 bt7.2.1 bt7.2.2.1))) else (law13_RoomFits.j0 k a2 t2 ((rd_T31 t2 (Int.tmod (wrap64 (a1)) (t2.length : Int))).f0) t12 true bt7.1 bt7.2.1 bt7.2.2.1)))) else (none)) else (none))))
theorem law13_RoomFits.mono_l : ∀ k, (∀ y0 y1 y2 y3 y4 y5 y6 y7, LeO (law13_RoomFits.j0 k y0 y1 y2 y3 y4 y5 y6 y7) (law13_RoomFits.j0 (k + 1) y0 y1 y2 y3 y4 y5 y6 y7)) ∧ (∀ y0 y1 y2 y3 y4 y5 y6 y7 y8, LeO (law13_RoomFits.j1 k y0 y1 y2 y3 y4 y5 y6 y7 y8) (law13_RoomFits.j1 (k + 1) y0 y1 y2 y3 y4 y5 y6 y7 y8)) ∧ (∀ y0 y1 y2 y3, LeO (law13_RoomFits.j2 k y0 y1 y2 y3) (law13_RoomFits.j2 (k + 1) y0 y1 y2 y3)) ∧ (∀ y0 y1 y2 y3, LeO (law13_RoomFits.l0 k y0 y1 y2 y3) (law13_RoomFits.l0 (k + 1) y0 y1 y2 y3))
 | 0 => ⟨fun _ _ _ _ _ _ _ _ r h => by simp [law13_RoomFits.j0] at h, fun _ _ _ _ _ _ _ _ _ r h => by simp [law13_RoomFits.j1] at h, fun _ _ _ _ r h => by simp [law13_RoomFits.j2] at h, fun _ _ _ _ r h => by simp [law13_RoomFits.l0] at h⟩
 | k + 1 => by
  obtain ⟨ih0, ih1, ih2, ih3⟩ := law13_RoomFits.mono_l k
  refine ⟨?_, ?_, ?_, ?_⟩
  ·intro y0 y1 y2 y3 y4 y5 y6 y7
   unfold law13_RoomFits.j0
   repeat' first
   | (with_reducible exact ih0 _ _ _ _ _ _ _ _)
   | (with_reducible exact ih1 _ _ _ _ _ _ _ _ _)
   | (with_reducible exact ih2 _ _ _ _)
   | (with_reducible exact ih3 _ _ _ _)
   | (with_reducible exact law12_Make.mono _ _)
   | (with_reducible exact law13_awake.mono _)
   | (with_reducible exact r10_Admit.mono _ _ _ _ _ _)
   | (with_reducible exact r10_Find.mono _ _ _)
   | (with_reducible exact room_Of.mono _ _ _)
   | (with_reducible exact room_Tight.mono _ _ _)
   | (with_reducible exact LeO.refl _)
   | (with_reducible exact LeO.none _)
   | (with_reducible refine LeO.ite ?_ ?_)
   | (with_reducible refine LeO.bind ?_ (fun _ => ?_))
   | exact ih0 _ _ _ _ _ _ _ _
   | exact ih1 _ _ _ _ _ _ _ _ _
   | exact ih2 _ _ _ _
   | exact ih3 _ _ _ _
   | exact law12_Make.mono _ _
   | exact law13_awake.mono _
   | exact r10_Admit.mono _ _ _ _ _ _
   | exact r10_Find.mono _ _ _
   | exact room_Of.mono _ _ _
   | exact room_Tight.mono _ _ _
   | exact LeO.none _
   | refine LeO.ite ?_ ?_
   | refine LeO.bind ?_ (fun _ => ?_)
  ·intro y0 y1 y2 y3 y4 y5 y6 y7 y8
   unfold law13_RoomFits.j1
   repeat' first
   | (with_reducible exact ih0 _ _ _ _ _ _ _ _)
   | (with_reducible exact ih1 _ _ _ _ _ _ _ _ _)
   | (with_reducible exact ih2 _ _ _ _)
   | (with_reducible exact ih3 _ _ _ _)
   | (with_reducible exact law12_Make.mono _ _)
   | (with_reducible exact law13_awake.mono _)
   | (with_reducible exact r10_Admit.mono _ _ _ _ _ _)
   | (with_reducible exact r10_Find.mono _ _ _)
   | (with_reducible exact room_Of.mono _ _ _)
   | (with_reducible exact room_Tight.mono _ _ _)
   | (with_reducible exact LeO.refl _)
   | (with_reducible exact LeO.none _)
   | (with_reducible refine LeO.ite ?_ ?_)
   | (with_reducible refine LeO.bind ?_ (fun _ => ?_))
   | exact ih0 _ _ _ _ _ _ _ _
   | exact ih1 _ _ _ _ _ _ _ _ _
   | exact ih2 _ _ _ _
   | exact ih3 _ _ _ _
   | exact law12_Make.mono _ _
   | exact law13_awake.mono _
   | exact r10_Admit.mono _ _ _ _ _ _
   | exact r10_Find.mono _ _ _
   | exact room_Of.mono _ _ _
   | exact room_Tight.mono _ _ _
   | exact LeO.none _
   | refine LeO.ite ?_ ?_
   | refine LeO.bind ?_ (fun _ => ?_)
  ·intro y0 y1 y2 y3
   unfold law13_RoomFits.j2
   repeat' first
   | (with_reducible exact ih0 _ _ _ _ _ _ _ _)
   | (with_reducible exact ih1 _ _ _ _ _ _ _ _ _)
   | (with_reducible exact ih2 _ _ _ _)
   | (with_reducible exact ih3 _ _ _ _)
   | (with_reducible exact law12_Make.mono _ _)
   | (with_reducible exact law13_awake.mono _)
   | (with_reducible exact r10_Admit.mono _ _ _ _ _ _)
   | (with_reducible exact r10_Find.mono _ _ _)
   | (with_reducible exact room_Of.mono _ _ _)
   | (with_reducible exact room_Tight.mono _ _ _)
   | (with_reducible exact LeO.refl _)
   | (with_reducible exact LeO.none _)
   | (with_reducible refine LeO.ite ?_ ?_)
   | (with_reducible refine LeO.bind ?_ (fun _ => ?_))
   | exact ih0 _ _ _ _ _ _ _ _
   | exact ih1 _ _ _ _ _ _ _ _ _
   | exact ih2 _ _ _ _
   | exact ih3 _ _ _ _
   | exact law12_Make.mono _ _
   | exact law13_awake.mono _
   | exact r10_Admit.mono _ _ _ _ _ _
   | exact r10_Find.mono _ _ _
   | exact room_Of.mono _ _ _
   | exact room_Tight.mono _ _ _
   | exact LeO.none _
   | refine LeO.ite ?_ ?_
   | refine LeO.bind ?_ (fun _ => ?_)
  ·intro y0 y1 y2 y3
   unfold law13_RoomFits.l0
   repeat' first
   | (with_reducible exact ih0 _ _ _ _ _ _ _ _)
   | (with_reducible exact ih1 _ _ _ _ _ _ _ _ _)
   | (with_reducible exact ih2 _ _ _ _)
   | (with_reducible exact ih3 _ _ _ _)
   | (with_reducible exact law12_Make.mono _ _)
   | (with_reducible exact law13_awake.mono _)
   | (with_reducible exact r10_Admit.mono _ _ _ _ _ _)
   | (with_reducible exact r10_Find.mono _ _ _)
   | (with_reducible exact room_Of.mono _ _ _)
   | (with_reducible exact room_Tight.mono _ _ _)
   | (with_reducible exact LeO.refl _)
   | (with_reducible exact LeO.none _)
   | (with_reducible refine LeO.ite ?_ ?_)
   | (with_reducible refine LeO.bind ?_ (fun _ => ?_))
   | exact ih0 _ _ _ _ _ _ _ _
   | exact ih1 _ _ _ _ _ _ _ _ _
   | exact ih2 _ _ _ _
   | exact ih3 _ _ _ _
   | exact law12_Make.mono _ _
   | exact law13_awake.mono _
   | exact r10_Admit.mono _ _ _ _ _ _
   | exact r10_Find.mono _ _ _
   | exact room_Of.mono _ _ _
   | exact room_Tight.mono _ _ _
   | exact LeO.none _
   | refine LeO.ite ?_ ?_
   | refine LeO.bind ?_ (fun _ => ?_)
theorem law13_RoomFits.mono : ∀ a0 a1 a2 k, LeO (law13_RoomFits.f k a0 a1 a2) (law13_RoomFits.f (k + 1) a0 a1 a2) := by
 intro a0 a1 a2 k
 obtain ⟨ih0, ih1, ih2, ih3⟩ := law13_RoomFits.mono_l k
 unfold law13_RoomFits.f
 repeat' first
   | (with_reducible exact ih0 _ _ _ _ _ _ _ _)
   | (with_reducible exact ih1 _ _ _ _ _ _ _ _ _)
   | (with_reducible exact ih2 _ _ _ _)
   | (with_reducible exact ih3 _ _ _ _)
   | (with_reducible exact law12_Make.mono _ _)
   | (with_reducible exact law13_awake.mono _)
   | (with_reducible exact r10_Admit.mono _ _ _ _ _ _)
   | (with_reducible exact r10_Find.mono _ _ _)
   | (with_reducible exact room_Of.mono _ _ _)
   | (with_reducible exact room_Tight.mono _ _ _)
   | (with_reducible exact LeO.refl _)
   | (with_reducible exact LeO.none _)
   | (with_reducible refine LeO.ite ?_ ?_)
   | (with_reducible refine LeO.bind ?_ (fun _ => ?_))
   | exact ih0 _ _ _ _ _ _ _ _
   | exact ih1 _ _ _ _ _ _ _ _ _
   | exact ih2 _ _ _ _
   | exact ih3 _ _ _ _
   | exact law12_Make.mono _ _
   | exact law13_awake.mono _
   | exact r10_Admit.mono _ _ _ _ _ _
   | exact r10_Find.mono _ _ _
   | exact room_Of.mono _ _ _
   | exact room_Tight.mono _ _ _
   | exact LeO.none _
   | refine LeO.ite ?_ ?_
   | refine LeO.bind ?_ (fun _ => ?_)
theorem run_fld2_1 {P : Program} {a : Value} {n : Int} {t : Nat} {f0 f1 : Field} {w : World} (h : P.underlying t = some (.struct #[f0, f1])) (h1 : f1.offset = 1) (h2 : ∀ w, Sem.run P (isAgg f1.type) w = .ok false w) : Sem.run P (Instr.field t (.agg #[a, .int .i64 n]) 1) w = .ok (.int .i64 n) w := by
  simp [Instr.field, underlying, h, h1, asAgg, part, h2]
theorem isAgg3 {P : Program} {t : Nat} (h : P.underlying t = some (.int .i64)) : ∀ w, Sem.run P (isAgg t) w = .ok false w := by
  intro w
  simp [isAgg, underlying, h]
set_option maxHeartbeats 8000000 in
set_option maxRecDepth 100000 in
theorem law13_RoomFits.calls (k : Nat) (A0 : Option Addr) (c0 : Nat) (l0 : List Int) (a1 : Int) (a2 : Int) (r : Bool) (w : World) (hr0 : Kd.C (Kd.int .u8) w A0 l0.length l0) (hc0 : l0.length ≤ c0) (h : law13_RoomFits.f k l0 a1 a2 = some r) :
  Calls Try.prog 10 #[.slice A0 l0.length c0, .int .u8 a1, .int .u8 a2] w fun e w' => e = .returned (.bool r) ∧ Below w.heap.size w w' := by
 have hu27 := Try.underlying27
 have hu67 := Try.underlying67
 have HR0 := Aside0.mk hr0
 have HC0 := Aside0.mk hc0
 clear hr0 hc0
 have HB := Aside0.mk (Below.refl w.heap.size w)
 have H : (if (l0.length : Int) > 90 then ((law13_awake.f k).bind fun t1 => (some t1)) else ((law12_Make.f k l0).bind fun t2 => (if (t2.length : Int) = 0 then ((law13_awake.f k).bind fun t5 => (some t5)) else (if 0 ≤ (Int.tmod (wrap64 (a1)) (t2.length : Int)) then (if (Int.tmod (wrap64 (a1)) (t2.length : Int)) < (t2.length : Int) then ((room_Of.f k t2 ((rd_T31 t2 (Int.tmod (wrap64 (a1)) (t2.length : Int))).f0)).bind fun bt7 => ((room_Tight.f k t2 ((rd_T31 t2 (Int.tmod (wrap64 (a1)) (t2.length : Int))).f0)).bind fun t12 => (if bt7.2.2.2 = true then (if (t12.length : Int) = 0 then (law13_RoomFits.j0 k a2 t2 ((rd_T31 t2 (Int.tmod (wrap64 (a1)) (t2.length : Int))).f0) t12 true bt7.1 bt7.2.1 bt7.2.2.1) else ((r10_MayVec.f bt7.1 bt7.2.1 bt7.2.2.1).bind fun t15 => (law13_RoomFits.j0 k a2 t2 ((rd_T31 t2 (Int.tmod (wrap64 (a1)) (t2.length : Int))).f0) t12 (!t15) bt7.1 bt7.2.1 bt7.2.2.1))) else (law13_RoomFits.j0 k a2 t2 ((rd_T31 t2 (Int.tmod (wrap64 (a1)) (t2.length : Int))).f0) t12 true bt7.1 bt7.2.1 bt7.2.2.1)))) else (none)) else (none))))) = some r := h
 clear h
 by_cases c4 : (l0.length : Int) > 90
 ·rw [if_pos c4] at H
  have c4b0 : decide (90 < (l0.length : Int)) = true := decide_eq_true c4
  have c4b1 : decide (90 < l0.length) = true := decide_eq_true (by omega)
  clear c4
  replace H := Option.bind_eq_some_iff.mp H
  obtain ⟨t1, A50, H⟩ := H
  replace H : (some t1) = some r := H
  have A5 := Aside0.mk A50
  clear A50
  obtain rfl := Option.some.inj H
  go_enter Try.func10, Try.ntmps10
  go_wp2_with (first | (go_at_call 31; (with_reducible refine (law13_awake.calls k  t1 _ A5.out).mono ?_); rintro e w6 ⟨rfl, hb⟩; have n0_ := Aside0.mk (below_step (by repeat (first | (with_reducible first | exact HB.out | apply below_alloc | apply pw_below_drewN | apply below_drew1) | exact HB.out)) hb); clear HB; have HB := n0_; clear n0_; (try clear hb); (try clear hb2); (try clear hk); (try clear hi)))
  repeat (go_quiet (first | (go_at_call 31; (with_reducible refine (law13_awake.calls k  t1 _ A5.out).mono ?_); rintro e w6 ⟨rfl, hb⟩; have n0_ := Aside0.mk (below_step (by repeat (first | (with_reducible first | exact HB.out | apply below_alloc | apply pw_below_drewN | apply below_drew1) | exact HB.out)) hb); clear HB; have HB := n0_; clear n0_; (try clear hb); (try clear hb2); (try clear hk); (try clear hi))); try go_wp2_with (first | (go_at_call 31; (with_reducible refine (law13_awake.calls k  t1 _ A5.out).mono ?_); rintro e w6 ⟨rfl, hb⟩; have n0_ := Aside0.mk (below_step (by repeat (first | (with_reducible first | exact HB.out | apply below_alloc | apply pw_below_drewN | apply below_drew1) | exact HB.out)) hb); clear HB; have HB := n0_; clear n0_; (try clear hb); (try clear hb2); (try clear hk); (try clear hi))))
  go_ret
  exact ⟨by first | rfl | (simp [errW_none, errW_some] <;> rfl) | (simp [*, errW_none, errW_some] <;> rfl), by repeat (first | (with_reducible first | exact HB.out | apply below_alloc | apply pw_below_drewN | apply below_drew1) | exact HB.out)⟩
 ·rw [if_neg c4] at H
  have c4b0 : decide (90 < (l0.length : Int)) = false := decide_eq_false c4
  have c4b1 : decide (90 < l0.length) = false := decide_eq_false (by omega)
  clear c4
  replace H := Option.bind_eq_some_iff.mp H
  obtain ⟨t2, A70, H⟩ := H
  replace H : (if (t2.length : Int) = 0 then ((law13_awake.f k).bind fun t5 => (some t5)) else (if 0 ≤ (Int.tmod (wrap64 (a1)) (t2.length : Int)) then (if (Int.tmod (wrap64 (a1)) (t2.length : Int)) < (t2.length : Int) then ((room_Of.f k t2 ((rd_T31 t2 (Int.tmod (wrap64 (a1)) (t2.length : Int))).f0)).bind fun bt7 => ((room_Tight.f k t2 ((rd_T31 t2 (Int.tmod (wrap64 (a1)) (t2.length : Int))).f0)).bind fun t12 => (if bt7.2.2.2 = true then (if (t12.length : Int) = 0 then (law13_RoomFits.j0 k a2 t2 ((rd_T31 t2 (Int.tmod (wrap64 (a1)) (t2.length : Int))).f0) t12 true bt7.1 bt7.2.1 bt7.2.2.1) else ((r10_MayVec.f bt7.1 bt7.2.1 bt7.2.2.1).bind fun t15 => (law13_RoomFits.j0 k a2 t2 ((rd_T31 t2 (Int.tmod (wrap64 (a1)) (t2.length : Int))).f0) t12 (!t15) bt7.1 bt7.2.1 bt7.2.2.1))) else (law13_RoomFits.j0 k a2 t2 ((rd_T31 t2 (Int.tmod (wrap64 (a1)) (t2.length : Int))).f0) t12 true bt7.1 bt7.2.1 bt7.2.2.1)))) else (none)) else (none))) = some r := H
  have A7 := Aside0.mk A70
  clear A70
  by_cases c8 : (t2.length : Int) = 0
  ·rw [if_pos c8] at H
   have c8b0 : ((t2.length : Int) == 0) = true := beq_iff_eq.mpr c8
   have c8b1 : ((t2.length : Int) != 0) = false := bne_eq_false_iff_eq.mpr c8
   clear c8
   replace H := Option.bind_eq_some_iff.mp H
   obtain ⟨t5, A90, H⟩ := H
   replace H : (some t5) = some r := H
   have A9 := Aside0.mk A90
   clear A90
   obtain rfl := Option.some.inj H
   go_enter Try.func10, Try.ntmps10
   go_wp2_with (first | (go_at_call 32; (with_reducible refine (law12_Make.calls k _ _ l0 t2 _ ?side1 ?side2 A7.out).mono ?_); (case side1 => repeat (first | exact HR0.out | (with_reducible refine Kd.C_alloc ?_ _) | (with_reducible refine Kd.C_drewN ?_ _) | (with_reducible refine Kd.C_drew ?_))); (case side2 => exact HC0.out); rintro e w10 ⟨v3, rfl, ho0, hb⟩; have n0_ := Aside0.mk (Kd.R_lower ho0 (below_size (by repeat (first | (with_reducible first | exact HB.out | apply below_alloc | apply pw_below_drewN | apply below_drew1) | exact HB.out)))); have n1_ := Aside0.mk (below_step (by repeat (first | (with_reducible first | exact HB.out | apply below_alloc | apply pw_below_drewN | apply below_drew1) | exact HB.out)) hb); clear HB; have HO4 := n0_; have HB := n1_; clear n0_ n1_; (try clear hb); (try clear hb2); (try clear hk); (try clear hi); (try clear ho0); obtain ⟨Ao11, co11, eo11⟩ := Kd.R_slice HO4.out; subst eo11) | (go_at_call 31; (with_reducible refine (law13_awake.calls k  t5 _ A9.out).mono ?_); rintro e w12 ⟨rfl, hb⟩; have n0_ := Aside0.mk (Kd.R_below (by (with_reducible repeat (first | apply Kd.R_alloc | apply Kd.R_drewN | apply Kd.R_drew)); exact HO4.out) hb); have n1_ := Aside0.mk (below_step (by repeat (first | (with_reducible first | exact HB.out | apply below_alloc | apply pw_below_drewN | apply below_drew1) | exact HB.out)) hb); clear HO4; clear HB; have HO4 := n0_; have HB := n1_; clear n0_ n1_; (try clear hb); (try clear hb2); (try clear hk); (try clear hi)))
   repeat (go_quiet (first | (go_at_call 32; (with_reducible refine (law12_Make.calls k _ _ l0 t2 _ ?side1 ?side2 A7.out).mono ?_); (case side1 => repeat (first | exact HR0.out | (with_reducible refine Kd.C_alloc ?_ _) | (with_reducible refine Kd.C_drewN ?_ _) | (with_reducible refine Kd.C_drew ?_))); (case side2 => exact HC0.out); rintro e w10 ⟨v3, rfl, ho0, hb⟩; have n0_ := Aside0.mk (Kd.R_lower ho0 (below_size (by repeat (first | (with_reducible first | exact HB.out | apply below_alloc | apply pw_below_drewN | apply below_drew1) | exact HB.out)))); have n1_ := Aside0.mk (below_step (by repeat (first | (with_reducible first | exact HB.out | apply below_alloc | apply pw_below_drewN | apply below_drew1) | exact HB.out)) hb); clear HB; have HO4 := n0_; have HB := n1_; clear n0_ n1_; (try clear hb); (try clear hb2); (try clear hk); (try clear hi); (try clear ho0); obtain ⟨Ao11, co11, eo11⟩ := Kd.R_slice HO4.out; subst eo11) | (go_at_call 31; (with_reducible refine (law13_awake.calls k  t5 _ A9.out).mono ?_); rintro e w12 ⟨rfl, hb⟩; have n0_ := Aside0.mk (Kd.R_below (by (with_reducible repeat (first | apply Kd.R_alloc | apply Kd.R_drewN | apply Kd.R_drew)); exact HO4.out) hb); have n1_ := Aside0.mk (below_step (by repeat (first | (with_reducible first | exact HB.out | apply below_alloc | apply pw_below_drewN | apply below_drew1) | exact HB.out)) hb); clear HO4; clear HB; have HO4 := n0_; have HB := n1_; clear n0_ n1_; (try clear hb); (try clear hb2); (try clear hk); (try clear hi))); try go_wp2_with (first | (go_at_call 32; (with_reducible refine (law12_Make.calls k _ _ l0 t2 _ ?side1 ?side2 A7.out).mono ?_); (case side1 => repeat (first | exact HR0.out | (with_reducible refine Kd.C_alloc ?_ _) | (with_reducible refine Kd.C_drewN ?_ _) | (with_reducible refine Kd.C_drew ?_))); (case side2 => exact HC0.out); rintro e w10 ⟨v3, rfl, ho0, hb⟩; have n0_ := Aside0.mk (Kd.R_lower ho0 (below_size (by repeat (first | (with_reducible first | exact HB.out | apply below_alloc | apply pw_below_drewN | apply below_drew1) | exact HB.out)))); have n1_ := Aside0.mk (below_step (by repeat (first | (with_reducible first | exact HB.out | apply below_alloc | apply pw_below_drewN | apply below_drew1) | exact HB.out)) hb); clear HB; have HO4 := n0_; have HB := n1_; clear n0_ n1_; (try clear hb); (try clear hb2); (try clear hk); (try clear hi); (try clear ho0); obtain ⟨Ao11, co11, eo11⟩ := Kd.R_slice HO4.out; subst eo11) | (go_at_call 31; (with_reducible refine (law13_awake.calls k  t5 _ A9.out).mono ?_); rintro e w12 ⟨rfl, hb⟩; have n0_ := Aside0.mk (Kd.R_below (by (with_reducible repeat (first | apply Kd.R_alloc | apply Kd.R_drewN | apply Kd.R_drew)); exact HO4.out) hb); have n1_ := Aside0.mk (below_step (by repeat (first | (with_reducible first | exact HB.out | apply below_alloc | apply pw_below_drewN | apply below_drew1) | exact HB.out)) hb); clear HO4; clear HB; have HO4 := n0_; have HB := n1_; clear n0_ n1_; (try clear hb); (try clear hb2); (try clear hk); (try clear hi))))
   go_ret
   exact ⟨by first | rfl | (simp [errW_none, errW_some] <;> rfl) | (simp [*, errW_none, errW_some] <;> rfl), by repeat (first | (with_reducible first | exact HB.out | apply below_alloc | apply pw_below_drewN | apply below_drew1) | exact HB.out)⟩
  ·rw [if_neg c8] at H
   have c8b0 : ((t2.length : Int) == 0) = false := beq_eq_false_iff_ne.mpr c8
   have c8b1 : ((t2.length : Int) != 0) = true := bne_iff_ne.mpr c8
   have c8b2 : ¬ (t2 = []) := fun h_ => c8 (by rw [h_]; rfl)
   obtain ⟨ji13, hji13⟩ : ∃ j_ : Int, (Int.tmod (wrap64 (a1)) (t2.length : Int)) = j_ := ⟨_, rfl⟩
   replace H : (if 0 ≤ (ji13) then (if (ji13) < (t2.length : Int) then ((room_Of.f k t2 ((rd_T31 t2 (ji13)).f0)).bind fun bt7 => ((room_Tight.f k t2 ((rd_T31 t2 (ji13)).f0)).bind fun t12 => (if bt7.2.2.2 = true then (if (t12.length : Int) = 0 then (law13_RoomFits.j0 k a2 t2 ((rd_T31 t2 (ji13)).f0) t12 true bt7.1 bt7.2.1 bt7.2.2.1) else ((r10_MayVec.f bt7.1 bt7.2.1 bt7.2.2.1).bind fun t15 => (law13_RoomFits.j0 k a2 t2 ((rd_T31 t2 (ji13)).f0) t12 (!t15) bt7.1 bt7.2.1 bt7.2.2.1))) else (law13_RoomFits.j0 k a2 t2 ((rd_T31 t2 (ji13)).f0) t12 true bt7.1 bt7.2.1 bt7.2.2.1)))) else (none)) else (none)) = some r := by first | (rw [hji13] at H; exact H) | (simp only [hji13] at H ⊢; exact H)
   (try rw [hji13] at A7)
   by_cases c14 : 0 ≤ (ji13)
   ·rw [if_pos c14] at H
    have c14b0 : decide (0 ≤ (ji13)) = true := decide_eq_true c14
    clear c14
    by_cases c15 : (ji13) < (t2.length : Int)
    ·rw [if_pos c15] at H
     have c15b0 : decide ((ji13) < (t2.length : Int)) = true := decide_eq_true c15
     clear c15
     replace H := Option.bind_eq_some_iff.mp H
     obtain ⟨⟨t7, t8, t9, t10⟩, A160, H⟩ := H
     replace H : ((room_Tight.f k t2 ((rd_T31 t2 (ji13)).f0)).bind fun t12 => (if t10 = true then (if (t12.length : Int) = 0 then (law13_RoomFits.j0 k a2 t2 ((rd_T31 t2 (ji13)).f0) t12 true t7 t8 t9) else ((r10_MayVec.f t7 t8 t9).bind fun t15 => (law13_RoomFits.j0 k a2 t2 ((rd_T31 t2 (ji13)).f0) t12 (!t15) t7 t8 t9))) else (law13_RoomFits.j0 k a2 t2 ((rd_T31 t2 (ji13)).f0) t12 true t7 t8 t9))) = some r := H
     have A16 := Aside0.mk A160
     clear A160
     replace H := Option.bind_eq_some_iff.mp H
     obtain ⟨t12, A170, H⟩ := H
     replace H : (if t10 = true then (if (t12.length : Int) = 0 then (law13_RoomFits.j0 k a2 t2 ((rd_T31 t2 (ji13)).f0) t12 true t7 t8 t9) else ((r10_MayVec.f t7 t8 t9).bind fun t15 => (law13_RoomFits.j0 k a2 t2 ((rd_T31 t2 (ji13)).f0) t12 (!t15) t7 t8 t9))) else (law13_RoomFits.j0 k a2 t2 ((rd_T31 t2 (ji13)).f0) t12 true t7 t8 t9)) = some r := H
     have A17 := Aside0.mk A170
     clear A170
     have HC18 := Aside0.mk H
     clear H
     go_enter Try.func10, Try.ntmps10
     go_upto_region 9 with (first | (go_at_call 32; (with_reducible refine (law12_Make.calls k _ _ l0 t2 _ ?side1 ?side2 A7.out).mono ?_); (case side1 => repeat (first | exact HR0.out | (with_reducible refine Kd.C_alloc ?_ _) | (with_reducible refine Kd.C_drewN ?_ _) | (with_reducible refine Kd.C_drew ?_))); (case side2 => exact HC0.out); rintro e w19 ⟨v3, rfl, ho0, hb⟩; have n0_ := Aside0.mk (Kd.R_lower ho0 (below_size (by repeat (first | (with_reducible first | exact HB.out | apply below_alloc | apply pw_below_drewN | apply below_drew1) | exact HB.out)))); have n1_ := Aside0.mk (below_step (by repeat (first | (with_reducible first | exact HB.out | apply below_alloc | apply pw_below_drewN | apply below_drew1) | exact HB.out)) hb); clear HB; have HO4 := n0_; have HB := n1_; clear n0_ n1_; (try clear hb); (try clear hb2); (try clear hk); (try clear hi); (try clear ho0); obtain ⟨Ao20, co20, eo20⟩ := Kd.R_slice HO4.out; subst eo20; have p6 : 0 ≤ ((ji13) : Int) := of_decide_eq_true (by first | (with_reducible assumption) | assumption); have q6 : (ji13) < (t2.length : Int) := of_decide_eq_true (by first | (with_reducible assumption) | assumption); obtain ⟨ad6, e6, hx6_0, hx6_1, hx6_2, hx6_3, hx6_4, hx6_5, hx6_6, hx6_7, hx6_8, hx6_9, hx6_10, hx6_11⟩ := at_T31 (Kd.R_reads' HO4.out).2.2 (ji13) p6 q6; cases e6; replace p6 := eq_true p6; replace q6 := eq_true q6) | (go_at_call 33; (with_reducible refine (room_Of.calls k _ _ t2 ((rd_T31 t2 (ji13)).f0) t7 t8 t9 t10 _ ?side1 ?side2 A16.out).mono ?_); (case side1 => repeat (first | exact (Kd.R_reads' HO4.out).2.2 | (with_reducible refine Kd.C_alloc ?_ _) | (with_reducible refine Kd.C_drewN ?_ _) | (with_reducible refine Kd.C_drew ?_))); (case side2 => exact (Kd.R_reads' HO4.out).2.1); rintro e w21 ⟨rfl, hb⟩; have n0_ := Aside0.mk (Kd.R_below (by (with_reducible repeat (first | apply Kd.R_alloc | apply Kd.R_drewN | apply Kd.R_drew)); exact HO4.out) hb); have n1_ := Aside0.mk (below_step (by repeat (first | (with_reducible first | exact HB.out | apply below_alloc | apply pw_below_drewN | apply below_drew1) | exact HB.out)) hb); clear HO4; clear HB; have HO4 := n0_; have HB := n1_; clear n0_ n1_; (try clear hb); (try clear hb2); (try clear hk); (try clear hi)) | ((with_reducible refine gate_dst (N := 9) rfl ?_); (try (refine gate_guard (by rfl) ?_; dsimp only)); refine box_event ?hg (N := 9) ?hd (cs := #[.int .i64 0, .int .i64 0, .int .i64 0]) (t := 27) ?hr ?_; (case hd => rfl); (case hg => rfl); (case hr => first | (go_simp; done) | (go_simp; rfl)); intro gb11 hg w22 hbox hb; have n0_ := Aside0.mk (Kd.R_below (by (with_reducible repeat (first | apply Kd.R_alloc | apply Kd.R_drewN | apply Kd.R_drew)); exact HO4.out) hb); have n1_ := Aside0.mk (below_step (by repeat (first | (with_reducible first | exact HB.out | apply below_alloc | apply pw_below_drewN | apply below_drew1) | exact HB.out)) hb); have n2_ := Aside0.mk (hbox); have n3_ := Aside0.mk ((by rw [hg]; exact (below_size (by repeat (first | (with_reducible first | exact HB.out | apply below_alloc | apply pw_below_drewN | apply below_drew1) | exact HB.out))) : w.heap.size ≤ gb11)); have n4_ := Aside0.mk ((by rw [hg]; exact (below_size (by repeat (first | (with_reducible first | exact HB.out | apply below_alloc | apply pw_below_drewN | apply below_drew1) | exact HB.out))) : w.heap.size ≤ gb11)); clear HO4; clear HB; have HO4 := n0_; have HB := n1_; have BK11 := n2_; have GW11 := n3_; have GE11 := n4_; clear n0_ n1_ n2_ n3_ n4_; clear hb hbox hg; have hcz23_0 : w22.cell? ⟨gb11, 0, none⟩ = some (.int .i64 0) := (blk_cell BK11.out 0).trans rfl; have hcz23_1 : w22.cell? ⟨gb11, 1, none⟩ = some (.int .i64 0) := (blk_cell BK11.out 1).trans rfl; have hcz23_2 : w22.cell? ⟨gb11, 2, none⟩ = some (.int .i64 0) := (blk_cell BK11.out 2).trans rfl; have hfz23_0 := blk_frozen BK11.out 0; have hfz23_1 := blk_frozen BK11.out 1; have hfz23_2 := blk_frozen BK11.out 2) | (go_at_call 64; (with_reducible refine (room_Tight.calls k _ _ t2 ((rd_T31 t2 (ji13)).f0) t12 _ ?side1 ?side2 A17.out).mono ?_); (case side1 => refine (Kd.R_reads' (e := 31) (base := w.heap.size) (ok := fun k_ => True) (n := t2.length) (c := co20) ?_).2.2; exact (by (with_reducible repeat (first | apply Kd.R_alloc | apply Kd.R_drewN | apply Kd.R_drew)); exact (Kd.R_mono (Kd.R_far (p := ⟨gb11, 2, none⟩) (Kd.R_far (p := ⟨gb11, 1, none⟩) (Kd.R_far (p := ⟨gb11, 0, none⟩) (Kd.R_types HO4.out BK11.out (by decide)) (fun _ hk => hk.2) (.int .i64 t7)) (fun _ hk => hk.2) (.int .i64 t8)) (fun _ hk => hk.2) (.int .i64 t9)) (fun _ h_ => h_.1)))); (case side2 => exact (Kd.R_reads' HO4.out).2.1); rintro e w24 ⟨v13, rfl, ho0, hb⟩; have n0_ := Aside0.mk (Kd.R_below (by (with_reducible repeat (first | apply Kd.R_alloc | apply Kd.R_drewN | apply Kd.R_drew)); exact (Kd.R_mono (Kd.R_far (p := ⟨gb11, 2, none⟩) (Kd.R_far (p := ⟨gb11, 1, none⟩) (Kd.R_far (p := ⟨gb11, 0, none⟩) (Kd.R_types HO4.out BK11.out (by decide)) (fun _ hk => hk.2) (.int .i64 t7)) (fun _ hk => hk.2) (.int .i64 t8)) (fun _ hk => hk.2) (.int .i64 t9)) (fun _ h_ => h_.1))) hb); have n1_ := Aside0.mk (Kd.R_lower ho0 (below_size (by repeat (first | (with_reducible first | exact HB.out | apply below_alloc | apply pw_below_drewN | apply below_drew1 | refine below_set ?_ GE11.out) | exact HB.out)))); have n2_ := Aside0.mk (blk_below (g := gb11) (o := .cells #[.int .i64 t7, .int .i64 t8, .int .i64 t9] 27 (0, 0)) (by (with_reducible repeat (first | refine blk_drewN ?_ _ | refine blk_drew ?_ | refine blk_alloc ?_ _)); refine blk_put (cs := #[.int .i64 t7, .int .i64 t8, .int .i64 0]) ?_ 2 _ rfl; (with_reducible repeat (first | refine blk_drewN ?_ _ | refine blk_drew ?_ | refine blk_alloc ?_ _)); refine blk_put (cs := #[.int .i64 t7, .int .i64 0, .int .i64 0]) ?_ 1 _ rfl; (with_reducible repeat (first | refine blk_drewN ?_ _ | refine blk_drew ?_ | refine blk_alloc ?_ _)); refine blk_put (cs := #[.int .i64 0, .int .i64 0, .int .i64 0]) ?_ 0 _ rfl; (with_reducible repeat (first | refine blk_drewN ?_ _ | refine blk_drew ?_ | refine blk_alloc ?_ _)); exact BK11.out) hb); have n3_ := Aside0.mk (below_step (by repeat (first | (with_reducible first | exact HB.out | apply below_alloc | apply pw_below_drewN | apply below_drew1 | refine below_set ?_ GE11.out) | exact HB.out)) hb); clear HO4; clear BK11; clear HB; have HO4 := n0_; have HO14 := n1_; have BK11 := n2_; have HB := n3_; clear n0_ n1_ n2_ n3_; (try clear hb); (try clear hb2); (try clear hk); (try clear hi); (try clear ho0)))
     repeat (go_quiet (first | (go_at_call 32; (with_reducible refine (law12_Make.calls k _ _ l0 t2 _ ?side1 ?side2 A7.out).mono ?_); (case side1 => repeat (first | exact HR0.out | (with_reducible refine Kd.C_alloc ?_ _) | (with_reducible refine Kd.C_drewN ?_ _) | (with_reducible refine Kd.C_drew ?_))); (case side2 => exact HC0.out); rintro e w19 ⟨v3, rfl, ho0, hb⟩; have n0_ := Aside0.mk (Kd.R_lower ho0 (below_size (by repeat (first | (with_reducible first | exact HB.out | apply below_alloc | apply pw_below_drewN | apply below_drew1) | exact HB.out)))); have n1_ := Aside0.mk (below_step (by repeat (first | (with_reducible first | exact HB.out | apply below_alloc | apply pw_below_drewN | apply below_drew1) | exact HB.out)) hb); clear HB; have HO4 := n0_; have HB := n1_; clear n0_ n1_; (try clear hb); (try clear hb2); (try clear hk); (try clear hi); (try clear ho0); obtain ⟨Ao20, co20, eo20⟩ := Kd.R_slice HO4.out; subst eo20; have p6 : 0 ≤ ((ji13) : Int) := of_decide_eq_true (by first | (with_reducible assumption) | assumption); have q6 : (ji13) < (t2.length : Int) := of_decide_eq_true (by first | (with_reducible assumption) | assumption); obtain ⟨ad6, e6, hx6_0, hx6_1, hx6_2, hx6_3, hx6_4, hx6_5, hx6_6, hx6_7, hx6_8, hx6_9, hx6_10, hx6_11⟩ := at_T31 (Kd.R_reads' HO4.out).2.2 (ji13) p6 q6; cases e6; replace p6 := eq_true p6; replace q6 := eq_true q6) | (go_at_call 33; (with_reducible refine (room_Of.calls k _ _ t2 ((rd_T31 t2 (ji13)).f0) t7 t8 t9 t10 _ ?side1 ?side2 A16.out).mono ?_); (case side1 => repeat (first | exact (Kd.R_reads' HO4.out).2.2 | (with_reducible refine Kd.C_alloc ?_ _) | (with_reducible refine Kd.C_drewN ?_ _) | (with_reducible refine Kd.C_drew ?_))); (case side2 => exact (Kd.R_reads' HO4.out).2.1); rintro e w21 ⟨rfl, hb⟩; have n0_ := Aside0.mk (Kd.R_below (by (with_reducible repeat (first | apply Kd.R_alloc | apply Kd.R_drewN | apply Kd.R_drew)); exact HO4.out) hb); have n1_ := Aside0.mk (below_step (by repeat (first | (with_reducible first | exact HB.out | apply below_alloc | apply pw_below_drewN | apply below_drew1) | exact HB.out)) hb); clear HO4; clear HB; have HO4 := n0_; have HB := n1_; clear n0_ n1_; (try clear hb); (try clear hb2); (try clear hk); (try clear hi)) | ((with_reducible refine gate_dst (N := 9) rfl ?_); (try (refine gate_guard (by rfl) ?_; dsimp only)); refine box_event ?hg (N := 9) ?hd (cs := #[.int .i64 0, .int .i64 0, .int .i64 0]) (t := 27) ?hr ?_; (case hd => rfl); (case hg => rfl); (case hr => first | (go_simp; done) | (go_simp; rfl)); intro gb11 hg w22 hbox hb; have n0_ := Aside0.mk (Kd.R_below (by (with_reducible repeat (first | apply Kd.R_alloc | apply Kd.R_drewN | apply Kd.R_drew)); exact HO4.out) hb); have n1_ := Aside0.mk (below_step (by repeat (first | (with_reducible first | exact HB.out | apply below_alloc | apply pw_below_drewN | apply below_drew1) | exact HB.out)) hb); have n2_ := Aside0.mk (hbox); have n3_ := Aside0.mk ((by rw [hg]; exact (below_size (by repeat (first | (with_reducible first | exact HB.out | apply below_alloc | apply pw_below_drewN | apply below_drew1) | exact HB.out))) : w.heap.size ≤ gb11)); have n4_ := Aside0.mk ((by rw [hg]; exact (below_size (by repeat (first | (with_reducible first | exact HB.out | apply below_alloc | apply pw_below_drewN | apply below_drew1) | exact HB.out))) : w.heap.size ≤ gb11)); clear HO4; clear HB; have HO4 := n0_; have HB := n1_; have BK11 := n2_; have GW11 := n3_; have GE11 := n4_; clear n0_ n1_ n2_ n3_ n4_; clear hb hbox hg; have hcz23_0 : w22.cell? ⟨gb11, 0, none⟩ = some (.int .i64 0) := (blk_cell BK11.out 0).trans rfl; have hcz23_1 : w22.cell? ⟨gb11, 1, none⟩ = some (.int .i64 0) := (blk_cell BK11.out 1).trans rfl; have hcz23_2 : w22.cell? ⟨gb11, 2, none⟩ = some (.int .i64 0) := (blk_cell BK11.out 2).trans rfl; have hfz23_0 := blk_frozen BK11.out 0; have hfz23_1 := blk_frozen BK11.out 1; have hfz23_2 := blk_frozen BK11.out 2) | (go_at_call 64; (with_reducible refine (room_Tight.calls k _ _ t2 ((rd_T31 t2 (ji13)).f0) t12 _ ?side1 ?side2 A17.out).mono ?_); (case side1 => refine (Kd.R_reads' (e := 31) (base := w.heap.size) (ok := fun k_ => True) (n := t2.length) (c := co20) ?_).2.2; exact (by (with_reducible repeat (first | apply Kd.R_alloc | apply Kd.R_drewN | apply Kd.R_drew)); exact (Kd.R_mono (Kd.R_far (p := ⟨gb11, 2, none⟩) (Kd.R_far (p := ⟨gb11, 1, none⟩) (Kd.R_far (p := ⟨gb11, 0, none⟩) (Kd.R_types HO4.out BK11.out (by decide)) (fun _ hk => hk.2) (.int .i64 t7)) (fun _ hk => hk.2) (.int .i64 t8)) (fun _ hk => hk.2) (.int .i64 t9)) (fun _ h_ => h_.1)))); (case side2 => exact (Kd.R_reads' HO4.out).2.1); rintro e w24 ⟨v13, rfl, ho0, hb⟩; have n0_ := Aside0.mk (Kd.R_below (by (with_reducible repeat (first | apply Kd.R_alloc | apply Kd.R_drewN | apply Kd.R_drew)); exact (Kd.R_mono (Kd.R_far (p := ⟨gb11, 2, none⟩) (Kd.R_far (p := ⟨gb11, 1, none⟩) (Kd.R_far (p := ⟨gb11, 0, none⟩) (Kd.R_types HO4.out BK11.out (by decide)) (fun _ hk => hk.2) (.int .i64 t7)) (fun _ hk => hk.2) (.int .i64 t8)) (fun _ hk => hk.2) (.int .i64 t9)) (fun _ h_ => h_.1))) hb); have n1_ := Aside0.mk (Kd.R_lower ho0 (below_size (by repeat (first | (with_reducible first | exact HB.out | apply below_alloc | apply pw_below_drewN | apply below_drew1 | refine below_set ?_ GE11.out) | exact HB.out)))); have n2_ := Aside0.mk (blk_below (g := gb11) (o := .cells #[.int .i64 t7, .int .i64 t8, .int .i64 t9] 27 (0, 0)) (by (with_reducible repeat (first | refine blk_drewN ?_ _ | refine blk_drew ?_ | refine blk_alloc ?_ _)); refine blk_put (cs := #[.int .i64 t7, .int .i64 t8, .int .i64 0]) ?_ 2 _ rfl; (with_reducible repeat (first | refine blk_drewN ?_ _ | refine blk_drew ?_ | refine blk_alloc ?_ _)); refine blk_put (cs := #[.int .i64 t7, .int .i64 0, .int .i64 0]) ?_ 1 _ rfl; (with_reducible repeat (first | refine blk_drewN ?_ _ | refine blk_drew ?_ | refine blk_alloc ?_ _)); refine blk_put (cs := #[.int .i64 0, .int .i64 0, .int .i64 0]) ?_ 0 _ rfl; (with_reducible repeat (first | refine blk_drewN ?_ _ | refine blk_drew ?_ | refine blk_alloc ?_ _)); exact BK11.out) hb); have n3_ := Aside0.mk (below_step (by repeat (first | (with_reducible first | exact HB.out | apply below_alloc | apply pw_below_drewN | apply below_drew1 | refine below_set ?_ GE11.out) | exact HB.out)) hb); clear HO4; clear BK11; clear HB; have HO4 := n0_; have HO14 := n1_; have BK11 := n2_; have HB := n3_; clear n0_ n1_ n2_ n3_; (try clear hb); (try clear hb2); (try clear hk); (try clear hi); (try clear ho0))); go_upto_region 9 with (first | (go_at_call 32; (with_reducible refine (law12_Make.calls k _ _ l0 t2 _ ?side1 ?side2 A7.out).mono ?_); (case side1 => repeat (first | exact HR0.out | (with_reducible refine Kd.C_alloc ?_ _) | (with_reducible refine Kd.C_drewN ?_ _) | (with_reducible refine Kd.C_drew ?_))); (case side2 => exact HC0.out); rintro e w19 ⟨v3, rfl, ho0, hb⟩; have n0_ := Aside0.mk (Kd.R_lower ho0 (below_size (by repeat (first | (with_reducible first | exact HB.out | apply below_alloc | apply pw_below_drewN | apply below_drew1) | exact HB.out)))); have n1_ := Aside0.mk (below_step (by repeat (first | (with_reducible first | exact HB.out | apply below_alloc | apply pw_below_drewN | apply below_drew1) | exact HB.out)) hb); clear HB; have HO4 := n0_; have HB := n1_; clear n0_ n1_; (try clear hb); (try clear hb2); (try clear hk); (try clear hi); (try clear ho0); obtain ⟨Ao20, co20, eo20⟩ := Kd.R_slice HO4.out; subst eo20; have p6 : 0 ≤ ((ji13) : Int) := of_decide_eq_true (by first | (with_reducible assumption) | assumption); have q6 : (ji13) < (t2.length : Int) := of_decide_eq_true (by first | (with_reducible assumption) | assumption); obtain ⟨ad6, e6, hx6_0, hx6_1, hx6_2, hx6_3, hx6_4, hx6_5, hx6_6, hx6_7, hx6_8, hx6_9, hx6_10, hx6_11⟩ := at_T31 (Kd.R_reads' HO4.out).2.2 (ji13) p6 q6; cases e6; replace p6 := eq_true p6; replace q6 := eq_true q6) | (go_at_call 33; (with_reducible refine (room_Of.calls k _ _ t2 ((rd_T31 t2 (ji13)).f0) t7 t8 t9 t10 _ ?side1 ?side2 A16.out).mono ?_); (case side1 => repeat (first | exact (Kd.R_reads' HO4.out).2.2 | (with_reducible refine Kd.C_alloc ?_ _) | (with_reducible refine Kd.C_drewN ?_ _) | (with_reducible refine Kd.C_drew ?_))); (case side2 => exact (Kd.R_reads' HO4.out).2.1); rintro e w21 ⟨rfl, hb⟩; have n0_ := Aside0.mk (Kd.R_below (by (with_reducible repeat (first | apply Kd.R_alloc | apply Kd.R_drewN | apply Kd.R_drew)); exact HO4.out) hb); have n1_ := Aside0.mk (below_step (by repeat (first | (with_reducible first | exact HB.out | apply below_alloc | apply pw_below_drewN | apply below_drew1) | exact HB.out)) hb); clear HO4; clear HB; have HO4 := n0_; have HB := n1_; clear n0_ n1_; (try clear hb); (try clear hb2); (try clear hk); (try clear hi)) | ((with_reducible refine gate_dst (N := 9) rfl ?_); (try (refine gate_guard (by rfl) ?_; dsimp only)); refine box_event ?hg (N := 9) ?hd (cs := #[.int .i64 0, .int .i64 0, .int .i64 0]) (t := 27) ?hr ?_; (case hd => rfl); (case hg => rfl); (case hr => first | (go_simp; done) | (go_simp; rfl)); intro gb11 hg w22 hbox hb; have n0_ := Aside0.mk (Kd.R_below (by (with_reducible repeat (first | apply Kd.R_alloc | apply Kd.R_drewN | apply Kd.R_drew)); exact HO4.out) hb); have n1_ := Aside0.mk (below_step (by repeat (first | (with_reducible first | exact HB.out | apply below_alloc | apply pw_below_drewN | apply below_drew1) | exact HB.out)) hb); have n2_ := Aside0.mk (hbox); have n3_ := Aside0.mk ((by rw [hg]; exact (below_size (by repeat (first | (with_reducible first | exact HB.out | apply below_alloc | apply pw_below_drewN | apply below_drew1) | exact HB.out))) : w.heap.size ≤ gb11)); have n4_ := Aside0.mk ((by rw [hg]; exact (below_size (by repeat (first | (with_reducible first | exact HB.out | apply below_alloc | apply pw_below_drewN | apply below_drew1) | exact HB.out))) : w.heap.size ≤ gb11)); clear HO4; clear HB; have HO4 := n0_; have HB := n1_; have BK11 := n2_; have GW11 := n3_; have GE11 := n4_; clear n0_ n1_ n2_ n3_ n4_; clear hb hbox hg; have hcz23_0 : w22.cell? ⟨gb11, 0, none⟩ = some (.int .i64 0) := (blk_cell BK11.out 0).trans rfl; have hcz23_1 : w22.cell? ⟨gb11, 1, none⟩ = some (.int .i64 0) := (blk_cell BK11.out 1).trans rfl; have hcz23_2 : w22.cell? ⟨gb11, 2, none⟩ = some (.int .i64 0) := (blk_cell BK11.out 2).trans rfl; have hfz23_0 := blk_frozen BK11.out 0; have hfz23_1 := blk_frozen BK11.out 1; have hfz23_2 := blk_frozen BK11.out 2) | (go_at_call 64; (with_reducible refine (room_Tight.calls k _ _ t2 ((rd_T31 t2 (ji13)).f0) t12 _ ?side1 ?side2 A17.out).mono ?_); (case side1 => refine (Kd.R_reads' (e := 31) (base := w.heap.size) (ok := fun k_ => True) (n := t2.length) (c := co20) ?_).2.2; exact (by (with_reducible repeat (first | apply Kd.R_alloc | apply Kd.R_drewN | apply Kd.R_drew)); exact (Kd.R_mono (Kd.R_far (p := ⟨gb11, 2, none⟩) (Kd.R_far (p := ⟨gb11, 1, none⟩) (Kd.R_far (p := ⟨gb11, 0, none⟩) (Kd.R_types HO4.out BK11.out (by decide)) (fun _ hk => hk.2) (.int .i64 t7)) (fun _ hk => hk.2) (.int .i64 t8)) (fun _ hk => hk.2) (.int .i64 t9)) (fun _ h_ => h_.1)))); (case side2 => exact (Kd.R_reads' HO4.out).2.1); rintro e w24 ⟨v13, rfl, ho0, hb⟩; have n0_ := Aside0.mk (Kd.R_below (by (with_reducible repeat (first | apply Kd.R_alloc | apply Kd.R_drewN | apply Kd.R_drew)); exact (Kd.R_mono (Kd.R_far (p := ⟨gb11, 2, none⟩) (Kd.R_far (p := ⟨gb11, 1, none⟩) (Kd.R_far (p := ⟨gb11, 0, none⟩) (Kd.R_types HO4.out BK11.out (by decide)) (fun _ hk => hk.2) (.int .i64 t7)) (fun _ hk => hk.2) (.int .i64 t8)) (fun _ hk => hk.2) (.int .i64 t9)) (fun _ h_ => h_.1))) hb); have n1_ := Aside0.mk (Kd.R_lower ho0 (below_size (by repeat (first | (with_reducible first | exact HB.out | apply below_alloc | apply pw_below_drewN | apply below_drew1 | refine below_set ?_ GE11.out) | exact HB.out)))); have n2_ := Aside0.mk (blk_below (g := gb11) (o := .cells #[.int .i64 t7, .int .i64 t8, .int .i64 t9] 27 (0, 0)) (by (with_reducible repeat (first | refine blk_drewN ?_ _ | refine blk_drew ?_ | refine blk_alloc ?_ _)); refine blk_put (cs := #[.int .i64 t7, .int .i64 t8, .int .i64 0]) ?_ 2 _ rfl; (with_reducible repeat (first | refine blk_drewN ?_ _ | refine blk_drew ?_ | refine blk_alloc ?_ _)); refine blk_put (cs := #[.int .i64 t7, .int .i64 0, .int .i64 0]) ?_ 1 _ rfl; (with_reducible repeat (first | refine blk_drewN ?_ _ | refine blk_drew ?_ | refine blk_alloc ?_ _)); refine blk_put (cs := #[.int .i64 0, .int .i64 0, .int .i64 0]) ?_ 0 _ rfl; (with_reducible repeat (first | refine blk_drewN ?_ _ | refine blk_drew ?_ | refine blk_alloc ?_ _)); exact BK11.out) hb); have n3_ := Aside0.mk (below_step (by repeat (first | (with_reducible first | exact HB.out | apply below_alloc | apply pw_below_drewN | apply below_drew1 | refine below_set ?_ GE11.out) | exact HB.out)) hb); clear HO4; clear BK11; clear HB; have HO4 := n0_; have HO14 := n1_; have BK11 := n2_; have HB := n3_; clear n0_ n1_ n2_ n3_; (try clear hb); (try clear hb2); (try clear hk); (try clear hi); (try clear ho0))))
     (try simp only [Act.put, List.setIfInBounds_toArray, List.set_cons_zero, List.set_cons_succ])
     go_cut [55] (fun v55 wc => ∃ (kq : Nat) (x55_17 : Bool), v55 = .bool x55_17 ∧ Aside0 (law13_RoomFits.j0 kq a2 t2 ((rd_T31 t2 (ji13)).f0) t12 x55_17 t7 t8 t9 = some r) ∧ Aside0 (kq ≤ k) ∧ Aside0 (Kd.R k31 31 wc w.heap.size (fun _ => True) (.slice (some ad6) t2.length co20) t2) ∧ Aside0 (Kd.R Kd.string 9 wc w.heap.size (fun _ => True) v13 t12) ∧ Aside0 (wc.heap[gb11]? = some (.cells #[.int .i64 t7, .int .i64 t8, .int .i64 t9] 27 (0, 0))) ∧ Aside0 (Below w.heap.size w wc))
     case first =>
      have H := HC18.out
      clear HC18
      by_cases c25 : t10 = true
      ·subst c25
       have H1 : (if (t12.length : Int) = 0 then (law13_RoomFits.j0 k a2 t2 ((rd_T31 t2 (ji13)).f0) t12 true t7 t8 t9) else ((r10_MayVec.f t7 t8 t9).bind fun t15 => (law13_RoomFits.j0 k a2 t2 ((rd_T31 t2 (ji13)).f0) t12 (!t15) t7 t8 t9))) = some r := by rw [if_pos rfl] at H; exact H
       clear H
       have H := H1
       clear H1
       by_cases c26 : (t12.length : Int) = 0
       ·rw [if_pos c26] at H
        have c26b0 : ((t12.length : Int) == 0) = true := beq_iff_eq.mpr c26
        have c26b1 : ((t12.length : Int) != 0) = false := bne_eq_false_iff_eq.mpr c26
        clear c26
        (first | rw [c26b0] | (simp only [i64_w, i32_w]; rw [c26b0]) | skip)
        have H' := Aside0.mk H
        clear H
        obtain ⟨Ao27, co27, eo27⟩ := Kd.R_slice HO14.out
        subst eo27
        go_wp2
        repeat (go_quiet (fail); try go_wp2)
        go_meet
        case rel => exact ⟨_, (true), (by first | rfl | (simp; done) | (simp [*]; done)), H', ⟨by first | omega | exact Nat.le_refl _⟩, ⟨by (with_reducible repeat (first | apply Kd.R_alloc | apply Kd.R_drewN | apply Kd.R_drew)); exact HO4.out⟩, ⟨by (with_reducible repeat (first | apply Kd.R_alloc | apply Kd.R_drewN | apply Kd.R_drew)); exact HO14.out⟩, ⟨by (with_reducible repeat (first | refine blk_drewN ?_ _ | refine blk_drew ?_ | refine blk_alloc ?_ _)); exact BK11.out⟩, ⟨by repeat (first | (with_reducible first | exact HB.out | apply below_alloc | apply pw_below_drewN | apply below_drew1 | refine below_set ?_ GE11.out) | exact HB.out)⟩⟩
       ·rw [if_neg c26] at H
        have c26b0 : ((t12.length : Int) == 0) = false := beq_eq_false_iff_ne.mpr c26
        have c26b1 : ((t12.length : Int) != 0) = true := bne_iff_ne.mpr c26
        have c26b2 : ¬ (t12 = []) := fun h_ => c26 (by rw [h_]; rfl)
        (first | rw [c26b0] | (simp only [i64_w, i32_w]; rw [c26b0]) | skip)
        replace H := Option.bind_eq_some_iff.mp H
        obtain ⟨t15, A280, H⟩ := H
        replace H : (law13_RoomFits.j0 k a2 t2 ((rd_T31 t2 (ji13)).f0) t12 (!t15) t7 t8 t9) = some r := H
        have A28 := Aside0.mk A280
        clear A280
        have H' := Aside0.mk H
        clear H
        obtain ⟨Ao29, co29, eo29⟩ := Kd.R_slice HO14.out
        subst eo29
        have hcz30_0 : w24.cell? ⟨gb11, 0, none⟩ = some (.int .i64 t7) := (blk_cell BK11.out 0).trans rfl
        have hcz30_1 : w24.cell? ⟨gb11, 1, none⟩ = some (.int .i64 t8) := (blk_cell BK11.out 1).trans rfl
        have hcz30_2 : w24.cell? ⟨gb11, 2, none⟩ = some (.int .i64 t9) := (blk_cell BK11.out 2).trans rfl
        have hfz30_0 := blk_frozen BK11.out 0
        have hfz30_1 := blk_frozen BK11.out 1
        have hfz30_2 := blk_frozen BK11.out 2
        go_wp2_with (first | (go_at_call 65; (with_reducible refine (r10_MayVec.calls t7 t8 t9 t15 _ A28.out).mono ?_); rintro e w31 ⟨rfl, hb⟩; have n0_ := Aside0.mk (Kd.R_below (by (with_reducible repeat (first | apply Kd.R_alloc | apply Kd.R_drewN | apply Kd.R_drew)); exact HO4.out) hb); have n1_ := Aside0.mk (Kd.R_below (by (with_reducible repeat (first | apply Kd.R_alloc | apply Kd.R_drewN | apply Kd.R_drew)); exact HO14.out) hb); have n2_ := Aside0.mk (blk_below (g := gb11) (o := .cells #[.int .i64 t7, .int .i64 t8, .int .i64 t9] 27 (0, 0)) (by (with_reducible repeat (first | refine blk_drewN ?_ _ | refine blk_drew ?_ | refine blk_alloc ?_ _)); exact BK11.out) hb); have n3_ := Aside0.mk (below_step (by repeat (first | (with_reducible first | exact HB.out | apply below_alloc | apply pw_below_drewN | apply below_drew1 | refine below_set ?_ GE11.out) | exact HB.out)) hb); clear HO4; clear HO14; clear BK11; clear HB; have HO4 := n0_; have HO14 := n1_; have BK11 := n2_; have HB := n3_; clear n0_ n1_ n2_ n3_; (try clear hb); (try clear hb2); (try clear hk); (try clear hi)))
        repeat (go_quiet (first | (go_at_call 65; (with_reducible refine (r10_MayVec.calls t7 t8 t9 t15 _ A28.out).mono ?_); rintro e w31 ⟨rfl, hb⟩; have n0_ := Aside0.mk (Kd.R_below (by (with_reducible repeat (first | apply Kd.R_alloc | apply Kd.R_drewN | apply Kd.R_drew)); exact HO4.out) hb); have n1_ := Aside0.mk (Kd.R_below (by (with_reducible repeat (first | apply Kd.R_alloc | apply Kd.R_drewN | apply Kd.R_drew)); exact HO14.out) hb); have n2_ := Aside0.mk (blk_below (g := gb11) (o := .cells #[.int .i64 t7, .int .i64 t8, .int .i64 t9] 27 (0, 0)) (by (with_reducible repeat (first | refine blk_drewN ?_ _ | refine blk_drew ?_ | refine blk_alloc ?_ _)); exact BK11.out) hb); have n3_ := Aside0.mk (below_step (by repeat (first | (with_reducible first | exact HB.out | apply below_alloc | apply pw_below_drewN | apply below_drew1 | refine below_set ?_ GE11.out) | exact HB.out)) hb); clear HO4; clear HO14; clear BK11; clear HB; have HO4 := n0_; have HO14 := n1_; have BK11 := n2_; have HB := n3_; clear n0_ n1_ n2_ n3_; (try clear hb); (try clear hb2); (try clear hk); (try clear hi))); try go_wp2_with (first | (go_at_call 65; (with_reducible refine (r10_MayVec.calls t7 t8 t9 t15 _ A28.out).mono ?_); rintro e w31 ⟨rfl, hb⟩; have n0_ := Aside0.mk (Kd.R_below (by (with_reducible repeat (first | apply Kd.R_alloc | apply Kd.R_drewN | apply Kd.R_drew)); exact HO4.out) hb); have n1_ := Aside0.mk (Kd.R_below (by (with_reducible repeat (first | apply Kd.R_alloc | apply Kd.R_drewN | apply Kd.R_drew)); exact HO14.out) hb); have n2_ := Aside0.mk (blk_below (g := gb11) (o := .cells #[.int .i64 t7, .int .i64 t8, .int .i64 t9] 27 (0, 0)) (by (with_reducible repeat (first | refine blk_drewN ?_ _ | refine blk_drew ?_ | refine blk_alloc ?_ _)); exact BK11.out) hb); have n3_ := Aside0.mk (below_step (by repeat (first | (with_reducible first | exact HB.out | apply below_alloc | apply pw_below_drewN | apply below_drew1 | refine below_set ?_ GE11.out) | exact HB.out)) hb); clear HO4; clear HO14; clear BK11; clear HB; have HO4 := n0_; have HO14 := n1_; have BK11 := n2_; have HB := n3_; clear n0_ n1_ n2_ n3_; (try clear hb); (try clear hb2); (try clear hk); (try clear hi))))
        go_meet
        case rel => exact ⟨_, (!t15), (by first | rfl | (simp; done) | (simp [*]; done)), H', ⟨by first | omega | exact Nat.le_refl _⟩, ⟨by (with_reducible repeat (first | apply Kd.R_alloc | apply Kd.R_drewN | apply Kd.R_drew)); exact HO4.out⟩, ⟨by (with_reducible repeat (first | apply Kd.R_alloc | apply Kd.R_drewN | apply Kd.R_drew)); exact HO14.out⟩, ⟨by (with_reducible repeat (first | refine blk_drewN ?_ _ | refine blk_drew ?_ | refine blk_alloc ?_ _)); exact BK11.out⟩, ⟨by repeat (first | (with_reducible first | exact HB.out | apply below_alloc | apply pw_below_drewN | apply below_drew1 | refine below_set ?_ GE11.out) | exact HB.out)⟩⟩
      ·replace c25 := Bool.eq_false_iff.mpr c25
       subst c25
       have H1 : (law13_RoomFits.j0 k a2 t2 ((rd_T31 t2 (ji13)).f0) t12 true t7 t8 t9) = some r := by rw [if_neg (show ¬ (false = true) by decide)] at H; exact H
       clear H
       have H := H1
       clear H1
       have H' := Aside0.mk H
       clear H
       go_wp2
       repeat (go_quiet (fail); try go_wp2)
       go_meet
       case rel => exact ⟨_, (true), (by first | rfl | (simp; done) | (simp [*]; done)), H', ⟨by first | omega | exact Nat.le_refl _⟩, ⟨by (with_reducible repeat (first | apply Kd.R_alloc | apply Kd.R_drewN | apply Kd.R_drew)); exact HO4.out⟩, ⟨by (with_reducible repeat (first | apply Kd.R_alloc | apply Kd.R_drewN | apply Kd.R_drew)); exact HO14.out⟩, ⟨by (with_reducible repeat (first | refine blk_drewN ?_ _ | refine blk_drew ?_ | refine blk_alloc ?_ _)); exact BK11.out⟩, ⟨by repeat (first | (with_reducible first | exact HB.out | apply below_alloc | apply pw_below_drewN | apply below_drew1 | refine below_set ?_ GE11.out) | exact HB.out)⟩⟩
     case rest =>
      clear HC18
      try clear c1
      try clear c2
      try clear p2
      try clear c4
      try clear c4b0
      try clear c4b1
      try clear p6
      try clear q6
      try clear hx6
      try clear c8
      try clear c8b0
      try clear c8b1
      try clear c8b2
      try clear c10
      try clear c14
      try clear c14b0
      try clear c15
      try clear c15b0
      try clear c25
      try clear c26
      try clear c26b0
      try clear c26b1
      try clear c26b2
      try clear hcz23_0
      try clear hcz23_1
      try clear hcz23_2
      try clear hcz30_0
      try clear hcz30_1
      try clear hcz30_2
      try clear hfz23_0
      try clear hfz23_1
      try clear hfz23_2
      try clear hfz30_0
      try clear hfz30_1
      try clear hfz30_2
      try clear hx6_0
      try clear hx6_1
      try clear hx6_10
      try clear hx6_11
      try clear hx6_2
      try clear hx6_3
      try clear hx6_4
      try clear hx6_5
      try clear hx6_6
      try clear hx6_7
      try clear hx6_8
      try clear hx6_9
      try clear p6
      try clear q6
      obtain ⟨kq, x55_17, rfl, HA, HJ17, HO_7, HO_11, BK11, HB⟩ := hcut
      cases kq with
      | zero => exact absurd HA.out (by simp [law13_RoomFits.j0])
      | succ kj17 =>
       have H := HA.out
       clear HA
       simp only [law13_RoomFits.j0] at H
       by_cases c32 : x55_17 = true
       ·subst c32
        have H1 : (some false) = some r := by rw [if_pos rfl] at H; exact H
        clear H
        have H := H1
        clear H1
        obtain rfl := Option.some.inj H
        go_wp2
        repeat (go_quiet (fail); try go_wp2)
        go_ret
        exact ⟨by first | rfl | (simp [errW_none, errW_some] <;> rfl) | (simp only [← hji13]; first | rfl | (simp [errW_none, errW_some] <;> rfl)) | (simp [*, errW_none, errW_some] <;> rfl), by repeat (first | (with_reducible first | exact HB.out | apply below_alloc | apply pw_below_drewN | apply below_drew1 | refine below_set ?_ GE11.out) | exact HB.out)⟩
       ·replace c32 := Bool.eq_false_iff.mpr c32
        subst c32
        have H1 : (if (Int.tmod a2 3) = 0 then (law13_RoomFits.j1 kj17 t2 ((rd_T31 t2 (ji13)).f0) t12 t7 t8 t9 (wrap64 (t7 + 1)) t8 t9) else (if (Int.tmod a2 3) = 1 then (law13_RoomFits.j1 kj17 t2 ((rd_T31 t2 (ji13)).f0) t12 t7 t8 t9 t7 (wrap64 (t8 + 1)) t9) else (law13_RoomFits.j1 kj17 t2 ((rd_T31 t2 (ji13)).f0) t12 t7 t8 t9 t7 t8 (wrap64 (t9 + 1))))) = some r := by rw [if_neg (show ¬ (false = true) by decide)] at H; exact H
        clear H
        have H := H1
        clear H1
        have HC33 := Aside0.mk H
        clear H
        have hcz34_0 : wc.cell? ⟨gb11, 0, none⟩ = some (.int .i64 t7) := (blk_cell BK11.out 0).trans rfl
        have hcz34_1 : wc.cell? ⟨gb11, 1, none⟩ = some (.int .i64 t8) := (blk_cell BK11.out 1).trans rfl
        have hcz34_2 : wc.cell? ⟨gb11, 2, none⟩ = some (.int .i64 t9) := (blk_cell BK11.out 2).trans rfl
        have hfz34_0 := blk_frozen BK11.out 0
        have hfz34_1 := blk_frozen BK11.out 1
        have hfz34_2 := blk_frozen BK11.out 2
        go_upto_block 0 with (first | ((with_reducible refine gate_dst (N := 12) rfl ?_); (try (refine gate_guard (by rfl) ?_; dsimp only)); refine box_event ?hg (N := 12) ?hd (cs := #[.int .i64 0, .int .i64 0, .int .i64 0]) (t := 27) ?hr ?_; (case hd => rfl); (case hg => rfl); (case hr => first | (go_simp; done) | (go_simp; rfl)); intro gb16 hg w35 hbox hb; have n0_ := Aside0.mk (Kd.R_below (by (with_reducible repeat (first | apply Kd.R_alloc | apply Kd.R_drewN | apply Kd.R_drew)); exact HO_7.out) hb); have n1_ := Aside0.mk (Kd.R_below (by (with_reducible repeat (first | apply Kd.R_alloc | apply Kd.R_drewN | apply Kd.R_drew)); exact HO_11.out) hb); have n2_ := Aside0.mk (blk_below (g := gb11) (o := .cells #[.int .i64 t7, .int .i64 t8, .int .i64 t9] 27 (0, 0)) (by (with_reducible repeat (first | refine blk_drewN ?_ _ | refine blk_drew ?_ | refine blk_alloc ?_ _)); exact BK11.out) hb); have n3_ := Aside0.mk (below_step (by repeat (first | (with_reducible first | exact HB.out | apply below_alloc | apply pw_below_drewN | apply below_drew1 | refine below_set ?_ GE11.out) | exact HB.out)) hb); have n4_ := Aside0.mk (hbox); have n5_ := Aside0.mk ((by rw [hg]; exact (below_size (by repeat (first | (with_reducible first | exact HB.out | apply below_alloc | apply pw_below_drewN | apply below_drew1 | refine below_set ?_ GE11.out) | exact HB.out))) : w.heap.size ≤ gb16)); have n6_ := Aside0.mk ((by rw [hg]; exact (below_size (by repeat (first | (with_reducible first | exact HB.out | apply below_alloc | apply pw_below_drewN | apply below_drew1 | refine below_set ?_ GE11.out) | exact HB.out))) : w.heap.size ≤ gb16)); have n7_ := Aside0.mk ((by rw [hg]; exact Nat.ne_of_lt (blk_lt (g := gb11) (o := .cells #[.int .i64 t7, .int .i64 t8, .int .i64 t9] 27 (0, 0)) (by (with_reducible repeat (first | refine blk_drewN ?_ _ | refine blk_drew ?_ | refine blk_alloc ?_ _)); exact BK11.out)) : gb11 ≠ gb16)); have n8_ := Aside0.mk ((by rw [hg]; exact Nat.ne_of_gt (blk_lt (g := gb11) (o := .cells #[.int .i64 t7, .int .i64 t8, .int .i64 t9] 27 (0, 0)) (by (with_reducible repeat (first | refine blk_drewN ?_ _ | refine blk_drew ?_ | refine blk_alloc ?_ _)); exact BK11.out)) : gb16 ≠ gb11)); clear HO_7; clear HO_11; clear BK11; clear HB; have HO_7 := n0_; have HO_11 := n1_; have BK11 := n2_; have HB := n3_; have BK16 := n4_; have GW16 := n5_; have GE16 := n6_; have NB11_16 := n7_; have NB16_11 := n8_; clear n0_ n1_ n2_ n3_ n4_ n5_ n6_ n7_ n8_; clear hb hbox hg; have hnb36 := NB16_11.out; have hnc36 := NB11_16.out; have hcz37_0 : w35.cell? ⟨gb16, 0, none⟩ = some (.int .i64 0) := (blk_cell BK16.out 0).trans rfl; have hcz37_1 : w35.cell? ⟨gb16, 1, none⟩ = some (.int .i64 0) := (blk_cell BK16.out 1).trans rfl; have hcz37_2 : w35.cell? ⟨gb16, 2, none⟩ = some (.int .i64 0) := (blk_cell BK16.out 2).trans rfl; have hfz37_0 := blk_frozen BK16.out 0; have hfz37_1 := blk_frozen BK16.out 1; have hfz37_2 := blk_frozen BK16.out 2))
        repeat (go_quiet (first | ((with_reducible refine gate_dst (N := 12) rfl ?_); (try (refine gate_guard (by rfl) ?_; dsimp only)); refine box_event ?hg (N := 12) ?hd (cs := #[.int .i64 0, .int .i64 0, .int .i64 0]) (t := 27) ?hr ?_; (case hd => rfl); (case hg => rfl); (case hr => first | (go_simp; done) | (go_simp; rfl)); intro gb16 hg w35 hbox hb; have n0_ := Aside0.mk (Kd.R_below (by (with_reducible repeat (first | apply Kd.R_alloc | apply Kd.R_drewN | apply Kd.R_drew)); exact HO_7.out) hb); have n1_ := Aside0.mk (Kd.R_below (by (with_reducible repeat (first | apply Kd.R_alloc | apply Kd.R_drewN | apply Kd.R_drew)); exact HO_11.out) hb); have n2_ := Aside0.mk (blk_below (g := gb11) (o := .cells #[.int .i64 t7, .int .i64 t8, .int .i64 t9] 27 (0, 0)) (by (with_reducible repeat (first | refine blk_drewN ?_ _ | refine blk_drew ?_ | refine blk_alloc ?_ _)); exact BK11.out) hb); have n3_ := Aside0.mk (below_step (by repeat (first | (with_reducible first | exact HB.out | apply below_alloc | apply pw_below_drewN | apply below_drew1 | refine below_set ?_ GE11.out) | exact HB.out)) hb); have n4_ := Aside0.mk (hbox); have n5_ := Aside0.mk ((by rw [hg]; exact (below_size (by repeat (first | (with_reducible first | exact HB.out | apply below_alloc | apply pw_below_drewN | apply below_drew1 | refine below_set ?_ GE11.out) | exact HB.out))) : w.heap.size ≤ gb16)); have n6_ := Aside0.mk ((by rw [hg]; exact (below_size (by repeat (first | (with_reducible first | exact HB.out | apply below_alloc | apply pw_below_drewN | apply below_drew1 | refine below_set ?_ GE11.out) | exact HB.out))) : w.heap.size ≤ gb16)); have n7_ := Aside0.mk ((by rw [hg]; exact Nat.ne_of_lt (blk_lt (g := gb11) (o := .cells #[.int .i64 t7, .int .i64 t8, .int .i64 t9] 27 (0, 0)) (by (with_reducible repeat (first | refine blk_drewN ?_ _ | refine blk_drew ?_ | refine blk_alloc ?_ _)); exact BK11.out)) : gb11 ≠ gb16)); have n8_ := Aside0.mk ((by rw [hg]; exact Nat.ne_of_gt (blk_lt (g := gb11) (o := .cells #[.int .i64 t7, .int .i64 t8, .int .i64 t9] 27 (0, 0)) (by (with_reducible repeat (first | refine blk_drewN ?_ _ | refine blk_drew ?_ | refine blk_alloc ?_ _)); exact BK11.out)) : gb16 ≠ gb11)); clear HO_7; clear HO_11; clear BK11; clear HB; have HO_7 := n0_; have HO_11 := n1_; have BK11 := n2_; have HB := n3_; have BK16 := n4_; have GW16 := n5_; have GE16 := n6_; have NB11_16 := n7_; have NB16_11 := n8_; clear n0_ n1_ n2_ n3_ n4_ n5_ n6_ n7_ n8_; clear hb hbox hg; have hnb36 := NB16_11.out; have hnc36 := NB11_16.out; have hcz37_0 : w35.cell? ⟨gb16, 0, none⟩ = some (.int .i64 0) := (blk_cell BK16.out 0).trans rfl; have hcz37_1 : w35.cell? ⟨gb16, 1, none⟩ = some (.int .i64 0) := (blk_cell BK16.out 1).trans rfl; have hcz37_2 : w35.cell? ⟨gb16, 2, none⟩ = some (.int .i64 0) := (blk_cell BK16.out 2).trans rfl; have hfz37_0 := blk_frozen BK16.out 0; have hfz37_1 := blk_frozen BK16.out 1; have hfz37_2 := blk_frozen BK16.out 2)); go_upto_block 0 with (first | ((with_reducible refine gate_dst (N := 12) rfl ?_); (try (refine gate_guard (by rfl) ?_; dsimp only)); refine box_event ?hg (N := 12) ?hd (cs := #[.int .i64 0, .int .i64 0, .int .i64 0]) (t := 27) ?hr ?_; (case hd => rfl); (case hg => rfl); (case hr => first | (go_simp; done) | (go_simp; rfl)); intro gb16 hg w35 hbox hb; have n0_ := Aside0.mk (Kd.R_below (by (with_reducible repeat (first | apply Kd.R_alloc | apply Kd.R_drewN | apply Kd.R_drew)); exact HO_7.out) hb); have n1_ := Aside0.mk (Kd.R_below (by (with_reducible repeat (first | apply Kd.R_alloc | apply Kd.R_drewN | apply Kd.R_drew)); exact HO_11.out) hb); have n2_ := Aside0.mk (blk_below (g := gb11) (o := .cells #[.int .i64 t7, .int .i64 t8, .int .i64 t9] 27 (0, 0)) (by (with_reducible repeat (first | refine blk_drewN ?_ _ | refine blk_drew ?_ | refine blk_alloc ?_ _)); exact BK11.out) hb); have n3_ := Aside0.mk (below_step (by repeat (first | (with_reducible first | exact HB.out | apply below_alloc | apply pw_below_drewN | apply below_drew1 | refine below_set ?_ GE11.out) | exact HB.out)) hb); have n4_ := Aside0.mk (hbox); have n5_ := Aside0.mk ((by rw [hg]; exact (below_size (by repeat (first | (with_reducible first | exact HB.out | apply below_alloc | apply pw_below_drewN | apply below_drew1 | refine below_set ?_ GE11.out) | exact HB.out))) : w.heap.size ≤ gb16)); have n6_ := Aside0.mk ((by rw [hg]; exact (below_size (by repeat (first | (with_reducible first | exact HB.out | apply below_alloc | apply pw_below_drewN | apply below_drew1 | refine below_set ?_ GE11.out) | exact HB.out))) : w.heap.size ≤ gb16)); have n7_ := Aside0.mk ((by rw [hg]; exact Nat.ne_of_lt (blk_lt (g := gb11) (o := .cells #[.int .i64 t7, .int .i64 t8, .int .i64 t9] 27 (0, 0)) (by (with_reducible repeat (first | refine blk_drewN ?_ _ | refine blk_drew ?_ | refine blk_alloc ?_ _)); exact BK11.out)) : gb11 ≠ gb16)); have n8_ := Aside0.mk ((by rw [hg]; exact Nat.ne_of_gt (blk_lt (g := gb11) (o := .cells #[.int .i64 t7, .int .i64 t8, .int .i64 t9] 27 (0, 0)) (by (with_reducible repeat (first | refine blk_drewN ?_ _ | refine blk_drew ?_ | refine blk_alloc ?_ _)); exact BK11.out)) : gb16 ≠ gb11)); clear HO_7; clear HO_11; clear BK11; clear HB; have HO_7 := n0_; have HO_11 := n1_; have BK11 := n2_; have HB := n3_; have BK16 := n4_; have GW16 := n5_; have GE16 := n6_; have NB11_16 := n7_; have NB16_11 := n8_; clear n0_ n1_ n2_ n3_ n4_ n5_ n6_ n7_ n8_; clear hb hbox hg; have hnb36 := NB16_11.out; have hnc36 := NB11_16.out; have hcz37_0 : w35.cell? ⟨gb16, 0, none⟩ = some (.int .i64 0) := (blk_cell BK16.out 0).trans rfl; have hcz37_1 : w35.cell? ⟨gb16, 1, none⟩ = some (.int .i64 0) := (blk_cell BK16.out 1).trans rfl; have hcz37_2 : w35.cell? ⟨gb16, 2, none⟩ = some (.int .i64 0) := (blk_cell BK16.out 2).trans rfl; have hfz37_0 := blk_frozen BK16.out 0; have hfz37_1 := blk_frozen BK16.out 1; have hfz37_2 := blk_frozen BK16.out 2)))
        (try simp only [Act.put, List.setIfInBounds_toArray, List.set_cons_zero, List.set_cons_succ])
        go_cut [] (fun wc => ∃ (kq : Nat) (x17000_32 : Int) (x17001_32 : Int) (x17002_32 : Int), Aside0 (law13_RoomFits.j1 kq t2 ((rd_T31 t2 (ji13)).f0) t12 t7 t8 t9 x17000_32 x17001_32 x17002_32 = some r) ∧ Aside0 (kq ≤ kj17) ∧ Aside0 (Kd.R k31 31 wc w.heap.size (fun _ => True) (.slice (some ad6) t2.length co20) t2) ∧ Aside0 (Kd.R Kd.string 9 wc w.heap.size (fun _ => True) v13 t12) ∧ Aside0 (wc.heap[gb11]? = some (.cells #[.int .i64 t7, .int .i64 t8, .int .i64 t9] 27 (0, 0))) ∧ Aside0 (wc.heap[gb16]? = some (.cells #[.int .i64 x17000_32, .int .i64 x17001_32, .int .i64 x17002_32] 27 (0, 0))) ∧ Aside0 (Below w.heap.size w wc))
        case first =>
         have H := HC33.out
         clear HC33
         by_cases c38 : (Int.tmod a2 3) = 0
         ·rw [if_pos c38] at H
          have c38b0 : ((Int.tmod a2 3) == 0) = true := beq_iff_eq.mpr c38
          have c38b1 : ((Int.tmod a2 3) != 0) = false := bne_eq_false_iff_eq.mpr c38
          clear c38
          (first | rw [c38b0] | (simp only [i64_w, i32_w]; rw [c38b0]) | skip)
          have H' := Aside0.mk H
          clear H
          have hnb39 := NB16_11.out
          have hnc39 := NB11_16.out
          have hcz40_0 : w35.cell? ⟨gb16, 0, none⟩ = some (.int .i64 0) := (blk_cell BK16.out 0).trans rfl
          have hcz40_1 : w35.cell? ⟨gb16, 1, none⟩ = some (.int .i64 0) := (blk_cell BK16.out 1).trans rfl
          have hcz40_2 : w35.cell? ⟨gb16, 2, none⟩ = some (.int .i64 0) := (blk_cell BK16.out 2).trans rfl
          have hfz40_0 := blk_frozen BK16.out 0
          have hfz40_1 := blk_frozen BK16.out 1
          have hfz40_2 := blk_frozen BK16.out 2
          go_wp2
          repeat (go_quiet (fail); try go_wp2)
          go_meet
          case rel => exact ⟨_, (wrap64 (t7 + 1)), (t8), (t9), H', ⟨by have := HJ17.out; first | omega | exact Nat.le_refl _⟩, ⟨by (with_reducible repeat (first | apply Kd.R_alloc | apply Kd.R_drewN | apply Kd.R_drew)); exact Kd.R_mono (Kd.R_far (p := ⟨gb16, 0, none⟩) (Kd.R_far (p := ⟨gb16, 2, none⟩) (Kd.R_far (p := ⟨gb16, 1, none⟩) (Kd.R_far (p := ⟨gb16, 0, none⟩) (Kd.R_types HO_7.out BK16.out (by decide)) (fun _ hk => hk.2) (.int .i64 t7)) (fun _ hk => hk.2) (.int .i64 t8)) (fun _ hk => hk.2) (.int .i64 t9)) (fun _ hk => hk.2) (.int .i64 (wrap64 (t7 + 1)))) (fun _ hk => trivial)⟩, ⟨by (with_reducible repeat (first | apply Kd.R_alloc | apply Kd.R_drewN | apply Kd.R_drew)); exact Kd.R_mono (Kd.R_far (p := ⟨gb16, 0, none⟩) (Kd.R_far (p := ⟨gb16, 2, none⟩) (Kd.R_far (p := ⟨gb16, 1, none⟩) (Kd.R_far (p := ⟨gb16, 0, none⟩) (Kd.R_types HO_11.out BK16.out (by decide)) (fun _ hk => hk.2) (.int .i64 t7)) (fun _ hk => hk.2) (.int .i64 t8)) (fun _ hk => hk.2) (.int .i64 t9)) (fun _ hk => hk.2) (.int .i64 (wrap64 (t7 + 1)))) (fun _ hk => trivial)⟩, ⟨by (with_reducible repeat (first | refine blk_drewN ?_ _ | refine blk_drew ?_ | refine blk_alloc ?_ _)); refine blk_far ?_ NB11_16.out _; (with_reducible repeat (first | refine blk_drewN ?_ _ | refine blk_drew ?_ | refine blk_alloc ?_ _)); refine blk_far ?_ NB11_16.out _; (with_reducible repeat (first | refine blk_drewN ?_ _ | refine blk_drew ?_ | refine blk_alloc ?_ _)); refine blk_far ?_ NB11_16.out _; (with_reducible repeat (first | refine blk_drewN ?_ _ | refine blk_drew ?_ | refine blk_alloc ?_ _)); refine blk_far ?_ NB11_16.out _; (with_reducible repeat (first | refine blk_drewN ?_ _ | refine blk_drew ?_ | refine blk_alloc ?_ _)); exact BK11.out⟩, ⟨by (with_reducible repeat (first | refine blk_drewN ?_ _ | refine blk_drew ?_ | refine blk_alloc ?_ _)); refine blk_put (cs := #[.int .i64 t7, .int .i64 t8, .int .i64 t9]) ?_ 0 _ rfl; (with_reducible repeat (first | refine blk_drewN ?_ _ | refine blk_drew ?_ | refine blk_alloc ?_ _)); refine blk_put (cs := #[.int .i64 t7, .int .i64 t8, .int .i64 0]) ?_ 2 _ rfl; (with_reducible repeat (first | refine blk_drewN ?_ _ | refine blk_drew ?_ | refine blk_alloc ?_ _)); refine blk_put (cs := #[.int .i64 t7, .int .i64 0, .int .i64 0]) ?_ 1 _ rfl; (with_reducible repeat (first | refine blk_drewN ?_ _ | refine blk_drew ?_ | refine blk_alloc ?_ _)); refine blk_put (cs := #[.int .i64 0, .int .i64 0, .int .i64 0]) ?_ 0 _ rfl; (with_reducible repeat (first | refine blk_drewN ?_ _ | refine blk_drew ?_ | refine blk_alloc ?_ _)); exact BK16.out⟩, ⟨by repeat (first | (with_reducible first | exact HB.out | apply below_alloc | apply pw_below_drewN | apply below_drew1 | refine below_set ?_ GE11.out | refine below_set ?_ GE16.out) | exact HB.out)⟩⟩
         ·rw [if_neg c38] at H
          have c38b0 : ((Int.tmod a2 3) == 0) = false := beq_eq_false_iff_ne.mpr c38
          have c38b1 : ((Int.tmod a2 3) != 0) = true := bne_iff_ne.mpr c38
          (first | rw [c38b0] | (simp only [i64_w, i32_w]; rw [c38b0]) | skip)
          by_cases c41 : (Int.tmod a2 3) = 1
          ·rw [if_pos c41] at H
           have c41b0 : ((Int.tmod a2 3) == 1) = true := beq_iff_eq.mpr c41
           have c41b1 : ((Int.tmod a2 3) != 1) = false := bne_eq_false_iff_eq.mpr c41
           clear c41
           have H' := Aside0.mk H
           clear H
           have hnb42 := NB16_11.out
           have hnc42 := NB11_16.out
           have hcz43_0 : w35.cell? ⟨gb16, 0, none⟩ = some (.int .i64 0) := (blk_cell BK16.out 0).trans rfl
           have hcz43_1 : w35.cell? ⟨gb16, 1, none⟩ = some (.int .i64 0) := (blk_cell BK16.out 1).trans rfl
           have hcz43_2 : w35.cell? ⟨gb16, 2, none⟩ = some (.int .i64 0) := (blk_cell BK16.out 2).trans rfl
           have hfz43_0 := blk_frozen BK16.out 0
           have hfz43_1 := blk_frozen BK16.out 1
           have hfz43_2 := blk_frozen BK16.out 2
           go_wp2
           repeat (go_quiet (fail); try go_wp2)
           go_meet
           case rel => exact ⟨_, (t7), (wrap64 (t8 + 1)), (t9), H', ⟨by have := HJ17.out; first | omega | exact Nat.le_refl _⟩, ⟨by (with_reducible repeat (first | apply Kd.R_alloc | apply Kd.R_drewN | apply Kd.R_drew)); exact Kd.R_mono (Kd.R_far (p := ⟨gb16, 1, none⟩) (Kd.R_far (p := ⟨gb16, 2, none⟩) (Kd.R_far (p := ⟨gb16, 1, none⟩) (Kd.R_far (p := ⟨gb16, 0, none⟩) (Kd.R_types HO_7.out BK16.out (by decide)) (fun _ hk => hk.2) (.int .i64 t7)) (fun _ hk => hk.2) (.int .i64 t8)) (fun _ hk => hk.2) (.int .i64 t9)) (fun _ hk => hk.2) (.int .i64 (wrap64 (t8 + 1)))) (fun _ hk => trivial)⟩, ⟨by (with_reducible repeat (first | apply Kd.R_alloc | apply Kd.R_drewN | apply Kd.R_drew)); exact Kd.R_mono (Kd.R_far (p := ⟨gb16, 1, none⟩) (Kd.R_far (p := ⟨gb16, 2, none⟩) (Kd.R_far (p := ⟨gb16, 1, none⟩) (Kd.R_far (p := ⟨gb16, 0, none⟩) (Kd.R_types HO_11.out BK16.out (by decide)) (fun _ hk => hk.2) (.int .i64 t7)) (fun _ hk => hk.2) (.int .i64 t8)) (fun _ hk => hk.2) (.int .i64 t9)) (fun _ hk => hk.2) (.int .i64 (wrap64 (t8 + 1)))) (fun _ hk => trivial)⟩, ⟨by (with_reducible repeat (first | refine blk_drewN ?_ _ | refine blk_drew ?_ | refine blk_alloc ?_ _)); refine blk_far ?_ NB11_16.out _; (with_reducible repeat (first | refine blk_drewN ?_ _ | refine blk_drew ?_ | refine blk_alloc ?_ _)); refine blk_far ?_ NB11_16.out _; (with_reducible repeat (first | refine blk_drewN ?_ _ | refine blk_drew ?_ | refine blk_alloc ?_ _)); refine blk_far ?_ NB11_16.out _; (with_reducible repeat (first | refine blk_drewN ?_ _ | refine blk_drew ?_ | refine blk_alloc ?_ _)); refine blk_far ?_ NB11_16.out _; (with_reducible repeat (first | refine blk_drewN ?_ _ | refine blk_drew ?_ | refine blk_alloc ?_ _)); exact BK11.out⟩, ⟨by (with_reducible repeat (first | refine blk_drewN ?_ _ | refine blk_drew ?_ | refine blk_alloc ?_ _)); refine blk_put (cs := #[.int .i64 t7, .int .i64 t8, .int .i64 t9]) ?_ 1 _ rfl; (with_reducible repeat (first | refine blk_drewN ?_ _ | refine blk_drew ?_ | refine blk_alloc ?_ _)); refine blk_put (cs := #[.int .i64 t7, .int .i64 t8, .int .i64 0]) ?_ 2 _ rfl; (with_reducible repeat (first | refine blk_drewN ?_ _ | refine blk_drew ?_ | refine blk_alloc ?_ _)); refine blk_put (cs := #[.int .i64 t7, .int .i64 0, .int .i64 0]) ?_ 1 _ rfl; (with_reducible repeat (first | refine blk_drewN ?_ _ | refine blk_drew ?_ | refine blk_alloc ?_ _)); refine blk_put (cs := #[.int .i64 0, .int .i64 0, .int .i64 0]) ?_ 0 _ rfl; (with_reducible repeat (first | refine blk_drewN ?_ _ | refine blk_drew ?_ | refine blk_alloc ?_ _)); exact BK16.out⟩, ⟨by repeat (first | (with_reducible first | exact HB.out | apply below_alloc | apply pw_below_drewN | apply below_drew1 | refine below_set ?_ GE11.out | refine below_set ?_ GE16.out) | exact HB.out)⟩⟩
          ·rw [if_neg c41] at H
           have c41b0 : ((Int.tmod a2 3) == 1) = false := beq_eq_false_iff_ne.mpr c41
           have c41b1 : ((Int.tmod a2 3) != 1) = true := bne_iff_ne.mpr c41
           have H' := Aside0.mk H
           clear H
           have hnb44 := NB16_11.out
           have hnc44 := NB11_16.out
           have hcz45_0 : w35.cell? ⟨gb16, 0, none⟩ = some (.int .i64 0) := (blk_cell BK16.out 0).trans rfl
           have hcz45_1 : w35.cell? ⟨gb16, 1, none⟩ = some (.int .i64 0) := (blk_cell BK16.out 1).trans rfl
           have hcz45_2 : w35.cell? ⟨gb16, 2, none⟩ = some (.int .i64 0) := (blk_cell BK16.out 2).trans rfl
           have hfz45_0 := blk_frozen BK16.out 0
           have hfz45_1 := blk_frozen BK16.out 1
           have hfz45_2 := blk_frozen BK16.out 2
           go_wp2
           repeat (go_quiet (fail); try go_wp2)
           go_meet
           case rel => exact ⟨_, (t7), (t8), (wrap64 (t9 + 1)), H', ⟨by have := HJ17.out; first | omega | exact Nat.le_refl _⟩, ⟨by (with_reducible repeat (first | apply Kd.R_alloc | apply Kd.R_drewN | apply Kd.R_drew)); exact Kd.R_mono (Kd.R_far (p := ⟨gb16, 2, none⟩) (Kd.R_far (p := ⟨gb16, 2, none⟩) (Kd.R_far (p := ⟨gb16, 1, none⟩) (Kd.R_far (p := ⟨gb16, 0, none⟩) (Kd.R_types HO_7.out BK16.out (by decide)) (fun _ hk => hk.2) (.int .i64 t7)) (fun _ hk => hk.2) (.int .i64 t8)) (fun _ hk => hk.2) (.int .i64 t9)) (fun _ hk => hk.2) (.int .i64 (wrap64 (t9 + 1)))) (fun _ hk => trivial)⟩, ⟨by (with_reducible repeat (first | apply Kd.R_alloc | apply Kd.R_drewN | apply Kd.R_drew)); exact Kd.R_mono (Kd.R_far (p := ⟨gb16, 2, none⟩) (Kd.R_far (p := ⟨gb16, 2, none⟩) (Kd.R_far (p := ⟨gb16, 1, none⟩) (Kd.R_far (p := ⟨gb16, 0, none⟩) (Kd.R_types HO_11.out BK16.out (by decide)) (fun _ hk => hk.2) (.int .i64 t7)) (fun _ hk => hk.2) (.int .i64 t8)) (fun _ hk => hk.2) (.int .i64 t9)) (fun _ hk => hk.2) (.int .i64 (wrap64 (t9 + 1)))) (fun _ hk => trivial)⟩, ⟨by (with_reducible repeat (first | refine blk_drewN ?_ _ | refine blk_drew ?_ | refine blk_alloc ?_ _)); refine blk_far ?_ NB11_16.out _; (with_reducible repeat (first | refine blk_drewN ?_ _ | refine blk_drew ?_ | refine blk_alloc ?_ _)); refine blk_far ?_ NB11_16.out _; (with_reducible repeat (first | refine blk_drewN ?_ _ | refine blk_drew ?_ | refine blk_alloc ?_ _)); refine blk_far ?_ NB11_16.out _; (with_reducible repeat (first | refine blk_drewN ?_ _ | refine blk_drew ?_ | refine blk_alloc ?_ _)); refine blk_far ?_ NB11_16.out _; (with_reducible repeat (first | refine blk_drewN ?_ _ | refine blk_drew ?_ | refine blk_alloc ?_ _)); exact BK11.out⟩, ⟨by (with_reducible repeat (first | refine blk_drewN ?_ _ | refine blk_drew ?_ | refine blk_alloc ?_ _)); refine blk_put (cs := #[.int .i64 t7, .int .i64 t8, .int .i64 t9]) ?_ 2 _ rfl; (with_reducible repeat (first | refine blk_drewN ?_ _ | refine blk_drew ?_ | refine blk_alloc ?_ _)); refine blk_put (cs := #[.int .i64 t7, .int .i64 t8, .int .i64 0]) ?_ 2 _ rfl; (with_reducible repeat (first | refine blk_drewN ?_ _ | refine blk_drew ?_ | refine blk_alloc ?_ _)); refine blk_put (cs := #[.int .i64 t7, .int .i64 0, .int .i64 0]) ?_ 1 _ rfl; (with_reducible repeat (first | refine blk_drewN ?_ _ | refine blk_drew ?_ | refine blk_alloc ?_ _)); refine blk_put (cs := #[.int .i64 0, .int .i64 0, .int .i64 0]) ?_ 0 _ rfl; (with_reducible repeat (first | refine blk_drewN ?_ _ | refine blk_drew ?_ | refine blk_alloc ?_ _)); exact BK16.out⟩, ⟨by repeat (first | (with_reducible first | exact HB.out | apply below_alloc | apply pw_below_drewN | apply below_drew1 | refine below_set ?_ GE11.out | refine below_set ?_ GE16.out) | exact HB.out)⟩⟩
        case rest =>
         clear HC33
         try clear c1
         try clear c2
         try clear p2
         try clear c3
         try clear c4
         try clear c4b0
         try clear c4b1
         try clear p6
         try clear q6
         try clear hx6
         try clear c8
         try clear c8b0
         try clear c8b1
         try clear c8b2
         try clear c10
         try clear c14
         try clear c14b0
         try clear c15
         try clear c15b0
         try clear c25
         try clear c26
         try clear c26b0
         try clear c26b1
         try clear c26b2
         try clear c32
         try clear c36
         try clear c38
         try clear c38b0
         try clear c38b1
         try clear c39
         try clear c41
         try clear c41b0
         try clear c41b1
         try clear c42
         try clear c44
         try clear hcz23_0
         try clear hcz23_1
         try clear hcz23_2
         try clear hcz30_0
         try clear hcz30_1
         try clear hcz30_2
         try clear hcz34_0
         try clear hcz34_1
         try clear hcz34_2
         try clear hcz37_0
         try clear hcz37_1
         try clear hcz37_2
         try clear hcz40_0
         try clear hcz40_1
         try clear hcz40_2
         try clear hcz43_0
         try clear hcz43_1
         try clear hcz43_2
         try clear hcz45_0
         try clear hcz45_1
         try clear hcz45_2
         try clear hfz23_0
         try clear hfz23_1
         try clear hfz23_2
         try clear hfz30_0
         try clear hfz30_1
         try clear hfz30_2
         try clear hfz34_0
         try clear hfz34_1
         try clear hfz34_2
         try clear hfz37_0
         try clear hfz37_1
         try clear hfz37_2
         try clear hfz40_0
         try clear hfz40_1
         try clear hfz40_2
         try clear hfz43_0
         try clear hfz43_1
         try clear hfz43_2
         try clear hfz45_0
         try clear hfz45_1
         try clear hfz45_2
         try clear hx6_0
         try clear hx6_1
         try clear hx6_10
         try clear hx6_11
         try clear hx6_2
         try clear hx6_3
         try clear hx6_4
         try clear hx6_5
         try clear hx6_6
         try clear hx6_7
         try clear hx6_8
         try clear hx6_9
         try clear p2
         try clear p6
         try clear q6
         obtain ⟨kq, x17000_32, x17001_32, x17002_32, HA, HJ32, HO_7, HO_11, BK11, BK16, HB⟩ := hcut
         cases kq with
         | zero => exact absurd HA.out (by simp [law13_RoomFits.j1])
         | succ kj32 =>
          have H := HA.out
          clear HA
          simp only [law13_RoomFits.j1] at H
          replace H := Option.bind_eq_some_iff.mp H
          obtain ⟨⟨t17, t20⟩, A460, H⟩ := H
          replace H : (if t20 = 0 then ((r10_Admit.f kj32 t2 ((rd_T31 t2 (ji13)).f0) x17000_32 x17001_32 x17002_32).bind fun bt22 => (law13_RoomFits.j2 kj32 t12 (bt22.2 != 12) t17 t20)) else (law13_RoomFits.j2 kj32 t12 true t17 t20)) = some r := H
          have A46 := Aside0.mk A460
          clear A460
          have HC47 := Aside0.mk H
          clear H
          have hnb48 := NB11_16.out
          have hnc48 := NB16_11.out
          have hcz49_0 : wc.cell? ⟨gb11, 0, none⟩ = some (.int .i64 t7) := (blk_cell BK11.out 0).trans rfl
          have hcz49_1 : wc.cell? ⟨gb11, 1, none⟩ = some (.int .i64 t8) := (blk_cell BK11.out 1).trans rfl
          have hcz49_2 : wc.cell? ⟨gb11, 2, none⟩ = some (.int .i64 t9) := (blk_cell BK11.out 2).trans rfl
          have hfz49_0 := blk_frozen BK11.out 0
          have hfz49_1 := blk_frozen BK11.out 1
          have hfz49_2 := blk_frozen BK11.out 2
          go_upto_region 19 with (first | (go_at_call 66; (with_reducible refine (r10_Admit.calls kj32 _ _ t2 ((rd_T31 t2 (ji13)).f0) t7 t8 t9 t17 t20 _ ?side1 ?side2 A46.out).mono ?_); (case side1 => repeat (first | exact (Kd.R_reads' HO_7.out).2.2 | (with_reducible refine Kd.C_alloc ?_ _) | (with_reducible refine Kd.C_drewN ?_ _) | (with_reducible refine Kd.C_drew ?_))); (case side2 => exact (Kd.R_reads' HO_7.out).2.1); rintro e w50 ⟨v18, rfl, ho0, hb⟩; have n0_ := Aside0.mk (Kd.R_elder' (by (with_reducible repeat (first | apply Kd.R_alloc | apply Kd.R_drewN | apply Kd.R_drew)); exact HO_7.out) (Kd.R_base ho0) hb); have n1_ := Aside0.mk (Kd.R_below (by (with_reducible repeat (first | apply Kd.R_alloc | apply Kd.R_drewN | apply Kd.R_drew)); exact HO_11.out) hb); have n2_ := Aside0.mk (Kd.R_lower (Kd.R_new' ho0 (Kd.R_lt (by (with_reducible repeat (first | apply Kd.R_alloc | apply Kd.R_drewN | apply Kd.R_drew)); exact HO_7.out))) (below_size (by repeat (first | (with_reducible first | exact HB.out | apply below_alloc | apply pw_below_drewN | apply below_drew1 | refine below_set ?_ GE11.out | refine below_set ?_ GE16.out) | exact HB.out)))); have n3_ := Aside0.mk (blk_below (g := gb11) (o := .cells #[.int .i64 t7, .int .i64 t8, .int .i64 t9] 27 (0, 0)) (by (with_reducible repeat (first | refine blk_drewN ?_ _ | refine blk_drew ?_ | refine blk_alloc ?_ _)); exact BK11.out) hb); have n4_ := Aside0.mk (blk_below (g := gb16) (o := .cells #[.int .i64 x17000_32, .int .i64 x17001_32, .int .i64 x17002_32] 27 (0, 0)) (by (with_reducible repeat (first | refine blk_drewN ?_ _ | refine blk_drew ?_ | refine blk_alloc ?_ _)); exact BK16.out) hb); have n5_ := Aside0.mk (below_step (by repeat (first | (with_reducible first | exact HB.out | apply below_alloc | apply pw_below_drewN | apply below_drew1 | refine below_set ?_ GE11.out | refine below_set ?_ GE16.out) | exact HB.out)) hb); clear HO_7; clear HO_11; clear BK11; clear BK16; clear HB; have HO_7 := n0_; have HO_11 := n1_; have HO19 := n2_; have BK11 := n3_; have BK16 := n4_; have HB := n5_; clear n0_ n1_ n2_ n3_ n4_ n5_; (try clear hb); (try clear hb2); (try clear hk); (try clear hi); (try clear ho0)) | ((with_reducible refine gate_dst (N := 13) rfl ?_); (try (refine gate_guard (by rfl) ?_; dsimp only)); refine box_event ?hg (N := 13) ?hd (cs := #[.slice none 0 0, .int .i64 0]) (t := 67) ?hr ?_; (case hd => rfl); (case hg => rfl); (case hr => first | (go_simp; done) | (go_simp; rfl)); intro gb21 hg w51 hbox hb; have n0_ := Aside0.mk (Kd.R_below (by (with_reducible repeat (first | apply Kd.R_alloc | apply Kd.R_drewN | apply Kd.R_drew)); exact HO_7.out) hb); have n1_ := Aside0.mk (Kd.R_below (by (with_reducible repeat (first | apply Kd.R_alloc | apply Kd.R_drewN | apply Kd.R_drew)); exact HO_11.out) hb); have n2_ := Aside0.mk (Kd.R_below (by (with_reducible repeat (first | apply Kd.R_alloc | apply Kd.R_drewN | apply Kd.R_drew)); exact HO19.out) hb); have n3_ := Aside0.mk (blk_below (g := gb11) (o := .cells #[.int .i64 t7, .int .i64 t8, .int .i64 t9] 27 (0, 0)) (by (with_reducible repeat (first | refine blk_drewN ?_ _ | refine blk_drew ?_ | refine blk_alloc ?_ _)); exact BK11.out) hb); have n4_ := Aside0.mk (blk_below (g := gb16) (o := .cells #[.int .i64 x17000_32, .int .i64 x17001_32, .int .i64 x17002_32] 27 (0, 0)) (by (with_reducible repeat (first | refine blk_drewN ?_ _ | refine blk_drew ?_ | refine blk_alloc ?_ _)); exact BK16.out) hb); have n5_ := Aside0.mk (below_step (by repeat (first | (with_reducible first | exact HB.out | apply below_alloc | apply pw_below_drewN | apply below_drew1 | refine below_set ?_ GE11.out | refine below_set ?_ GE16.out) | exact HB.out)) hb); have n6_ := Aside0.mk (hbox); have n7_ := Aside0.mk ((by rw [hg]; exact (below_size (by repeat (first | (with_reducible first | exact HB.out | apply below_alloc | apply pw_below_drewN | apply below_drew1 | refine below_set ?_ GE11.out | refine below_set ?_ GE16.out) | exact HB.out))) : w.heap.size ≤ gb21)); have n8_ := Aside0.mk ((by rw [hg]; exact (below_size (by repeat (first | (with_reducible first | exact HB.out | apply below_alloc | apply pw_below_drewN | apply below_drew1 | refine below_set ?_ GE11.out | refine below_set ?_ GE16.out) | exact HB.out))) : w.heap.size ≤ gb21)); have n9_ := Aside0.mk ((by rw [hg]; exact Nat.ne_of_lt (blk_lt (g := gb11) (o := .cells #[.int .i64 t7, .int .i64 t8, .int .i64 t9] 27 (0, 0)) (by (with_reducible repeat (first | refine blk_drewN ?_ _ | refine blk_drew ?_ | refine blk_alloc ?_ _)); exact BK11.out)) : gb11 ≠ gb21)); have n10_ := Aside0.mk ((by rw [hg]; exact Nat.ne_of_gt (blk_lt (g := gb11) (o := .cells #[.int .i64 t7, .int .i64 t8, .int .i64 t9] 27 (0, 0)) (by (with_reducible repeat (first | refine blk_drewN ?_ _ | refine blk_drew ?_ | refine blk_alloc ?_ _)); exact BK11.out)) : gb21 ≠ gb11)); have n11_ := Aside0.mk ((by rw [hg]; exact Nat.ne_of_lt (blk_lt (g := gb16) (o := .cells #[.int .i64 x17000_32, .int .i64 x17001_32, .int .i64 x17002_32] 27 (0, 0)) (by (with_reducible repeat (first | refine blk_drewN ?_ _ | refine blk_drew ?_ | refine blk_alloc ?_ _)); exact BK16.out)) : gb16 ≠ gb21)); have n12_ := Aside0.mk ((by rw [hg]; exact Nat.ne_of_gt (blk_lt (g := gb16) (o := .cells #[.int .i64 x17000_32, .int .i64 x17001_32, .int .i64 x17002_32] 27 (0, 0)) (by (with_reducible repeat (first | refine blk_drewN ?_ _ | refine blk_drew ?_ | refine blk_alloc ?_ _)); exact BK16.out)) : gb21 ≠ gb16)); clear HO_7; clear HO_11; clear HO19; clear BK11; clear BK16; clear HB; have HO_7 := n0_; have HO_11 := n1_; have HO19 := n2_; have BK11 := n3_; have BK16 := n4_; have HB := n5_; have BK21 := n6_; have GW21 := n7_; have GE21 := n8_; have NB11_21 := n9_; have NB21_11 := n10_; have NB16_21 := n11_; have NB21_16 := n12_; clear n0_ n1_ n2_ n3_ n4_ n5_ n6_ n7_ n8_ n9_ n10_ n11_ n12_; clear hb hbox hg; obtain ⟨Ao52, co52, eo52⟩ := Kd.R_slice HO19.out; subst eo52; have hnb53 := NB21_11.out; have hnc53 := NB11_21.out; have hnb54 := NB21_16.out; have hnc54 := NB16_21.out; have hcz55_0 : w51.cell? ⟨gb21, 0, none⟩ = some (.slice none 0 0) := (blk_cell BK21.out 0).trans rfl; have hcz55_1 : w51.cell? ⟨gb21, 1, none⟩ = some (.int .i64 0) := (blk_cell BK21.out 1).trans rfl; have hfz55_0 := blk_frozen BK21.out 0; have hfz55_1 := blk_frozen BK21.out 1))
          repeat (go_quiet (first | (go_at_call 66; (with_reducible refine (r10_Admit.calls kj32 _ _ t2 ((rd_T31 t2 (ji13)).f0) t7 t8 t9 t17 t20 _ ?side1 ?side2 A46.out).mono ?_); (case side1 => repeat (first | exact (Kd.R_reads' HO_7.out).2.2 | (with_reducible refine Kd.C_alloc ?_ _) | (with_reducible refine Kd.C_drewN ?_ _) | (with_reducible refine Kd.C_drew ?_))); (case side2 => exact (Kd.R_reads' HO_7.out).2.1); rintro e w50 ⟨v18, rfl, ho0, hb⟩; have n0_ := Aside0.mk (Kd.R_elder' (by (with_reducible repeat (first | apply Kd.R_alloc | apply Kd.R_drewN | apply Kd.R_drew)); exact HO_7.out) (Kd.R_base ho0) hb); have n1_ := Aside0.mk (Kd.R_below (by (with_reducible repeat (first | apply Kd.R_alloc | apply Kd.R_drewN | apply Kd.R_drew)); exact HO_11.out) hb); have n2_ := Aside0.mk (Kd.R_lower (Kd.R_new' ho0 (Kd.R_lt (by (with_reducible repeat (first | apply Kd.R_alloc | apply Kd.R_drewN | apply Kd.R_drew)); exact HO_7.out))) (below_size (by repeat (first | (with_reducible first | exact HB.out | apply below_alloc | apply pw_below_drewN | apply below_drew1 | refine below_set ?_ GE11.out | refine below_set ?_ GE16.out) | exact HB.out)))); have n3_ := Aside0.mk (blk_below (g := gb11) (o := .cells #[.int .i64 t7, .int .i64 t8, .int .i64 t9] 27 (0, 0)) (by (with_reducible repeat (first | refine blk_drewN ?_ _ | refine blk_drew ?_ | refine blk_alloc ?_ _)); exact BK11.out) hb); have n4_ := Aside0.mk (blk_below (g := gb16) (o := .cells #[.int .i64 x17000_32, .int .i64 x17001_32, .int .i64 x17002_32] 27 (0, 0)) (by (with_reducible repeat (first | refine blk_drewN ?_ _ | refine blk_drew ?_ | refine blk_alloc ?_ _)); exact BK16.out) hb); have n5_ := Aside0.mk (below_step (by repeat (first | (with_reducible first | exact HB.out | apply below_alloc | apply pw_below_drewN | apply below_drew1 | refine below_set ?_ GE11.out | refine below_set ?_ GE16.out) | exact HB.out)) hb); clear HO_7; clear HO_11; clear BK11; clear BK16; clear HB; have HO_7 := n0_; have HO_11 := n1_; have HO19 := n2_; have BK11 := n3_; have BK16 := n4_; have HB := n5_; clear n0_ n1_ n2_ n3_ n4_ n5_; (try clear hb); (try clear hb2); (try clear hk); (try clear hi); (try clear ho0)) | ((with_reducible refine gate_dst (N := 13) rfl ?_); (try (refine gate_guard (by rfl) ?_; dsimp only)); refine box_event ?hg (N := 13) ?hd (cs := #[.slice none 0 0, .int .i64 0]) (t := 67) ?hr ?_; (case hd => rfl); (case hg => rfl); (case hr => first | (go_simp; done) | (go_simp; rfl)); intro gb21 hg w51 hbox hb; have n0_ := Aside0.mk (Kd.R_below (by (with_reducible repeat (first | apply Kd.R_alloc | apply Kd.R_drewN | apply Kd.R_drew)); exact HO_7.out) hb); have n1_ := Aside0.mk (Kd.R_below (by (with_reducible repeat (first | apply Kd.R_alloc | apply Kd.R_drewN | apply Kd.R_drew)); exact HO_11.out) hb); have n2_ := Aside0.mk (Kd.R_below (by (with_reducible repeat (first | apply Kd.R_alloc | apply Kd.R_drewN | apply Kd.R_drew)); exact HO19.out) hb); have n3_ := Aside0.mk (blk_below (g := gb11) (o := .cells #[.int .i64 t7, .int .i64 t8, .int .i64 t9] 27 (0, 0)) (by (with_reducible repeat (first | refine blk_drewN ?_ _ | refine blk_drew ?_ | refine blk_alloc ?_ _)); exact BK11.out) hb); have n4_ := Aside0.mk (blk_below (g := gb16) (o := .cells #[.int .i64 x17000_32, .int .i64 x17001_32, .int .i64 x17002_32] 27 (0, 0)) (by (with_reducible repeat (first | refine blk_drewN ?_ _ | refine blk_drew ?_ | refine blk_alloc ?_ _)); exact BK16.out) hb); have n5_ := Aside0.mk (below_step (by repeat (first | (with_reducible first | exact HB.out | apply below_alloc | apply pw_below_drewN | apply below_drew1 | refine below_set ?_ GE11.out | refine below_set ?_ GE16.out) | exact HB.out)) hb); have n6_ := Aside0.mk (hbox); have n7_ := Aside0.mk ((by rw [hg]; exact (below_size (by repeat (first | (with_reducible first | exact HB.out | apply below_alloc | apply pw_below_drewN | apply below_drew1 | refine below_set ?_ GE11.out | refine below_set ?_ GE16.out) | exact HB.out))) : w.heap.size ≤ gb21)); have n8_ := Aside0.mk ((by rw [hg]; exact (below_size (by repeat (first | (with_reducible first | exact HB.out | apply below_alloc | apply pw_below_drewN | apply below_drew1 | refine below_set ?_ GE11.out | refine below_set ?_ GE16.out) | exact HB.out))) : w.heap.size ≤ gb21)); have n9_ := Aside0.mk ((by rw [hg]; exact Nat.ne_of_lt (blk_lt (g := gb11) (o := .cells #[.int .i64 t7, .int .i64 t8, .int .i64 t9] 27 (0, 0)) (by (with_reducible repeat (first | refine blk_drewN ?_ _ | refine blk_drew ?_ | refine blk_alloc ?_ _)); exact BK11.out)) : gb11 ≠ gb21)); have n10_ := Aside0.mk ((by rw [hg]; exact Nat.ne_of_gt (blk_lt (g := gb11) (o := .cells #[.int .i64 t7, .int .i64 t8, .int .i64 t9] 27 (0, 0)) (by (with_reducible repeat (first | refine blk_drewN ?_ _ | refine blk_drew ?_ | refine blk_alloc ?_ _)); exact BK11.out)) : gb21 ≠ gb11)); have n11_ := Aside0.mk ((by rw [hg]; exact Nat.ne_of_lt (blk_lt (g := gb16) (o := .cells #[.int .i64 x17000_32, .int .i64 x17001_32, .int .i64 x17002_32] 27 (0, 0)) (by (with_reducible repeat (first | refine blk_drewN ?_ _ | refine blk_drew ?_ | refine blk_alloc ?_ _)); exact BK16.out)) : gb16 ≠ gb21)); have n12_ := Aside0.mk ((by rw [hg]; exact Nat.ne_of_gt (blk_lt (g := gb16) (o := .cells #[.int .i64 x17000_32, .int .i64 x17001_32, .int .i64 x17002_32] 27 (0, 0)) (by (with_reducible repeat (first | refine blk_drewN ?_ _ | refine blk_drew ?_ | refine blk_alloc ?_ _)); exact BK16.out)) : gb21 ≠ gb16)); clear HO_7; clear HO_11; clear HO19; clear BK11; clear BK16; clear HB; have HO_7 := n0_; have HO_11 := n1_; have HO19 := n2_; have BK11 := n3_; have BK16 := n4_; have HB := n5_; have BK21 := n6_; have GW21 := n7_; have GE21 := n8_; have NB11_21 := n9_; have NB21_11 := n10_; have NB16_21 := n11_; have NB21_16 := n12_; clear n0_ n1_ n2_ n3_ n4_ n5_ n6_ n7_ n8_ n9_ n10_ n11_ n12_; clear hb hbox hg; obtain ⟨Ao52, co52, eo52⟩ := Kd.R_slice HO19.out; subst eo52; have hnb53 := NB21_11.out; have hnc53 := NB11_21.out; have hnb54 := NB21_16.out; have hnc54 := NB16_21.out; have hcz55_0 : w51.cell? ⟨gb21, 0, none⟩ = some (.slice none 0 0) := (blk_cell BK21.out 0).trans rfl; have hcz55_1 : w51.cell? ⟨gb21, 1, none⟩ = some (.int .i64 0) := (blk_cell BK21.out 1).trans rfl; have hfz55_0 := blk_frozen BK21.out 0; have hfz55_1 := blk_frozen BK21.out 1)); go_upto_region 19 with (first | (go_at_call 66; (with_reducible refine (r10_Admit.calls kj32 _ _ t2 ((rd_T31 t2 (ji13)).f0) t7 t8 t9 t17 t20 _ ?side1 ?side2 A46.out).mono ?_); (case side1 => repeat (first | exact (Kd.R_reads' HO_7.out).2.2 | (with_reducible refine Kd.C_alloc ?_ _) | (with_reducible refine Kd.C_drewN ?_ _) | (with_reducible refine Kd.C_drew ?_))); (case side2 => exact (Kd.R_reads' HO_7.out).2.1); rintro e w50 ⟨v18, rfl, ho0, hb⟩; have n0_ := Aside0.mk (Kd.R_elder' (by (with_reducible repeat (first | apply Kd.R_alloc | apply Kd.R_drewN | apply Kd.R_drew)); exact HO_7.out) (Kd.R_base ho0) hb); have n1_ := Aside0.mk (Kd.R_below (by (with_reducible repeat (first | apply Kd.R_alloc | apply Kd.R_drewN | apply Kd.R_drew)); exact HO_11.out) hb); have n2_ := Aside0.mk (Kd.R_lower (Kd.R_new' ho0 (Kd.R_lt (by (with_reducible repeat (first | apply Kd.R_alloc | apply Kd.R_drewN | apply Kd.R_drew)); exact HO_7.out))) (below_size (by repeat (first | (with_reducible first | exact HB.out | apply below_alloc | apply pw_below_drewN | apply below_drew1 | refine below_set ?_ GE11.out | refine below_set ?_ GE16.out) | exact HB.out)))); have n3_ := Aside0.mk (blk_below (g := gb11) (o := .cells #[.int .i64 t7, .int .i64 t8, .int .i64 t9] 27 (0, 0)) (by (with_reducible repeat (first | refine blk_drewN ?_ _ | refine blk_drew ?_ | refine blk_alloc ?_ _)); exact BK11.out) hb); have n4_ := Aside0.mk (blk_below (g := gb16) (o := .cells #[.int .i64 x17000_32, .int .i64 x17001_32, .int .i64 x17002_32] 27 (0, 0)) (by (with_reducible repeat (first | refine blk_drewN ?_ _ | refine blk_drew ?_ | refine blk_alloc ?_ _)); exact BK16.out) hb); have n5_ := Aside0.mk (below_step (by repeat (first | (with_reducible first | exact HB.out | apply below_alloc | apply pw_below_drewN | apply below_drew1 | refine below_set ?_ GE11.out | refine below_set ?_ GE16.out) | exact HB.out)) hb); clear HO_7; clear HO_11; clear BK11; clear BK16; clear HB; have HO_7 := n0_; have HO_11 := n1_; have HO19 := n2_; have BK11 := n3_; have BK16 := n4_; have HB := n5_; clear n0_ n1_ n2_ n3_ n4_ n5_; (try clear hb); (try clear hb2); (try clear hk); (try clear hi); (try clear ho0)) | ((with_reducible refine gate_dst (N := 13) rfl ?_); (try (refine gate_guard (by rfl) ?_; dsimp only)); refine box_event ?hg (N := 13) ?hd (cs := #[.slice none 0 0, .int .i64 0]) (t := 67) ?hr ?_; (case hd => rfl); (case hg => rfl); (case hr => first | (go_simp; done) | (go_simp; rfl)); intro gb21 hg w51 hbox hb; have n0_ := Aside0.mk (Kd.R_below (by (with_reducible repeat (first | apply Kd.R_alloc | apply Kd.R_drewN | apply Kd.R_drew)); exact HO_7.out) hb); have n1_ := Aside0.mk (Kd.R_below (by (with_reducible repeat (first | apply Kd.R_alloc | apply Kd.R_drewN | apply Kd.R_drew)); exact HO_11.out) hb); have n2_ := Aside0.mk (Kd.R_below (by (with_reducible repeat (first | apply Kd.R_alloc | apply Kd.R_drewN | apply Kd.R_drew)); exact HO19.out) hb); have n3_ := Aside0.mk (blk_below (g := gb11) (o := .cells #[.int .i64 t7, .int .i64 t8, .int .i64 t9] 27 (0, 0)) (by (with_reducible repeat (first | refine blk_drewN ?_ _ | refine blk_drew ?_ | refine blk_alloc ?_ _)); exact BK11.out) hb); have n4_ := Aside0.mk (blk_below (g := gb16) (o := .cells #[.int .i64 x17000_32, .int .i64 x17001_32, .int .i64 x17002_32] 27 (0, 0)) (by (with_reducible repeat (first | refine blk_drewN ?_ _ | refine blk_drew ?_ | refine blk_alloc ?_ _)); exact BK16.out) hb); have n5_ := Aside0.mk (below_step (by repeat (first | (with_reducible first | exact HB.out | apply below_alloc | apply pw_below_drewN | apply below_drew1 | refine below_set ?_ GE11.out | refine below_set ?_ GE16.out) | exact HB.out)) hb); have n6_ := Aside0.mk (hbox); have n7_ := Aside0.mk ((by rw [hg]; exact (below_size (by repeat (first | (with_reducible first | exact HB.out | apply below_alloc | apply pw_below_drewN | apply below_drew1 | refine below_set ?_ GE11.out | refine below_set ?_ GE16.out) | exact HB.out))) : w.heap.size ≤ gb21)); have n8_ := Aside0.mk ((by rw [hg]; exact (below_size (by repeat (first | (with_reducible first | exact HB.out | apply below_alloc | apply pw_below_drewN | apply below_drew1 | refine below_set ?_ GE11.out | refine below_set ?_ GE16.out) | exact HB.out))) : w.heap.size ≤ gb21)); have n9_ := Aside0.mk ((by rw [hg]; exact Nat.ne_of_lt (blk_lt (g := gb11) (o := .cells #[.int .i64 t7, .int .i64 t8, .int .i64 t9] 27 (0, 0)) (by (with_reducible repeat (first | refine blk_drewN ?_ _ | refine blk_drew ?_ | refine blk_alloc ?_ _)); exact BK11.out)) : gb11 ≠ gb21)); have n10_ := Aside0.mk ((by rw [hg]; exact Nat.ne_of_gt (blk_lt (g := gb11) (o := .cells #[.int .i64 t7, .int .i64 t8, .int .i64 t9] 27 (0, 0)) (by (with_reducible repeat (first | refine blk_drewN ?_ _ | refine blk_drew ?_ | refine blk_alloc ?_ _)); exact BK11.out)) : gb21 ≠ gb11)); have n11_ := Aside0.mk ((by rw [hg]; exact Nat.ne_of_lt (blk_lt (g := gb16) (o := .cells #[.int .i64 x17000_32, .int .i64 x17001_32, .int .i64 x17002_32] 27 (0, 0)) (by (with_reducible repeat (first | refine blk_drewN ?_ _ | refine blk_drew ?_ | refine blk_alloc ?_ _)); exact BK16.out)) : gb16 ≠ gb21)); have n12_ := Aside0.mk ((by rw [hg]; exact Nat.ne_of_gt (blk_lt (g := gb16) (o := .cells #[.int .i64 x17000_32, .int .i64 x17001_32, .int .i64 x17002_32] 27 (0, 0)) (by (with_reducible repeat (first | refine blk_drewN ?_ _ | refine blk_drew ?_ | refine blk_alloc ?_ _)); exact BK16.out)) : gb21 ≠ gb16)); clear HO_7; clear HO_11; clear HO19; clear BK11; clear BK16; clear HB; have HO_7 := n0_; have HO_11 := n1_; have HO19 := n2_; have BK11 := n3_; have BK16 := n4_; have HB := n5_; have BK21 := n6_; have GW21 := n7_; have GE21 := n8_; have NB11_21 := n9_; have NB21_11 := n10_; have NB16_21 := n11_; have NB21_16 := n12_; clear n0_ n1_ n2_ n3_ n4_ n5_ n6_ n7_ n8_ n9_ n10_ n11_ n12_; clear hb hbox hg; obtain ⟨Ao52, co52, eo52⟩ := Kd.R_slice HO19.out; subst eo52; have hnb53 := NB21_11.out; have hnc53 := NB11_21.out; have hnb54 := NB21_16.out; have hnc54 := NB16_21.out; have hcz55_0 : w51.cell? ⟨gb21, 0, none⟩ = some (.slice none 0 0) := (blk_cell BK21.out 0).trans rfl; have hcz55_1 : w51.cell? ⟨gb21, 1, none⟩ = some (.int .i64 0) := (blk_cell BK21.out 1).trans rfl; have hfz55_0 := blk_frozen BK21.out 0; have hfz55_1 := blk_frozen BK21.out 1)))
          (try simp only [Act.put, List.setIfInBounds_toArray, List.set_cons_zero, List.set_cons_succ])
          go_cut [89] (fun v89 wc => ∃ (kq : Nat) (x89_46 : Bool), v89 = .bool x89_46 ∧ Aside0 (law13_RoomFits.j2 kq t12 x89_46 t17 t20 = some r) ∧ Aside0 (kq ≤ kj32) ∧ Aside0 (Kd.R Kd.string 9 wc w.heap.size (fun _ => True) v13 t12) ∧ Aside0 (Kd.R k31 31 wc w.heap.size (fun _ => True) (.slice Ao52 t17.length co52) t17) ∧ Aside0 (wc.heap[gb11]? = some (.cells #[.int .i64 t7, .int .i64 t8, .int .i64 t9] 27 (0, 0))) ∧ Aside0 (wc.heap[gb16]? = some (.cells #[.int .i64 x17000_32, .int .i64 x17001_32, .int .i64 x17002_32] 27 (0, 0))) ∧ Aside0 (wc.heap[gb21]? = some (.cells #[(.slice Ao52 t17.length co52), .int .i64 t20] 67 (0, 0))) ∧ Aside0 (Below w.heap.size w wc))
          case first =>
           have H := HC47.out
           clear HC47
           by_cases c56 : t20 = 0
           ·rw [if_pos c56] at H
            have c56b0 : (t20 == 0) = true := beq_iff_eq.mpr c56
            have c56b1 : (t20 != 0) = false := bne_eq_false_iff_eq.mpr c56
            clear c56
            (first | rw [c56b0] | (simp only [i64_w, i32_w]; rw [c56b0]) | skip)
            replace H := Option.bind_eq_some_iff.mp H
            obtain ⟨⟨t22, t25⟩, A570, H⟩ := H
            replace H : (law13_RoomFits.j2 kj32 t12 (t25 != 12) t17 t20) = some r := H
            have A57 := Aside0.mk A570
            clear A570
            have H' := Aside0.mk H
            clear H
            have hnb58 := NB21_11.out
            have hnc58 := NB11_21.out
            have hnb59 := NB21_16.out
            have hnc59 := NB16_21.out
            have hcz60_0 : w51.cell? ⟨gb21, 0, none⟩ = some (.slice none 0 0) := (blk_cell BK21.out 0).trans rfl
            have hcz60_1 : w51.cell? ⟨gb21, 1, none⟩ = some (.int .i64 0) := (blk_cell BK21.out 1).trans rfl
            have hfz60_0 := blk_frozen BK21.out 0
            have hfz60_1 := blk_frozen BK21.out 1
            have hnb61 := NB16_11.out
            have hnc61 := NB11_16.out
            have hcz62_0 : w51.cell? ⟨gb16, 0, none⟩ = some (.int .i64 x17000_32) := (blk_cell BK16.out 0).trans rfl
            have hcz62_1 : w51.cell? ⟨gb16, 1, none⟩ = some (.int .i64 x17001_32) := (blk_cell BK16.out 1).trans rfl
            have hcz62_2 : w51.cell? ⟨gb16, 2, none⟩ = some (.int .i64 x17002_32) := (blk_cell BK16.out 2).trans rfl
            have hfz62_0 := blk_frozen BK16.out 0
            have hfz62_1 := blk_frozen BK16.out 1
            have hfz62_2 := blk_frozen BK16.out 2
            go_wp2_with (first | (go_at_call 66; (with_reducible refine (r10_Admit.calls kj32 _ _ t2 ((rd_T31 t2 (ji13)).f0) x17000_32 x17001_32 x17002_32 t22 t25 _ ?side1 ?side2 A57.out).mono ?_); (case side1 => refine (Kd.R_reads' (e := 31) (base := w.heap.size) (ok := fun k_ => (True ∧ some k_ ≠ (.slice Ao52 t17.length co52 : Value).ownBlock)) (n := t2.length) (c := co20) ?_).2.2; exact (by (with_reducible repeat (first | apply Kd.R_alloc | apply Kd.R_drewN | apply Kd.R_drew)); exact (Kd.R_mono (Kd.R_far (p := ⟨gb21, 1, none⟩) (Kd.R_far (p := ⟨gb21, 0, none⟩) (Kd.R_types HO_7.out BK21.out (by decide)) (fun _ hk => hk.2) (.slice Ao52 t17.length co52)) (fun _ hk => hk.2) (.int .i64 t20)) (fun _ h_ => h_.1)))); (case side2 => exact (Kd.R_reads' HO_7.out).2.1); rintro e w63 ⟨v23, rfl, ho0, hb⟩; have n0_ := Aside0.mk (Kd.R_elder' (by (with_reducible repeat (first | apply Kd.R_alloc | apply Kd.R_drewN | apply Kd.R_drew)); exact (Kd.R_mono (Kd.R_far (p := ⟨gb21, 1, none⟩) (Kd.R_far (p := ⟨gb21, 0, none⟩) (Kd.R_types HO_7.out BK21.out (by decide)) (fun _ hk => hk.2) (.slice Ao52 t17.length co52)) (fun _ hk => hk.2) (.int .i64 t20)) (fun _ h_ => h_.1))) (Kd.R_base ho0) hb); have n1_ := Aside0.mk (Kd.R_below (by (with_reducible repeat (first | apply Kd.R_alloc | apply Kd.R_drewN | apply Kd.R_drew)); exact (Kd.R_mono (Kd.R_far (p := ⟨gb21, 1, none⟩) (Kd.R_far (p := ⟨gb21, 0, none⟩) (Kd.R_types HO_11.out BK21.out (by decide)) (fun _ hk => hk.2) (.slice Ao52 t17.length co52)) (fun _ hk => hk.2) (.int .i64 t20)) (fun _ h_ => h_.1))) hb); have n2_ := Aside0.mk (Kd.R_elder' (by (with_reducible repeat (first | apply Kd.R_alloc | apply Kd.R_drewN | apply Kd.R_drew)); exact (Kd.R_mono (Kd.R_far (p := ⟨gb21, 1, none⟩) (Kd.R_far (p := ⟨gb21, 0, none⟩) (Kd.R_types HO19.out BK21.out (by decide)) (fun _ hk => hk.2) (.slice Ao52 t17.length co52)) (fun _ hk => hk.2) (.int .i64 t20)) (fun _ h_ => h_.1))) (Kd.R_base ho0) hb); have n3_ := Aside0.mk (Kd.R_lower (Kd.R_new' (Kd.R_new' ho0 (Kd.R_lt (by (with_reducible repeat (first | apply Kd.R_alloc | apply Kd.R_drewN | apply Kd.R_drew)); exact (Kd.R_mono (Kd.R_far (p := ⟨gb21, 1, none⟩) (Kd.R_far (p := ⟨gb21, 0, none⟩) (Kd.R_types HO_7.out BK21.out (by decide)) (fun _ hk => hk.2) (.slice Ao52 t17.length co52)) (fun _ hk => hk.2) (.int .i64 t20)) (fun _ h_ => h_.1))))) (Kd.R_lt (by (with_reducible repeat (first | apply Kd.R_alloc | apply Kd.R_drewN | apply Kd.R_drew)); exact (Kd.R_mono (Kd.R_far (p := ⟨gb21, 1, none⟩) (Kd.R_far (p := ⟨gb21, 0, none⟩) (Kd.R_types HO19.out BK21.out (by decide)) (fun _ hk => hk.2) (.slice Ao52 t17.length co52)) (fun _ hk => hk.2) (.int .i64 t20)) (fun _ h_ => h_.1))))) (below_size (by repeat (first | (with_reducible first | exact HB.out | apply below_alloc | apply pw_below_drewN | apply below_drew1 | refine below_set ?_ GE11.out | refine below_set ?_ GE16.out | refine below_set ?_ GE21.out) | exact HB.out)))); have n4_ := Aside0.mk (blk_below (g := gb11) (o := .cells #[.int .i64 t7, .int .i64 t8, .int .i64 t9] 27 (0, 0)) (by (with_reducible repeat (first | refine blk_drewN ?_ _ | refine blk_drew ?_ | refine blk_alloc ?_ _)); refine blk_far ?_ NB11_21.out _; (with_reducible repeat (first | refine blk_drewN ?_ _ | refine blk_drew ?_ | refine blk_alloc ?_ _)); refine blk_far ?_ NB11_21.out _; (with_reducible repeat (first | refine blk_drewN ?_ _ | refine blk_drew ?_ | refine blk_alloc ?_ _)); exact BK11.out) hb); have n5_ := Aside0.mk (blk_below (g := gb16) (o := .cells #[.int .i64 x17000_32, .int .i64 x17001_32, .int .i64 x17002_32] 27 (0, 0)) (by (with_reducible repeat (first | refine blk_drewN ?_ _ | refine blk_drew ?_ | refine blk_alloc ?_ _)); refine blk_far ?_ NB16_21.out _; (with_reducible repeat (first | refine blk_drewN ?_ _ | refine blk_drew ?_ | refine blk_alloc ?_ _)); refine blk_far ?_ NB16_21.out _; (with_reducible repeat (first | refine blk_drewN ?_ _ | refine blk_drew ?_ | refine blk_alloc ?_ _)); exact BK16.out) hb); have n6_ := Aside0.mk (blk_below (g := gb21) (o := .cells #[.slice Ao52 t17.length co52, .int .i64 t20] 67 (0, 0)) (by (with_reducible repeat (first | refine blk_drewN ?_ _ | refine blk_drew ?_ | refine blk_alloc ?_ _)); refine blk_put (cs := #[.slice Ao52 t17.length co52, .int .i64 0]) ?_ 1 _ rfl; (with_reducible repeat (first | refine blk_drewN ?_ _ | refine blk_drew ?_ | refine blk_alloc ?_ _)); refine blk_put (cs := #[.slice none 0 0, .int .i64 0]) ?_ 0 _ rfl; (with_reducible repeat (first | refine blk_drewN ?_ _ | refine blk_drew ?_ | refine blk_alloc ?_ _)); exact BK21.out) hb); have n7_ := Aside0.mk (below_step (by repeat (first | (with_reducible first | exact HB.out | apply below_alloc | apply pw_below_drewN | apply below_drew1 | refine below_set ?_ GE11.out | refine below_set ?_ GE16.out | refine below_set ?_ GE21.out) | exact HB.out)) hb); clear HO_7; clear HO_11; clear HO19; clear BK11; clear BK16; clear BK21; clear HB; have HO_7 := n0_; have HO_11 := n1_; have HO19 := n2_; have HO24 := n3_; have BK11 := n4_; have BK16 := n5_; have BK21 := n6_; have HB := n7_; clear n0_ n1_ n2_ n3_ n4_ n5_ n6_ n7_; (try clear hb); (try clear hb2); (try clear hk); (try clear hi); (try clear ho0)))
            repeat (go_quiet (first | (go_at_call 66; (with_reducible refine (r10_Admit.calls kj32 _ _ t2 ((rd_T31 t2 (ji13)).f0) x17000_32 x17001_32 x17002_32 t22 t25 _ ?side1 ?side2 A57.out).mono ?_); (case side1 => refine (Kd.R_reads' (e := 31) (base := w.heap.size) (ok := fun k_ => (True ∧ some k_ ≠ (.slice Ao52 t17.length co52 : Value).ownBlock)) (n := t2.length) (c := co20) ?_).2.2; exact (by (with_reducible repeat (first | apply Kd.R_alloc | apply Kd.R_drewN | apply Kd.R_drew)); exact (Kd.R_mono (Kd.R_far (p := ⟨gb21, 1, none⟩) (Kd.R_far (p := ⟨gb21, 0, none⟩) (Kd.R_types HO_7.out BK21.out (by decide)) (fun _ hk => hk.2) (.slice Ao52 t17.length co52)) (fun _ hk => hk.2) (.int .i64 t20)) (fun _ h_ => h_.1)))); (case side2 => exact (Kd.R_reads' HO_7.out).2.1); rintro e w63 ⟨v23, rfl, ho0, hb⟩; have n0_ := Aside0.mk (Kd.R_elder' (by (with_reducible repeat (first | apply Kd.R_alloc | apply Kd.R_drewN | apply Kd.R_drew)); exact (Kd.R_mono (Kd.R_far (p := ⟨gb21, 1, none⟩) (Kd.R_far (p := ⟨gb21, 0, none⟩) (Kd.R_types HO_7.out BK21.out (by decide)) (fun _ hk => hk.2) (.slice Ao52 t17.length co52)) (fun _ hk => hk.2) (.int .i64 t20)) (fun _ h_ => h_.1))) (Kd.R_base ho0) hb); have n1_ := Aside0.mk (Kd.R_below (by (with_reducible repeat (first | apply Kd.R_alloc | apply Kd.R_drewN | apply Kd.R_drew)); exact (Kd.R_mono (Kd.R_far (p := ⟨gb21, 1, none⟩) (Kd.R_far (p := ⟨gb21, 0, none⟩) (Kd.R_types HO_11.out BK21.out (by decide)) (fun _ hk => hk.2) (.slice Ao52 t17.length co52)) (fun _ hk => hk.2) (.int .i64 t20)) (fun _ h_ => h_.1))) hb); have n2_ := Aside0.mk (Kd.R_elder' (by (with_reducible repeat (first | apply Kd.R_alloc | apply Kd.R_drewN | apply Kd.R_drew)); exact (Kd.R_mono (Kd.R_far (p := ⟨gb21, 1, none⟩) (Kd.R_far (p := ⟨gb21, 0, none⟩) (Kd.R_types HO19.out BK21.out (by decide)) (fun _ hk => hk.2) (.slice Ao52 t17.length co52)) (fun _ hk => hk.2) (.int .i64 t20)) (fun _ h_ => h_.1))) (Kd.R_base ho0) hb); have n3_ := Aside0.mk (Kd.R_lower (Kd.R_new' (Kd.R_new' ho0 (Kd.R_lt (by (with_reducible repeat (first | apply Kd.R_alloc | apply Kd.R_drewN | apply Kd.R_drew)); exact (Kd.R_mono (Kd.R_far (p := ⟨gb21, 1, none⟩) (Kd.R_far (p := ⟨gb21, 0, none⟩) (Kd.R_types HO_7.out BK21.out (by decide)) (fun _ hk => hk.2) (.slice Ao52 t17.length co52)) (fun _ hk => hk.2) (.int .i64 t20)) (fun _ h_ => h_.1))))) (Kd.R_lt (by (with_reducible repeat (first | apply Kd.R_alloc | apply Kd.R_drewN | apply Kd.R_drew)); exact (Kd.R_mono (Kd.R_far (p := ⟨gb21, 1, none⟩) (Kd.R_far (p := ⟨gb21, 0, none⟩) (Kd.R_types HO19.out BK21.out (by decide)) (fun _ hk => hk.2) (.slice Ao52 t17.length co52)) (fun _ hk => hk.2) (.int .i64 t20)) (fun _ h_ => h_.1))))) (below_size (by repeat (first | (with_reducible first | exact HB.out | apply below_alloc | apply pw_below_drewN | apply below_drew1 | refine below_set ?_ GE11.out | refine below_set ?_ GE16.out | refine below_set ?_ GE21.out) | exact HB.out)))); have n4_ := Aside0.mk (blk_below (g := gb11) (o := .cells #[.int .i64 t7, .int .i64 t8, .int .i64 t9] 27 (0, 0)) (by (with_reducible repeat (first | refine blk_drewN ?_ _ | refine blk_drew ?_ | refine blk_alloc ?_ _)); refine blk_far ?_ NB11_21.out _; (with_reducible repeat (first | refine blk_drewN ?_ _ | refine blk_drew ?_ | refine blk_alloc ?_ _)); refine blk_far ?_ NB11_21.out _; (with_reducible repeat (first | refine blk_drewN ?_ _ | refine blk_drew ?_ | refine blk_alloc ?_ _)); exact BK11.out) hb); have n5_ := Aside0.mk (blk_below (g := gb16) (o := .cells #[.int .i64 x17000_32, .int .i64 x17001_32, .int .i64 x17002_32] 27 (0, 0)) (by (with_reducible repeat (first | refine blk_drewN ?_ _ | refine blk_drew ?_ | refine blk_alloc ?_ _)); refine blk_far ?_ NB16_21.out _; (with_reducible repeat (first | refine blk_drewN ?_ _ | refine blk_drew ?_ | refine blk_alloc ?_ _)); refine blk_far ?_ NB16_21.out _; (with_reducible repeat (first | refine blk_drewN ?_ _ | refine blk_drew ?_ | refine blk_alloc ?_ _)); exact BK16.out) hb); have n6_ := Aside0.mk (blk_below (g := gb21) (o := .cells #[.slice Ao52 t17.length co52, .int .i64 t20] 67 (0, 0)) (by (with_reducible repeat (first | refine blk_drewN ?_ _ | refine blk_drew ?_ | refine blk_alloc ?_ _)); refine blk_put (cs := #[.slice Ao52 t17.length co52, .int .i64 0]) ?_ 1 _ rfl; (with_reducible repeat (first | refine blk_drewN ?_ _ | refine blk_drew ?_ | refine blk_alloc ?_ _)); refine blk_put (cs := #[.slice none 0 0, .int .i64 0]) ?_ 0 _ rfl; (with_reducible repeat (first | refine blk_drewN ?_ _ | refine blk_drew ?_ | refine blk_alloc ?_ _)); exact BK21.out) hb); have n7_ := Aside0.mk (below_step (by repeat (first | (with_reducible first | exact HB.out | apply below_alloc | apply pw_below_drewN | apply below_drew1 | refine below_set ?_ GE11.out | refine below_set ?_ GE16.out | refine below_set ?_ GE21.out) | exact HB.out)) hb); clear HO_7; clear HO_11; clear HO19; clear BK11; clear BK16; clear BK21; clear HB; have HO_7 := n0_; have HO_11 := n1_; have HO19 := n2_; have HO24 := n3_; have BK11 := n4_; have BK16 := n5_; have BK21 := n6_; have HB := n7_; clear n0_ n1_ n2_ n3_ n4_ n5_ n6_ n7_; (try clear hb); (try clear hb2); (try clear hk); (try clear hi); (try clear ho0))); try go_wp2_with (first | (go_at_call 66; (with_reducible refine (r10_Admit.calls kj32 _ _ t2 ((rd_T31 t2 (ji13)).f0) x17000_32 x17001_32 x17002_32 t22 t25 _ ?side1 ?side2 A57.out).mono ?_); (case side1 => refine (Kd.R_reads' (e := 31) (base := w.heap.size) (ok := fun k_ => (True ∧ some k_ ≠ (.slice Ao52 t17.length co52 : Value).ownBlock)) (n := t2.length) (c := co20) ?_).2.2; exact (by (with_reducible repeat (first | apply Kd.R_alloc | apply Kd.R_drewN | apply Kd.R_drew)); exact (Kd.R_mono (Kd.R_far (p := ⟨gb21, 1, none⟩) (Kd.R_far (p := ⟨gb21, 0, none⟩) (Kd.R_types HO_7.out BK21.out (by decide)) (fun _ hk => hk.2) (.slice Ao52 t17.length co52)) (fun _ hk => hk.2) (.int .i64 t20)) (fun _ h_ => h_.1)))); (case side2 => exact (Kd.R_reads' HO_7.out).2.1); rintro e w63 ⟨v23, rfl, ho0, hb⟩; have n0_ := Aside0.mk (Kd.R_elder' (by (with_reducible repeat (first | apply Kd.R_alloc | apply Kd.R_drewN | apply Kd.R_drew)); exact (Kd.R_mono (Kd.R_far (p := ⟨gb21, 1, none⟩) (Kd.R_far (p := ⟨gb21, 0, none⟩) (Kd.R_types HO_7.out BK21.out (by decide)) (fun _ hk => hk.2) (.slice Ao52 t17.length co52)) (fun _ hk => hk.2) (.int .i64 t20)) (fun _ h_ => h_.1))) (Kd.R_base ho0) hb); have n1_ := Aside0.mk (Kd.R_below (by (with_reducible repeat (first | apply Kd.R_alloc | apply Kd.R_drewN | apply Kd.R_drew)); exact (Kd.R_mono (Kd.R_far (p := ⟨gb21, 1, none⟩) (Kd.R_far (p := ⟨gb21, 0, none⟩) (Kd.R_types HO_11.out BK21.out (by decide)) (fun _ hk => hk.2) (.slice Ao52 t17.length co52)) (fun _ hk => hk.2) (.int .i64 t20)) (fun _ h_ => h_.1))) hb); have n2_ := Aside0.mk (Kd.R_elder' (by (with_reducible repeat (first | apply Kd.R_alloc | apply Kd.R_drewN | apply Kd.R_drew)); exact (Kd.R_mono (Kd.R_far (p := ⟨gb21, 1, none⟩) (Kd.R_far (p := ⟨gb21, 0, none⟩) (Kd.R_types HO19.out BK21.out (by decide)) (fun _ hk => hk.2) (.slice Ao52 t17.length co52)) (fun _ hk => hk.2) (.int .i64 t20)) (fun _ h_ => h_.1))) (Kd.R_base ho0) hb); have n3_ := Aside0.mk (Kd.R_lower (Kd.R_new' (Kd.R_new' ho0 (Kd.R_lt (by (with_reducible repeat (first | apply Kd.R_alloc | apply Kd.R_drewN | apply Kd.R_drew)); exact (Kd.R_mono (Kd.R_far (p := ⟨gb21, 1, none⟩) (Kd.R_far (p := ⟨gb21, 0, none⟩) (Kd.R_types HO_7.out BK21.out (by decide)) (fun _ hk => hk.2) (.slice Ao52 t17.length co52)) (fun _ hk => hk.2) (.int .i64 t20)) (fun _ h_ => h_.1))))) (Kd.R_lt (by (with_reducible repeat (first | apply Kd.R_alloc | apply Kd.R_drewN | apply Kd.R_drew)); exact (Kd.R_mono (Kd.R_far (p := ⟨gb21, 1, none⟩) (Kd.R_far (p := ⟨gb21, 0, none⟩) (Kd.R_types HO19.out BK21.out (by decide)) (fun _ hk => hk.2) (.slice Ao52 t17.length co52)) (fun _ hk => hk.2) (.int .i64 t20)) (fun _ h_ => h_.1))))) (below_size (by repeat (first | (with_reducible first | exact HB.out | apply below_alloc | apply pw_below_drewN | apply below_drew1 | refine below_set ?_ GE11.out | refine below_set ?_ GE16.out | refine below_set ?_ GE21.out) | exact HB.out)))); have n4_ := Aside0.mk (blk_below (g := gb11) (o := .cells #[.int .i64 t7, .int .i64 t8, .int .i64 t9] 27 (0, 0)) (by (with_reducible repeat (first | refine blk_drewN ?_ _ | refine blk_drew ?_ | refine blk_alloc ?_ _)); refine blk_far ?_ NB11_21.out _; (with_reducible repeat (first | refine blk_drewN ?_ _ | refine blk_drew ?_ | refine blk_alloc ?_ _)); refine blk_far ?_ NB11_21.out _; (with_reducible repeat (first | refine blk_drewN ?_ _ | refine blk_drew ?_ | refine blk_alloc ?_ _)); exact BK11.out) hb); have n5_ := Aside0.mk (blk_below (g := gb16) (o := .cells #[.int .i64 x17000_32, .int .i64 x17001_32, .int .i64 x17002_32] 27 (0, 0)) (by (with_reducible repeat (first | refine blk_drewN ?_ _ | refine blk_drew ?_ | refine blk_alloc ?_ _)); refine blk_far ?_ NB16_21.out _; (with_reducible repeat (first | refine blk_drewN ?_ _ | refine blk_drew ?_ | refine blk_alloc ?_ _)); refine blk_far ?_ NB16_21.out _; (with_reducible repeat (first | refine blk_drewN ?_ _ | refine blk_drew ?_ | refine blk_alloc ?_ _)); exact BK16.out) hb); have n6_ := Aside0.mk (blk_below (g := gb21) (o := .cells #[.slice Ao52 t17.length co52, .int .i64 t20] 67 (0, 0)) (by (with_reducible repeat (first | refine blk_drewN ?_ _ | refine blk_drew ?_ | refine blk_alloc ?_ _)); refine blk_put (cs := #[.slice Ao52 t17.length co52, .int .i64 0]) ?_ 1 _ rfl; (with_reducible repeat (first | refine blk_drewN ?_ _ | refine blk_drew ?_ | refine blk_alloc ?_ _)); refine blk_put (cs := #[.slice none 0 0, .int .i64 0]) ?_ 0 _ rfl; (with_reducible repeat (first | refine blk_drewN ?_ _ | refine blk_drew ?_ | refine blk_alloc ?_ _)); exact BK21.out) hb); have n7_ := Aside0.mk (below_step (by repeat (first | (with_reducible first | exact HB.out | apply below_alloc | apply pw_below_drewN | apply below_drew1 | refine below_set ?_ GE11.out | refine below_set ?_ GE16.out | refine below_set ?_ GE21.out) | exact HB.out)) hb); clear HO_7; clear HO_11; clear HO19; clear BK11; clear BK16; clear BK21; clear HB; have HO_7 := n0_; have HO_11 := n1_; have HO19 := n2_; have HO24 := n3_; have BK11 := n4_; have BK16 := n5_; have BK21 := n6_; have HB := n7_; clear n0_ n1_ n2_ n3_ n4_ n5_ n6_ n7_; (try clear hb); (try clear hb2); (try clear hk); (try clear hi); (try clear ho0))))
            (rw [run_fld2_1 hu67 rfl (isAgg3 Try.underlying3)]; go_wp2)
            go_meet
            case rel => exact ⟨_, ((t25 != 12)), (by first | rfl | (simp; done) | (simp [*]; done)), H', ⟨by have := HJ17.out; have := HJ32.out; first | omega | exact Nat.le_refl _⟩, ⟨by (with_reducible repeat (first | apply Kd.R_alloc | apply Kd.R_drewN | apply Kd.R_drew)); exact HO_11.out⟩, ⟨by (with_reducible repeat (first | apply Kd.R_alloc | apply Kd.R_drewN | apply Kd.R_drew)); exact Kd.R_mono HO19.out (fun _ hk => trivial)⟩, ⟨by (with_reducible repeat (first | refine blk_drewN ?_ _ | refine blk_drew ?_ | refine blk_alloc ?_ _)); exact BK11.out⟩, ⟨by (with_reducible repeat (first | refine blk_drewN ?_ _ | refine blk_drew ?_ | refine blk_alloc ?_ _)); exact BK16.out⟩, ⟨by (with_reducible repeat (first | refine blk_drewN ?_ _ | refine blk_drew ?_ | refine blk_alloc ?_ _)); exact BK21.out⟩, ⟨by repeat (first | (with_reducible first | exact HB.out | apply below_alloc | apply pw_below_drewN | apply below_drew1 | refine below_set ?_ GE11.out | refine below_set ?_ GE16.out | refine below_set ?_ GE21.out) | exact HB.out)⟩⟩
           ·rw [if_neg c56] at H
            have c56b0 : (t20 == 0) = false := beq_eq_false_iff_ne.mpr c56
            have c56b1 : (t20 != 0) = true := bne_iff_ne.mpr c56
            (first | rw [c56b0] | (simp only [i64_w, i32_w]; rw [c56b0]) | skip)
            have H' := Aside0.mk H
            clear H
            have hnb64 := NB21_11.out
            have hnc64 := NB11_21.out
            have hnb65 := NB21_16.out
            have hnc65 := NB16_21.out
            have hcz66_0 : w51.cell? ⟨gb21, 0, none⟩ = some (.slice none 0 0) := (blk_cell BK21.out 0).trans rfl
            have hcz66_1 : w51.cell? ⟨gb21, 1, none⟩ = some (.int .i64 0) := (blk_cell BK21.out 1).trans rfl
            have hfz66_0 := blk_frozen BK21.out 0
            have hfz66_1 := blk_frozen BK21.out 1
            go_wp2
            repeat (go_quiet (fail); try go_wp2)
            go_meet
            case rel => exact ⟨_, (true), (by first | rfl | (simp; done) | (simp [*]; done)), H', ⟨by have := HJ17.out; have := HJ32.out; first | omega | exact Nat.le_refl _⟩, ⟨by (with_reducible repeat (first | apply Kd.R_alloc | apply Kd.R_drewN | apply Kd.R_drew)); exact Kd.R_mono (Kd.R_far (p := ⟨gb21, 1, none⟩) (Kd.R_far (p := ⟨gb21, 0, none⟩) (Kd.R_types HO_11.out BK21.out (by decide)) (fun _ hk => hk.2) (.slice Ao52 t17.length co52)) (fun _ hk => hk.2) (.int .i64 t20)) (fun _ hk => trivial)⟩, ⟨by (with_reducible repeat (first | apply Kd.R_alloc | apply Kd.R_drewN | apply Kd.R_drew)); exact Kd.R_mono (Kd.R_far (p := ⟨gb21, 1, none⟩) (Kd.R_far (p := ⟨gb21, 0, none⟩) (Kd.R_types HO19.out BK21.out (by decide)) (fun _ hk => hk.2) (.slice Ao52 t17.length co52)) (fun _ hk => hk.2) (.int .i64 t20)) (fun _ hk => trivial)⟩, ⟨by (with_reducible repeat (first | refine blk_drewN ?_ _ | refine blk_drew ?_ | refine blk_alloc ?_ _)); refine blk_far ?_ NB11_21.out _; (with_reducible repeat (first | refine blk_drewN ?_ _ | refine blk_drew ?_ | refine blk_alloc ?_ _)); refine blk_far ?_ NB11_21.out _; (with_reducible repeat (first | refine blk_drewN ?_ _ | refine blk_drew ?_ | refine blk_alloc ?_ _)); exact BK11.out⟩, ⟨by (with_reducible repeat (first | refine blk_drewN ?_ _ | refine blk_drew ?_ | refine blk_alloc ?_ _)); refine blk_far ?_ NB16_21.out _; (with_reducible repeat (first | refine blk_drewN ?_ _ | refine blk_drew ?_ | refine blk_alloc ?_ _)); refine blk_far ?_ NB16_21.out _; (with_reducible repeat (first | refine blk_drewN ?_ _ | refine blk_drew ?_ | refine blk_alloc ?_ _)); exact BK16.out⟩, ⟨by (with_reducible repeat (first | refine blk_drewN ?_ _ | refine blk_drew ?_ | refine blk_alloc ?_ _)); refine blk_put (cs := #[.slice Ao52 t17.length co52, .int .i64 0]) ?_ 1 _ rfl; (with_reducible repeat (first | refine blk_drewN ?_ _ | refine blk_drew ?_ | refine blk_alloc ?_ _)); refine blk_put (cs := #[.slice none 0 0, .int .i64 0]) ?_ 0 _ rfl; (with_reducible repeat (first | refine blk_drewN ?_ _ | refine blk_drew ?_ | refine blk_alloc ?_ _)); exact BK21.out⟩, ⟨by repeat (first | (with_reducible first | exact HB.out | apply below_alloc | apply pw_below_drewN | apply below_drew1 | refine below_set ?_ GE11.out | refine below_set ?_ GE16.out | refine below_set ?_ GE21.out) | exact HB.out)⟩⟩
          case rest =>
           clear HC47
           try clear c1
           try clear c2
           try clear p2
           try clear c3
           try clear c4
           try clear c4b0
           try clear c4b1
           try clear c5
           try clear c6
           try clear p6
           try clear q6
           try clear hx6
           try clear c8
           try clear c8b0
           try clear c8b1
           try clear c8b2
           try clear c10
           try clear c14
           try clear c14b0
           try clear c15
           try clear c15b0
           try clear c25
           try clear c26
           try clear c26b0
           try clear c26b1
           try clear c26b2
           try clear c32
           try clear c36
           try clear c38
           try clear c38b0
           try clear c38b1
           try clear c39
           try clear c41
           try clear c41b0
           try clear c41b1
           try clear c42
           try clear c44
           try clear c48
           try clear c53
           try clear c54
           try clear c56
           try clear c56b0
           try clear c56b1
           try clear c58
           try clear c59
           try clear c61
           try clear c64
           try clear p64
           try clear c65
           try clear hcz23_0
           try clear hcz23_1
           try clear hcz23_2
           try clear hcz30_0
           try clear hcz30_1
           try clear hcz30_2
           try clear hcz34_0
           try clear hcz34_1
           try clear hcz34_2
           try clear hcz37_0
           try clear hcz37_1
           try clear hcz37_2
           try clear hcz40_0
           try clear hcz40_1
           try clear hcz40_2
           try clear hcz43_0
           try clear hcz43_1
           try clear hcz43_2
           try clear hcz45_0
           try clear hcz45_1
           try clear hcz45_2
           try clear hcz49_0
           try clear hcz49_1
           try clear hcz49_2
           try clear hcz55_0
           try clear hcz55_1
           try clear hcz60_0
           try clear hcz60_1
           try clear hcz62_0
           try clear hcz62_1
           try clear hcz62_2
           try clear hcz66_0
           try clear hcz66_1
           try clear hfz23_0
           try clear hfz23_1
           try clear hfz23_2
           try clear hfz30_0
           try clear hfz30_1
           try clear hfz30_2
           try clear hfz34_0
           try clear hfz34_1
           try clear hfz34_2
           try clear hfz37_0
           try clear hfz37_1
           try clear hfz37_2
           try clear hfz40_0
           try clear hfz40_1
           try clear hfz40_2
           try clear hfz43_0
           try clear hfz43_1
           try clear hfz43_2
           try clear hfz45_0
           try clear hfz45_1
           try clear hfz45_2
           try clear hfz49_0
           try clear hfz49_1
           try clear hfz49_2
           try clear hfz55_0
           try clear hfz55_1
           try clear hfz60_0
           try clear hfz60_1
           try clear hfz62_0
           try clear hfz62_1
           try clear hfz62_2
           try clear hfz66_0
           try clear hfz66_1
           try clear hx6_0
           try clear hx6_1
           try clear hx6_10
           try clear hx6_11
           try clear hx6_2
           try clear hx6_3
           try clear hx6_4
           try clear hx6_5
           try clear hx6_6
           try clear hx6_7
           try clear hx6_8
           try clear hx6_9
           try clear p2
           try clear p6
           try clear q6
           obtain ⟨kq, x89_46, rfl, HA, HJ46, HO_11, HO_22000, BK11, BK16, BK21, HB⟩ := hcut
           cases kq with
           | zero => exact absurd HA.out (by simp [law13_RoomFits.j2])
           | succ kj46 =>
            have H := HA.out
            clear HA
            simp only [law13_RoomFits.j2] at H
            by_cases c67 : x89_46 = true
            ·subst c67
             have H1 : (some false) = some r := by rw [if_pos rfl] at H; exact H
             clear H
             have H := H1
             clear H1
             obtain rfl := Option.some.inj H
             go_wp2
             repeat (go_quiet (fail); try go_wp2)
             go_ret
             exact ⟨by first | rfl | (simp [errW_none, errW_some] <;> rfl) | (simp only [← hji13]; first | rfl | (simp [errW_none, errW_some] <;> rfl)) | (simp [*, errW_none, errW_some] <;> rfl), by repeat (first | (with_reducible first | exact HB.out | apply below_alloc | apply pw_below_drewN | apply below_drew1 | refine below_set ?_ GE11.out | refine below_set ?_ GE16.out | refine below_set ?_ GE21.out) | exact HB.out)⟩
            ·replace c67 := Bool.eq_false_iff.mpr c67
             subst c67
             have H1 : (law13_RoomFits.l0 kj46 t12 0 t17 t20) = some r := by rw [if_neg (show ¬ (false = true) by decide)] at H; exact H
             clear H
             have H := H1
             clear H1
             have H' := Aside0.mk H
             clear H
             go_wp2
             repeat (go_quiet (fail); try go_wp2)
             go_loopg [14] kj46 (fun kq v14 w' => ∃ (x14_4 : Int), v14 = .int .i64 x14_4 ∧ Aside0 (law13_RoomFits.l0 kq t12 x14_4 t17 t20 = some r) ∧ Aside0 (kq ≤ kj46) ∧ Aside0 (Kd.R Kd.string 9 w' w.heap.size (fun _ => True) v13 t12) ∧ Aside0 (Kd.R k31 31 w' w.heap.size (fun _ => True) (.slice Ao52 t17.length co52) t17) ∧ Aside0 (w'.heap[gb11]? = some (.cells #[.int .i64 t7, .int .i64 t8, .int .i64 t9] 27 (0, 0))) ∧ Aside0 (w'.heap[gb16]? = some (.cells #[.int .i64 x17000_32, .int .i64 x17001_32, .int .i64 x17002_32] 27 (0, 0))) ∧ Aside0 (w'.heap[gb21]? = some (.cells #[(.slice Ao52 t17.length co52), .int .i64 t20] 67 (0, 0))) ∧ Aside0 (Below w.heap.size w w'))
             case atStart => exact ⟨(0), (by first | rfl | (simp; done) | (simp [*]; done)), H', ⟨Nat.le_refl _⟩, ⟨by (with_reducible repeat (first | apply Kd.R_alloc | apply Kd.R_drewN | apply Kd.R_drew)); exact HO_11.out⟩, ⟨by (with_reducible repeat (first | apply Kd.R_alloc | apply Kd.R_drewN | apply Kd.R_drew)); exact HO_22000.out⟩, ⟨by (with_reducible repeat (first | refine blk_drewN ?_ _ | refine blk_drew ?_ | refine blk_alloc ?_ _)); exact BK11.out⟩, ⟨by (with_reducible repeat (first | refine blk_drewN ?_ _ | refine blk_drew ?_ | refine blk_alloc ?_ _)); exact BK16.out⟩, ⟨by (with_reducible repeat (first | refine blk_drewN ?_ _ | refine blk_drew ?_ | refine blk_alloc ?_ _)); exact BK21.out⟩, ⟨by repeat (first | (with_reducible first | exact HB.out | apply below_alloc | apply pw_below_drewN | apply below_drew1 | refine below_set ?_ GE11.out | refine below_set ?_ GE16.out | refine below_set ?_ GE21.out) | exact HB.out)⟩⟩
             case round =>
              clear H'
              try clear c1
              try clear c2
              try clear p2
              try clear c3
              try clear c4
              try clear c4b0
              try clear c4b1
              try clear c5
              try clear c6
              try clear p6
              try clear q6
              try clear hx6
              try clear c8
              try clear c8b0
              try clear c8b1
              try clear c8b2
              try clear c10
              try clear c14
              try clear c14b0
              try clear c15
              try clear c15b0
              try clear c25
              try clear c26
              try clear c26b0
              try clear c26b1
              try clear c26b2
              try clear c32
              try clear c36
              try clear c38
              try clear c38b0
              try clear c38b1
              try clear c39
              try clear c41
              try clear c41b0
              try clear c41b1
              try clear c42
              try clear c44
              try clear c48
              try clear c53
              try clear c54
              try clear c56
              try clear c56b0
              try clear c56b1
              try clear c58
              try clear c59
              try clear c61
              try clear c64
              try clear p64
              try clear c65
              try clear c67
              try clear hcz23_0
              try clear hcz23_1
              try clear hcz23_2
              try clear hcz30_0
              try clear hcz30_1
              try clear hcz30_2
              try clear hcz34_0
              try clear hcz34_1
              try clear hcz34_2
              try clear hcz37_0
              try clear hcz37_1
              try clear hcz37_2
              try clear hcz40_0
              try clear hcz40_1
              try clear hcz40_2
              try clear hcz43_0
              try clear hcz43_1
              try clear hcz43_2
              try clear hcz45_0
              try clear hcz45_1
              try clear hcz45_2
              try clear hcz49_0
              try clear hcz49_1
              try clear hcz49_2
              try clear hcz55_0
              try clear hcz55_1
              try clear hcz60_0
              try clear hcz60_1
              try clear hcz62_0
              try clear hcz62_1
              try clear hcz62_2
              try clear hcz66_0
              try clear hcz66_1
              try clear hfz23_0
              try clear hfz23_1
              try clear hfz23_2
              try clear hfz30_0
              try clear hfz30_1
              try clear hfz30_2
              try clear hfz34_0
              try clear hfz34_1
              try clear hfz34_2
              try clear hfz37_0
              try clear hfz37_1
              try clear hfz37_2
              try clear hfz40_0
              try clear hfz40_1
              try clear hfz40_2
              try clear hfz43_0
              try clear hfz43_1
              try clear hfz43_2
              try clear hfz45_0
              try clear hfz45_1
              try clear hfz45_2
              try clear hfz49_0
              try clear hfz49_1
              try clear hfz49_2
              try clear hfz55_0
              try clear hfz55_1
              try clear hfz60_0
              try clear hfz60_1
              try clear hfz62_0
              try clear hfz62_1
              try clear hfz62_2
              try clear hfz66_0
              try clear hfz66_1
              try clear hx6_0
              try clear hx6_1
              try clear hx6_10
              try clear hx6_11
              try clear hx6_2
              try clear hx6_3
              try clear hx6_4
              try clear hx6_5
              try clear hx6_6
              try clear hx6_7
              try clear hx6_8
              try clear hx6_9
              try clear p2
              try clear p6
              try clear p64
              try clear q6
              obtain ⟨x14_4, rfl, HA, HK4, HO_11, HO_22000, BK11, BK16, BK21, HB⟩ := hrel
              cases gk with
              | zero => exact absurd HA.out (by simp [law13_RoomFits.l0])
              | succ k4 =>
               have H := HA.out
               clear HA
               simp only [law13_RoomFits.l0] at H
               by_cases c68 : x14_4 < (t12.length : Int)
               ·rw [if_pos c68] at H
                have c68b0 : decide (x14_4 < (t12.length : Int)) = true := decide_eq_true c68
                clear c68
                by_cases c69 : 0 ≤ x14_4
                ·rw [if_pos c69] at H
                 have c69b0 : decide (0 ≤ x14_4) = true := decide_eq_true c69
                 clear c69
                 replace H := Option.bind_eq_some_iff.mp H
                 obtain ⟨t27, A700, H⟩ := H
                 replace H : (if t27 < 0 then (some false) else (if 0 ≤ t27 then (if t27 < (t17.length : Int) then (if ((rd_T31 t17 t27).f4.f0) = ((rd_T31 t17 t27).f2.f0) then (law13_RoomFits.l0 k4 t12 (wrap64 (x14_4 + 1)) t17 t20) else (if ((rd_T31 t17 t27).f4.f1) = ((rd_T31 t17 t27).f2.f1) then (law13_RoomFits.l0 k4 t12 (wrap64 (x14_4 + 1)) t17 t20) else (if ((rd_T31 t17 t27).f4.f2) = ((rd_T31 t17 t27).f2.f2) then (law13_RoomFits.l0 k4 t12 (wrap64 (x14_4 + 1)) t17 t20) else (some false)))) else (none)) else (none))) = some r := H
                 have A70 := Aside0.mk A700
                 clear A700
                 by_cases c71 : t27 < 0
                 ·rw [if_pos c71] at H
                  have c71b0 : decide (t27 < 0) = true := decide_eq_true c71
                  clear c71
                  obtain rfl := Option.some.inj H
                  obtain ⟨Ao72, co72, eo72⟩ := Kd.R_slice HO_11.out
                  subst eo72
                  have hnb73 := NB21_11.out
                  have hnc73 := NB11_21.out
                  have hnb74 := NB21_16.out
                  have hnc74 := NB16_21.out
                  have hcz75_0 : wr.cell? ⟨gb21, 0, none⟩ = some (.slice Ao52 t17.length co52) := (blk_cell BK21.out 0).trans rfl
                  have hcz75_1 : wr.cell? ⟨gb21, 1, none⟩ = some (.int .i64 t20) := (blk_cell BK21.out 1).trans rfl
                  have hfz75_0 := blk_frozen BK21.out 0
                  have hfz75_1 := blk_frozen BK21.out 1
                  have p26 : 0 ≤ (x14_4 : Int) := of_decide_eq_true (by first | (with_reducible assumption) | assumption)
                  have q26 : x14_4 < (t12.length : Int) := of_decide_eq_true (by first | (with_reducible assumption) | assumption)
                  obtain ⟨ad26, e26, hx26_0⟩ := Kd.at_string (Kd.R_reads' HO_11.out).2.2 x14_4 p26 q26
                  cases e26
                  replace p26 := eq_true p26
                  replace q26 := eq_true q26
                  go_wp2_with (first | (go_at_call 50; (with_reducible refine (r10_Find.calls k4 _ _ t17 (rdOf ByteArray.empty t12 x14_4) t27 _ ?side1 ?side2 A70.out).mono ?_); (case side1 => repeat (first | exact (Kd.R_reads' HO_22000.out).2.2 | (with_reducible refine Kd.C_alloc ?_ _) | (with_reducible refine Kd.C_drewN ?_ _) | (with_reducible refine Kd.C_drew ?_))); (case side2 => exact (Kd.R_reads' HO_22000.out).2.1); rintro e w' ⟨rfl, ⟨nd, rfl⟩⟩; (try first | exact ⟨rfl, _, World.drewN_drewN _ _ _⟩ | exact ⟨rfl, _, Eq.trans (World.drewN_drewN _ _ _) (congrArg (World.drewN _) (Nat.add_assoc _ _ _))⟩)))
                  repeat (go_quiet (first | (go_at_call 50; (with_reducible refine (r10_Find.calls k4 _ _ t17 (rdOf ByteArray.empty t12 x14_4) t27 _ ?side1 ?side2 A70.out).mono ?_); (case side1 => repeat (first | exact (Kd.R_reads' HO_22000.out).2.2 | (with_reducible refine Kd.C_alloc ?_ _) | (with_reducible refine Kd.C_drewN ?_ _) | (with_reducible refine Kd.C_drew ?_))); (case side2 => exact (Kd.R_reads' HO_22000.out).2.1); rintro e w' ⟨rfl, ⟨nd, rfl⟩⟩; (try first | exact ⟨rfl, _, World.drewN_drewN _ _ _⟩ | exact ⟨rfl, _, Eq.trans (World.drewN_drewN _ _ _) (congrArg (World.drewN _) (Nat.add_assoc _ _ _))⟩))); try go_wp2_with (first | (go_at_call 50; (with_reducible refine (r10_Find.calls k4 _ _ t17 (rdOf ByteArray.empty t12 x14_4) t27 _ ?side1 ?side2 A70.out).mono ?_); (case side1 => repeat (first | exact (Kd.R_reads' HO_22000.out).2.2 | (with_reducible refine Kd.C_alloc ?_ _) | (with_reducible refine Kd.C_drewN ?_ _) | (with_reducible refine Kd.C_drew ?_))); (case side2 => exact (Kd.R_reads' HO_22000.out).2.1); rintro e w' ⟨rfl, ⟨nd, rfl⟩⟩; (try first | exact ⟨rfl, _, World.drewN_drewN _ _ _⟩ | exact ⟨rfl, _, Eq.trans (World.drewN_drewN _ _ _) (congrArg (World.drewN _) (Nat.add_assoc _ _ _))⟩))))
                  go_ret
                  exact ⟨by first | rfl | (simp [errW_none, errW_some] <;> rfl) | (simp only [← hji13]; first | rfl | (simp [errW_none, errW_some] <;> rfl)) | (simp [*, errW_none, errW_some] <;> rfl), by repeat (first | (with_reducible first | exact HB.out | apply below_alloc | apply pw_below_drewN | apply below_drew1 | refine below_set ?_ GE11.out | refine below_set ?_ GE16.out | refine below_set ?_ GE21.out) | exact HB.out)⟩
                 ·rw [if_neg c71] at H
                  have c71b0 : decide (t27 < 0) = false := decide_eq_false c71
                  clear c71
                  by_cases c76 : 0 ≤ t27
                  ·rw [if_pos c76] at H
                   have c76b0 : decide (0 ≤ t27) = true := decide_eq_true c76
                   clear c76
                   by_cases c77 : t27 < (t17.length : Int)
                   ·rw [if_pos c77] at H
                    have c77b0 : decide (t27 < (t17.length : Int)) = true := decide_eq_true c77
                    clear c77
                    by_cases c78 : ((rd_T31 t17 t27).f4.f0) = ((rd_T31 t17 t27).f2.f0)
                    ·rw [if_pos c78] at H
                     have c78b0 : (((rd_T31 t17 t27).f4.f0) == ((rd_T31 t17 t27).f2.f0)) = true := beq_iff_eq.mpr c78
                     have c78b1 : (((rd_T31 t17 t27).f4.f0) != ((rd_T31 t17 t27).f2.f0)) = false := bne_eq_false_iff_eq.mpr c78
                     clear c78
                     have H' := Aside0.mk H
                     clear H
                     obtain ⟨Ao79, co79, eo79⟩ := Kd.R_slice HO_11.out
                     subst eo79
                     have hnb80 := NB21_11.out
                     have hnc80 := NB11_21.out
                     have hnb81 := NB21_16.out
                     have hnc81 := NB16_21.out
                     have hcz82_0 : wr.cell? ⟨gb21, 0, none⟩ = some (.slice Ao52 t17.length co52) := (blk_cell BK21.out 0).trans rfl
                     have hcz82_1 : wr.cell? ⟨gb21, 1, none⟩ = some (.int .i64 t20) := (blk_cell BK21.out 1).trans rfl
                     have hfz82_0 := blk_frozen BK21.out 0
                     have hfz82_1 := blk_frozen BK21.out 1
                     have p26 : 0 ≤ (x14_4 : Int) := of_decide_eq_true (by first | (with_reducible assumption) | assumption)
                     have q26 : x14_4 < (t12.length : Int) := of_decide_eq_true (by first | (with_reducible assumption) | assumption)
                     obtain ⟨ad26, e26, hx26_0⟩ := Kd.at_string (Kd.R_reads' HO_11.out).2.2 x14_4 p26 q26
                     cases e26
                     replace p26 := eq_true p26
                     replace q26 := eq_true q26
                     go_wp2_with (first | (go_at_call 50; (with_reducible refine (r10_Find.calls k4 _ _ t17 (rdOf ByteArray.empty t12 x14_4) t27 _ ?side1 ?side2 A70.out).mono ?_); (case side1 => repeat (first | exact (Kd.R_reads' HO_22000.out).2.2 | (with_reducible refine Kd.C_alloc ?_ _) | (with_reducible refine Kd.C_drewN ?_ _) | (with_reducible refine Kd.C_drew ?_))); (case side2 => exact (Kd.R_reads' HO_22000.out).2.1); rintro e w' ⟨rfl, ⟨nd, rfl⟩⟩; (try first | exact ⟨rfl, _, World.drewN_drewN _ _ _⟩ | exact ⟨rfl, _, Eq.trans (World.drewN_drewN _ _ _) (congrArg (World.drewN _) (Nat.add_assoc _ _ _))⟩); have p28 : 0 ≤ (t27 : Int) := of_decide_eq_true (by first | (with_reducible assumption) | assumption); have q28 : t27 < (t17.length : Int) := of_decide_eq_true (by first | (with_reducible assumption) | assumption); obtain ⟨ad28, e28, hx28_0, hx28_1, hx28_2, hx28_3, hx28_4, hx28_5, hx28_6, hx28_7, hx28_8, hx28_9, hx28_10, hx28_11⟩ := at_T31 (Kd.R_reads' HO_22000.out).2.2 t27 p28 q28; cases e28; replace p28 := eq_true p28; replace q28 := eq_true q28; have p29 : 0 ≤ (t27 : Int) := of_decide_eq_true (by first | (with_reducible assumption) | assumption); have q29 : t27 < (t17.length : Int) := of_decide_eq_true (by first | (with_reducible assumption) | assumption); obtain ⟨ad29, e29, hx29_0, hx29_1, hx29_2, hx29_3, hx29_4, hx29_5, hx29_6, hx29_7, hx29_8, hx29_9, hx29_10, hx29_11⟩ := at_T31 (Kd.R_reads' HO_22000.out).2.2 t27 p29 q29; obtain rfl : ad28 = ad29 := (by injection e29); replace p29 := eq_true p29; replace q29 := eq_true q29))
                     repeat (go_quiet (first | (go_at_call 50; (with_reducible refine (r10_Find.calls k4 _ _ t17 (rdOf ByteArray.empty t12 x14_4) t27 _ ?side1 ?side2 A70.out).mono ?_); (case side1 => repeat (first | exact (Kd.R_reads' HO_22000.out).2.2 | (with_reducible refine Kd.C_alloc ?_ _) | (with_reducible refine Kd.C_drewN ?_ _) | (with_reducible refine Kd.C_drew ?_))); (case side2 => exact (Kd.R_reads' HO_22000.out).2.1); rintro e w' ⟨rfl, ⟨nd, rfl⟩⟩; (try first | exact ⟨rfl, _, World.drewN_drewN _ _ _⟩ | exact ⟨rfl, _, Eq.trans (World.drewN_drewN _ _ _) (congrArg (World.drewN _) (Nat.add_assoc _ _ _))⟩); have p28 : 0 ≤ (t27 : Int) := of_decide_eq_true (by first | (with_reducible assumption) | assumption); have q28 : t27 < (t17.length : Int) := of_decide_eq_true (by first | (with_reducible assumption) | assumption); obtain ⟨ad28, e28, hx28_0, hx28_1, hx28_2, hx28_3, hx28_4, hx28_5, hx28_6, hx28_7, hx28_8, hx28_9, hx28_10, hx28_11⟩ := at_T31 (Kd.R_reads' HO_22000.out).2.2 t27 p28 q28; cases e28; replace p28 := eq_true p28; replace q28 := eq_true q28; have p29 : 0 ≤ (t27 : Int) := of_decide_eq_true (by first | (with_reducible assumption) | assumption); have q29 : t27 < (t17.length : Int) := of_decide_eq_true (by first | (with_reducible assumption) | assumption); obtain ⟨ad29, e29, hx29_0, hx29_1, hx29_2, hx29_3, hx29_4, hx29_5, hx29_6, hx29_7, hx29_8, hx29_9, hx29_10, hx29_11⟩ := at_T31 (Kd.R_reads' HO_22000.out).2.2 t27 p29 q29; obtain rfl : ad28 = ad29 := (by injection e29); replace p29 := eq_true p29; replace q29 := eq_true q29)); try go_wp2_with (first | (go_at_call 50; (with_reducible refine (r10_Find.calls k4 _ _ t17 (rdOf ByteArray.empty t12 x14_4) t27 _ ?side1 ?side2 A70.out).mono ?_); (case side1 => repeat (first | exact (Kd.R_reads' HO_22000.out).2.2 | (with_reducible refine Kd.C_alloc ?_ _) | (with_reducible refine Kd.C_drewN ?_ _) | (with_reducible refine Kd.C_drew ?_))); (case side2 => exact (Kd.R_reads' HO_22000.out).2.1); rintro e w' ⟨rfl, ⟨nd, rfl⟩⟩; (try first | exact ⟨rfl, _, World.drewN_drewN _ _ _⟩ | exact ⟨rfl, _, Eq.trans (World.drewN_drewN _ _ _) (congrArg (World.drewN _) (Nat.add_assoc _ _ _))⟩); have p28 : 0 ≤ (t27 : Int) := of_decide_eq_true (by first | (with_reducible assumption) | assumption); have q28 : t27 < (t17.length : Int) := of_decide_eq_true (by first | (with_reducible assumption) | assumption); obtain ⟨ad28, e28, hx28_0, hx28_1, hx28_2, hx28_3, hx28_4, hx28_5, hx28_6, hx28_7, hx28_8, hx28_9, hx28_10, hx28_11⟩ := at_T31 (Kd.R_reads' HO_22000.out).2.2 t27 p28 q28; cases e28; replace p28 := eq_true p28; replace q28 := eq_true q28; have p29 : 0 ≤ (t27 : Int) := of_decide_eq_true (by first | (with_reducible assumption) | assumption); have q29 : t27 < (t17.length : Int) := of_decide_eq_true (by first | (with_reducible assumption) | assumption); obtain ⟨ad29, e29, hx29_0, hx29_1, hx29_2, hx29_3, hx29_4, hx29_5, hx29_6, hx29_7, hx29_8, hx29_9, hx29_10, hx29_11⟩ := at_T31 (Kd.R_reads' HO_22000.out).2.2 t27 p29 q29; obtain rfl : ad28 = ad29 := (by injection e29); replace p29 := eq_true p29; replace q29 := eq_true q29)))
                     go_roundg k4
                     case measure => have := HJ17.out; have := HJ32.out; have := HJ46.out; have := HK4.out; omega
                     case rel => exact ⟨(wrap64 (x14_4 + 1)), (by first | rfl | (simp; done) | (simp [*]; done)), H', ⟨by have := HJ17.out; have := HJ32.out; have := HJ46.out; have := HK4.out; omega⟩, ⟨by (with_reducible repeat (first | apply Kd.R_alloc | apply Kd.R_drewN | apply Kd.R_drew)); exact HO_11.out⟩, ⟨by (with_reducible repeat (first | apply Kd.R_alloc | apply Kd.R_drewN | apply Kd.R_drew)); exact HO_22000.out⟩, ⟨by (with_reducible repeat (first | refine blk_drewN ?_ _ | refine blk_drew ?_ | refine blk_alloc ?_ _)); exact BK11.out⟩, ⟨by (with_reducible repeat (first | refine blk_drewN ?_ _ | refine blk_drew ?_ | refine blk_alloc ?_ _)); exact BK16.out⟩, ⟨by (with_reducible repeat (first | refine blk_drewN ?_ _ | refine blk_drew ?_ | refine blk_alloc ?_ _)); exact BK21.out⟩, ⟨by repeat (first | (with_reducible first | exact HB.out | apply below_alloc | apply pw_below_drewN | apply below_drew1 | refine below_set ?_ GE11.out | refine below_set ?_ GE16.out | refine below_set ?_ GE21.out) | exact HB.out)⟩⟩
                    ·rw [if_neg c78] at H
                     have c78b0 : (((rd_T31 t17 t27).f4.f0) == ((rd_T31 t17 t27).f2.f0)) = false := beq_eq_false_iff_ne.mpr c78
                     have c78b1 : (((rd_T31 t17 t27).f4.f0) != ((rd_T31 t17 t27).f2.f0)) = true := bne_iff_ne.mpr c78
                     by_cases c83 : ((rd_T31 t17 t27).f4.f1) = ((rd_T31 t17 t27).f2.f1)
                     ·rw [if_pos c83] at H
                      have c83b0 : (((rd_T31 t17 t27).f4.f1) == ((rd_T31 t17 t27).f2.f1)) = true := beq_iff_eq.mpr c83
                      have c83b1 : (((rd_T31 t17 t27).f4.f1) != ((rd_T31 t17 t27).f2.f1)) = false := bne_eq_false_iff_eq.mpr c83
                      clear c83
                      have H' := Aside0.mk H
                      clear H
                      obtain ⟨Ao84, co84, eo84⟩ := Kd.R_slice HO_11.out
                      subst eo84
                      have hnb85 := NB21_11.out
                      have hnc85 := NB11_21.out
                      have hnb86 := NB21_16.out
                      have hnc86 := NB16_21.out
                      have hcz87_0 : wr.cell? ⟨gb21, 0, none⟩ = some (.slice Ao52 t17.length co52) := (blk_cell BK21.out 0).trans rfl
                      have hcz87_1 : wr.cell? ⟨gb21, 1, none⟩ = some (.int .i64 t20) := (blk_cell BK21.out 1).trans rfl
                      have hfz87_0 := blk_frozen BK21.out 0
                      have hfz87_1 := blk_frozen BK21.out 1
                      have p26 : 0 ≤ (x14_4 : Int) := of_decide_eq_true (by first | (with_reducible assumption) | assumption)
                      have q26 : x14_4 < (t12.length : Int) := of_decide_eq_true (by first | (with_reducible assumption) | assumption)
                      obtain ⟨ad26, e26, hx26_0⟩ := Kd.at_string (Kd.R_reads' HO_11.out).2.2 x14_4 p26 q26
                      cases e26
                      replace p26 := eq_true p26
                      replace q26 := eq_true q26
                      go_wp2_with (first | (go_at_call 50; (with_reducible refine (r10_Find.calls k4 _ _ t17 (rdOf ByteArray.empty t12 x14_4) t27 _ ?side1 ?side2 A70.out).mono ?_); (case side1 => repeat (first | exact (Kd.R_reads' HO_22000.out).2.2 | (with_reducible refine Kd.C_alloc ?_ _) | (with_reducible refine Kd.C_drewN ?_ _) | (with_reducible refine Kd.C_drew ?_))); (case side2 => exact (Kd.R_reads' HO_22000.out).2.1); rintro e w' ⟨rfl, ⟨nd, rfl⟩⟩; (try first | exact ⟨rfl, _, World.drewN_drewN _ _ _⟩ | exact ⟨rfl, _, Eq.trans (World.drewN_drewN _ _ _) (congrArg (World.drewN _) (Nat.add_assoc _ _ _))⟩); have p28 : 0 ≤ (t27 : Int) := of_decide_eq_true (by first | (with_reducible assumption) | assumption); have q28 : t27 < (t17.length : Int) := of_decide_eq_true (by first | (with_reducible assumption) | assumption); obtain ⟨ad28, e28, hx28_0, hx28_1, hx28_2, hx28_3, hx28_4, hx28_5, hx28_6, hx28_7, hx28_8, hx28_9, hx28_10, hx28_11⟩ := at_T31 (Kd.R_reads' HO_22000.out).2.2 t27 p28 q28; cases e28; replace p28 := eq_true p28; replace q28 := eq_true q28; have p29 : 0 ≤ (t27 : Int) := of_decide_eq_true (by first | (with_reducible assumption) | assumption); have q29 : t27 < (t17.length : Int) := of_decide_eq_true (by first | (with_reducible assumption) | assumption); obtain ⟨ad29, e29, hx29_0, hx29_1, hx29_2, hx29_3, hx29_4, hx29_5, hx29_6, hx29_7, hx29_8, hx29_9, hx29_10, hx29_11⟩ := at_T31 (Kd.R_reads' HO_22000.out).2.2 t27 p29 q29; obtain rfl : ad28 = ad29 := (by injection e29); replace p29 := eq_true p29; replace q29 := eq_true q29; have p30 : 0 ≤ (t27 : Int) := of_decide_eq_true (by first | (with_reducible assumption) | assumption); have q30 : t27 < (t17.length : Int) := of_decide_eq_true (by first | (with_reducible assumption) | assumption); obtain ⟨ad30, e30, hx30_0, hx30_1, hx30_2, hx30_3, hx30_4, hx30_5, hx30_6, hx30_7, hx30_8, hx30_9, hx30_10, hx30_11⟩ := at_T31 (Kd.R_reads' HO_22000.out).2.2 t27 p30 q30; obtain rfl : ad28 = ad30 := (by injection e30); replace p30 := eq_true p30; replace q30 := eq_true q30; have p31 : 0 ≤ (t27 : Int) := of_decide_eq_true (by first | (with_reducible assumption) | assumption); have q31 : t27 < (t17.length : Int) := of_decide_eq_true (by first | (with_reducible assumption) | assumption); obtain ⟨ad31, e31, hx31_0, hx31_1, hx31_2, hx31_3, hx31_4, hx31_5, hx31_6, hx31_7, hx31_8, hx31_9, hx31_10, hx31_11⟩ := at_T31 (Kd.R_reads' HO_22000.out).2.2 t27 p31 q31; obtain rfl : ad28 = ad31 := (by injection e31); replace p31 := eq_true p31; replace q31 := eq_true q31))
                      repeat (go_quiet (first | (go_at_call 50; (with_reducible refine (r10_Find.calls k4 _ _ t17 (rdOf ByteArray.empty t12 x14_4) t27 _ ?side1 ?side2 A70.out).mono ?_); (case side1 => repeat (first | exact (Kd.R_reads' HO_22000.out).2.2 | (with_reducible refine Kd.C_alloc ?_ _) | (with_reducible refine Kd.C_drewN ?_ _) | (with_reducible refine Kd.C_drew ?_))); (case side2 => exact (Kd.R_reads' HO_22000.out).2.1); rintro e w' ⟨rfl, ⟨nd, rfl⟩⟩; (try first | exact ⟨rfl, _, World.drewN_drewN _ _ _⟩ | exact ⟨rfl, _, Eq.trans (World.drewN_drewN _ _ _) (congrArg (World.drewN _) (Nat.add_assoc _ _ _))⟩); have p28 : 0 ≤ (t27 : Int) := of_decide_eq_true (by first | (with_reducible assumption) | assumption); have q28 : t27 < (t17.length : Int) := of_decide_eq_true (by first | (with_reducible assumption) | assumption); obtain ⟨ad28, e28, hx28_0, hx28_1, hx28_2, hx28_3, hx28_4, hx28_5, hx28_6, hx28_7, hx28_8, hx28_9, hx28_10, hx28_11⟩ := at_T31 (Kd.R_reads' HO_22000.out).2.2 t27 p28 q28; cases e28; replace p28 := eq_true p28; replace q28 := eq_true q28; have p29 : 0 ≤ (t27 : Int) := of_decide_eq_true (by first | (with_reducible assumption) | assumption); have q29 : t27 < (t17.length : Int) := of_decide_eq_true (by first | (with_reducible assumption) | assumption); obtain ⟨ad29, e29, hx29_0, hx29_1, hx29_2, hx29_3, hx29_4, hx29_5, hx29_6, hx29_7, hx29_8, hx29_9, hx29_10, hx29_11⟩ := at_T31 (Kd.R_reads' HO_22000.out).2.2 t27 p29 q29; obtain rfl : ad28 = ad29 := (by injection e29); replace p29 := eq_true p29; replace q29 := eq_true q29; have p30 : 0 ≤ (t27 : Int) := of_decide_eq_true (by first | (with_reducible assumption) | assumption); have q30 : t27 < (t17.length : Int) := of_decide_eq_true (by first | (with_reducible assumption) | assumption); obtain ⟨ad30, e30, hx30_0, hx30_1, hx30_2, hx30_3, hx30_4, hx30_5, hx30_6, hx30_7, hx30_8, hx30_9, hx30_10, hx30_11⟩ := at_T31 (Kd.R_reads' HO_22000.out).2.2 t27 p30 q30; obtain rfl : ad28 = ad30 := (by injection e30); replace p30 := eq_true p30; replace q30 := eq_true q30; have p31 : 0 ≤ (t27 : Int) := of_decide_eq_true (by first | (with_reducible assumption) | assumption); have q31 : t27 < (t17.length : Int) := of_decide_eq_true (by first | (with_reducible assumption) | assumption); obtain ⟨ad31, e31, hx31_0, hx31_1, hx31_2, hx31_3, hx31_4, hx31_5, hx31_6, hx31_7, hx31_8, hx31_9, hx31_10, hx31_11⟩ := at_T31 (Kd.R_reads' HO_22000.out).2.2 t27 p31 q31; obtain rfl : ad28 = ad31 := (by injection e31); replace p31 := eq_true p31; replace q31 := eq_true q31)); try go_wp2_with (first | (go_at_call 50; (with_reducible refine (r10_Find.calls k4 _ _ t17 (rdOf ByteArray.empty t12 x14_4) t27 _ ?side1 ?side2 A70.out).mono ?_); (case side1 => repeat (first | exact (Kd.R_reads' HO_22000.out).2.2 | (with_reducible refine Kd.C_alloc ?_ _) | (with_reducible refine Kd.C_drewN ?_ _) | (with_reducible refine Kd.C_drew ?_))); (case side2 => exact (Kd.R_reads' HO_22000.out).2.1); rintro e w' ⟨rfl, ⟨nd, rfl⟩⟩; (try first | exact ⟨rfl, _, World.drewN_drewN _ _ _⟩ | exact ⟨rfl, _, Eq.trans (World.drewN_drewN _ _ _) (congrArg (World.drewN _) (Nat.add_assoc _ _ _))⟩); have p28 : 0 ≤ (t27 : Int) := of_decide_eq_true (by first | (with_reducible assumption) | assumption); have q28 : t27 < (t17.length : Int) := of_decide_eq_true (by first | (with_reducible assumption) | assumption); obtain ⟨ad28, e28, hx28_0, hx28_1, hx28_2, hx28_3, hx28_4, hx28_5, hx28_6, hx28_7, hx28_8, hx28_9, hx28_10, hx28_11⟩ := at_T31 (Kd.R_reads' HO_22000.out).2.2 t27 p28 q28; cases e28; replace p28 := eq_true p28; replace q28 := eq_true q28; have p29 : 0 ≤ (t27 : Int) := of_decide_eq_true (by first | (with_reducible assumption) | assumption); have q29 : t27 < (t17.length : Int) := of_decide_eq_true (by first | (with_reducible assumption) | assumption); obtain ⟨ad29, e29, hx29_0, hx29_1, hx29_2, hx29_3, hx29_4, hx29_5, hx29_6, hx29_7, hx29_8, hx29_9, hx29_10, hx29_11⟩ := at_T31 (Kd.R_reads' HO_22000.out).2.2 t27 p29 q29; obtain rfl : ad28 = ad29 := (by injection e29); replace p29 := eq_true p29; replace q29 := eq_true q29; have p30 : 0 ≤ (t27 : Int) := of_decide_eq_true (by first | (with_reducible assumption) | assumption); have q30 : t27 < (t17.length : Int) := of_decide_eq_true (by first | (with_reducible assumption) | assumption); obtain ⟨ad30, e30, hx30_0, hx30_1, hx30_2, hx30_3, hx30_4, hx30_5, hx30_6, hx30_7, hx30_8, hx30_9, hx30_10, hx30_11⟩ := at_T31 (Kd.R_reads' HO_22000.out).2.2 t27 p30 q30; obtain rfl : ad28 = ad30 := (by injection e30); replace p30 := eq_true p30; replace q30 := eq_true q30; have p31 : 0 ≤ (t27 : Int) := of_decide_eq_true (by first | (with_reducible assumption) | assumption); have q31 : t27 < (t17.length : Int) := of_decide_eq_true (by first | (with_reducible assumption) | assumption); obtain ⟨ad31, e31, hx31_0, hx31_1, hx31_2, hx31_3, hx31_4, hx31_5, hx31_6, hx31_7, hx31_8, hx31_9, hx31_10, hx31_11⟩ := at_T31 (Kd.R_reads' HO_22000.out).2.2 t27 p31 q31; obtain rfl : ad28 = ad31 := (by injection e31); replace p31 := eq_true p31; replace q31 := eq_true q31)))
                      go_roundg k4
                      case measure => have := HJ17.out; have := HJ32.out; have := HJ46.out; have := HK4.out; omega
                      case rel => exact ⟨(wrap64 (x14_4 + 1)), (by first | rfl | (simp; done) | (simp [*]; done)), H', ⟨by have := HJ17.out; have := HJ32.out; have := HJ46.out; have := HK4.out; omega⟩, ⟨by (with_reducible repeat (first | apply Kd.R_alloc | apply Kd.R_drewN | apply Kd.R_drew)); exact HO_11.out⟩, ⟨by (with_reducible repeat (first | apply Kd.R_alloc | apply Kd.R_drewN | apply Kd.R_drew)); exact HO_22000.out⟩, ⟨by (with_reducible repeat (first | refine blk_drewN ?_ _ | refine blk_drew ?_ | refine blk_alloc ?_ _)); exact BK11.out⟩, ⟨by (with_reducible repeat (first | refine blk_drewN ?_ _ | refine blk_drew ?_ | refine blk_alloc ?_ _)); exact BK16.out⟩, ⟨by (with_reducible repeat (first | refine blk_drewN ?_ _ | refine blk_drew ?_ | refine blk_alloc ?_ _)); exact BK21.out⟩, ⟨by repeat (first | (with_reducible first | exact HB.out | apply below_alloc | apply pw_below_drewN | apply below_drew1 | refine below_set ?_ GE11.out | refine below_set ?_ GE16.out | refine below_set ?_ GE21.out) | exact HB.out)⟩⟩
                     ·rw [if_neg c83] at H
                      have c83b0 : (((rd_T31 t17 t27).f4.f1) == ((rd_T31 t17 t27).f2.f1)) = false := beq_eq_false_iff_ne.mpr c83
                      have c83b1 : (((rd_T31 t17 t27).f4.f1) != ((rd_T31 t17 t27).f2.f1)) = true := bne_iff_ne.mpr c83
                      by_cases c88 : ((rd_T31 t17 t27).f4.f2) = ((rd_T31 t17 t27).f2.f2)
                      ·rw [if_pos c88] at H
                       have c88b0 : (((rd_T31 t17 t27).f4.f2) == ((rd_T31 t17 t27).f2.f2)) = true := beq_iff_eq.mpr c88
                       have c88b1 : (((rd_T31 t17 t27).f4.f2) != ((rd_T31 t17 t27).f2.f2)) = false := bne_eq_false_iff_eq.mpr c88
                       clear c88
                       have H' := Aside0.mk H
                       clear H
                       obtain ⟨Ao89, co89, eo89⟩ := Kd.R_slice HO_11.out
                       subst eo89
                       have hnb90 := NB21_11.out
                       have hnc90 := NB11_21.out
                       have hnb91 := NB21_16.out
                       have hnc91 := NB16_21.out
                       have hcz92_0 : wr.cell? ⟨gb21, 0, none⟩ = some (.slice Ao52 t17.length co52) := (blk_cell BK21.out 0).trans rfl
                       have hcz92_1 : wr.cell? ⟨gb21, 1, none⟩ = some (.int .i64 t20) := (blk_cell BK21.out 1).trans rfl
                       have hfz92_0 := blk_frozen BK21.out 0
                       have hfz92_1 := blk_frozen BK21.out 1
                       have p26 : 0 ≤ (x14_4 : Int) := of_decide_eq_true (by first | (with_reducible assumption) | assumption)
                       have q26 : x14_4 < (t12.length : Int) := of_decide_eq_true (by first | (with_reducible assumption) | assumption)
                       obtain ⟨ad26, e26, hx26_0⟩ := Kd.at_string (Kd.R_reads' HO_11.out).2.2 x14_4 p26 q26
                       cases e26
                       replace p26 := eq_true p26
                       replace q26 := eq_true q26
                       go_wp2_with (first | (go_at_call 50; (with_reducible refine (r10_Find.calls k4 _ _ t17 (rdOf ByteArray.empty t12 x14_4) t27 _ ?side1 ?side2 A70.out).mono ?_); (case side1 => repeat (first | exact (Kd.R_reads' HO_22000.out).2.2 | (with_reducible refine Kd.C_alloc ?_ _) | (with_reducible refine Kd.C_drewN ?_ _) | (with_reducible refine Kd.C_drew ?_))); (case side2 => exact (Kd.R_reads' HO_22000.out).2.1); rintro e w' ⟨rfl, ⟨nd, rfl⟩⟩; (try first | exact ⟨rfl, _, World.drewN_drewN _ _ _⟩ | exact ⟨rfl, _, Eq.trans (World.drewN_drewN _ _ _) (congrArg (World.drewN _) (Nat.add_assoc _ _ _))⟩); have p28 : 0 ≤ (t27 : Int) := of_decide_eq_true (by first | (with_reducible assumption) | assumption); have q28 : t27 < (t17.length : Int) := of_decide_eq_true (by first | (with_reducible assumption) | assumption); obtain ⟨ad28, e28, hx28_0, hx28_1, hx28_2, hx28_3, hx28_4, hx28_5, hx28_6, hx28_7, hx28_8, hx28_9, hx28_10, hx28_11⟩ := at_T31 (Kd.R_reads' HO_22000.out).2.2 t27 p28 q28; cases e28; replace p28 := eq_true p28; replace q28 := eq_true q28; have p29 : 0 ≤ (t27 : Int) := of_decide_eq_true (by first | (with_reducible assumption) | assumption); have q29 : t27 < (t17.length : Int) := of_decide_eq_true (by first | (with_reducible assumption) | assumption); obtain ⟨ad29, e29, hx29_0, hx29_1, hx29_2, hx29_3, hx29_4, hx29_5, hx29_6, hx29_7, hx29_8, hx29_9, hx29_10, hx29_11⟩ := at_T31 (Kd.R_reads' HO_22000.out).2.2 t27 p29 q29; obtain rfl : ad28 = ad29 := (by injection e29); replace p29 := eq_true p29; replace q29 := eq_true q29; have p30 : 0 ≤ (t27 : Int) := of_decide_eq_true (by first | (with_reducible assumption) | assumption); have q30 : t27 < (t17.length : Int) := of_decide_eq_true (by first | (with_reducible assumption) | assumption); obtain ⟨ad30, e30, hx30_0, hx30_1, hx30_2, hx30_3, hx30_4, hx30_5, hx30_6, hx30_7, hx30_8, hx30_9, hx30_10, hx30_11⟩ := at_T31 (Kd.R_reads' HO_22000.out).2.2 t27 p30 q30; obtain rfl : ad28 = ad30 := (by injection e30); replace p30 := eq_true p30; replace q30 := eq_true q30; have p31 : 0 ≤ (t27 : Int) := of_decide_eq_true (by first | (with_reducible assumption) | assumption); have q31 : t27 < (t17.length : Int) := of_decide_eq_true (by first | (with_reducible assumption) | assumption); obtain ⟨ad31, e31, hx31_0, hx31_1, hx31_2, hx31_3, hx31_4, hx31_5, hx31_6, hx31_7, hx31_8, hx31_9, hx31_10, hx31_11⟩ := at_T31 (Kd.R_reads' HO_22000.out).2.2 t27 p31 q31; obtain rfl : ad28 = ad31 := (by injection e31); replace p31 := eq_true p31; replace q31 := eq_true q31; have p32 : 0 ≤ (t27 : Int) := of_decide_eq_true (by first | (with_reducible assumption) | assumption); have q32 : t27 < (t17.length : Int) := of_decide_eq_true (by first | (with_reducible assumption) | assumption); obtain ⟨ad32, e32, hx32_0, hx32_1, hx32_2, hx32_3, hx32_4, hx32_5, hx32_6, hx32_7, hx32_8, hx32_9, hx32_10, hx32_11⟩ := at_T31 (Kd.R_reads' HO_22000.out).2.2 t27 p32 q32; obtain rfl : ad28 = ad32 := (by injection e32); replace p32 := eq_true p32; replace q32 := eq_true q32; have p33 : 0 ≤ (t27 : Int) := of_decide_eq_true (by first | (with_reducible assumption) | assumption); have q33 : t27 < (t17.length : Int) := of_decide_eq_true (by first | (with_reducible assumption) | assumption); obtain ⟨ad33, e33, hx33_0, hx33_1, hx33_2, hx33_3, hx33_4, hx33_5, hx33_6, hx33_7, hx33_8, hx33_9, hx33_10, hx33_11⟩ := at_T31 (Kd.R_reads' HO_22000.out).2.2 t27 p33 q33; obtain rfl : ad28 = ad33 := (by injection e33); replace p33 := eq_true p33; replace q33 := eq_true q33))
                       repeat (go_quiet (first | (go_at_call 50; (with_reducible refine (r10_Find.calls k4 _ _ t17 (rdOf ByteArray.empty t12 x14_4) t27 _ ?side1 ?side2 A70.out).mono ?_); (case side1 => repeat (first | exact (Kd.R_reads' HO_22000.out).2.2 | (with_reducible refine Kd.C_alloc ?_ _) | (with_reducible refine Kd.C_drewN ?_ _) | (with_reducible refine Kd.C_drew ?_))); (case side2 => exact (Kd.R_reads' HO_22000.out).2.1); rintro e w' ⟨rfl, ⟨nd, rfl⟩⟩; (try first | exact ⟨rfl, _, World.drewN_drewN _ _ _⟩ | exact ⟨rfl, _, Eq.trans (World.drewN_drewN _ _ _) (congrArg (World.drewN _) (Nat.add_assoc _ _ _))⟩); have p28 : 0 ≤ (t27 : Int) := of_decide_eq_true (by first | (with_reducible assumption) | assumption); have q28 : t27 < (t17.length : Int) := of_decide_eq_true (by first | (with_reducible assumption) | assumption); obtain ⟨ad28, e28, hx28_0, hx28_1, hx28_2, hx28_3, hx28_4, hx28_5, hx28_6, hx28_7, hx28_8, hx28_9, hx28_10, hx28_11⟩ := at_T31 (Kd.R_reads' HO_22000.out).2.2 t27 p28 q28; cases e28; replace p28 := eq_true p28; replace q28 := eq_true q28; have p29 : 0 ≤ (t27 : Int) := of_decide_eq_true (by first | (with_reducible assumption) | assumption); have q29 : t27 < (t17.length : Int) := of_decide_eq_true (by first | (with_reducible assumption) | assumption); obtain ⟨ad29, e29, hx29_0, hx29_1, hx29_2, hx29_3, hx29_4, hx29_5, hx29_6, hx29_7, hx29_8, hx29_9, hx29_10, hx29_11⟩ := at_T31 (Kd.R_reads' HO_22000.out).2.2 t27 p29 q29; obtain rfl : ad28 = ad29 := (by injection e29); replace p29 := eq_true p29; replace q29 := eq_true q29; have p30 : 0 ≤ (t27 : Int) := of_decide_eq_true (by first | (with_reducible assumption) | assumption); have q30 : t27 < (t17.length : Int) := of_decide_eq_true (by first | (with_reducible assumption) | assumption); obtain ⟨ad30, e30, hx30_0, hx30_1, hx30_2, hx30_3, hx30_4, hx30_5, hx30_6, hx30_7, hx30_8, hx30_9, hx30_10, hx30_11⟩ := at_T31 (Kd.R_reads' HO_22000.out).2.2 t27 p30 q30; obtain rfl : ad28 = ad30 := (by injection e30); replace p30 := eq_true p30; replace q30 := eq_true q30; have p31 : 0 ≤ (t27 : Int) := of_decide_eq_true (by first | (with_reducible assumption) | assumption); have q31 : t27 < (t17.length : Int) := of_decide_eq_true (by first | (with_reducible assumption) | assumption); obtain ⟨ad31, e31, hx31_0, hx31_1, hx31_2, hx31_3, hx31_4, hx31_5, hx31_6, hx31_7, hx31_8, hx31_9, hx31_10, hx31_11⟩ := at_T31 (Kd.R_reads' HO_22000.out).2.2 t27 p31 q31; obtain rfl : ad28 = ad31 := (by injection e31); replace p31 := eq_true p31; replace q31 := eq_true q31; have p32 : 0 ≤ (t27 : Int) := of_decide_eq_true (by first | (with_reducible assumption) | assumption); have q32 : t27 < (t17.length : Int) := of_decide_eq_true (by first | (with_reducible assumption) | assumption); obtain ⟨ad32, e32, hx32_0, hx32_1, hx32_2, hx32_3, hx32_4, hx32_5, hx32_6, hx32_7, hx32_8, hx32_9, hx32_10, hx32_11⟩ := at_T31 (Kd.R_reads' HO_22000.out).2.2 t27 p32 q32; obtain rfl : ad28 = ad32 := (by injection e32); replace p32 := eq_true p32; replace q32 := eq_true q32; have p33 : 0 ≤ (t27 : Int) := of_decide_eq_true (by first | (with_reducible assumption) | assumption); have q33 : t27 < (t17.length : Int) := of_decide_eq_true (by first | (with_reducible assumption) | assumption); obtain ⟨ad33, e33, hx33_0, hx33_1, hx33_2, hx33_3, hx33_4, hx33_5, hx33_6, hx33_7, hx33_8, hx33_9, hx33_10, hx33_11⟩ := at_T31 (Kd.R_reads' HO_22000.out).2.2 t27 p33 q33; obtain rfl : ad28 = ad33 := (by injection e33); replace p33 := eq_true p33; replace q33 := eq_true q33)); try go_wp2_with (first | (go_at_call 50; (with_reducible refine (r10_Find.calls k4 _ _ t17 (rdOf ByteArray.empty t12 x14_4) t27 _ ?side1 ?side2 A70.out).mono ?_); (case side1 => repeat (first | exact (Kd.R_reads' HO_22000.out).2.2 | (with_reducible refine Kd.C_alloc ?_ _) | (with_reducible refine Kd.C_drewN ?_ _) | (with_reducible refine Kd.C_drew ?_))); (case side2 => exact (Kd.R_reads' HO_22000.out).2.1); rintro e w' ⟨rfl, ⟨nd, rfl⟩⟩; (try first | exact ⟨rfl, _, World.drewN_drewN _ _ _⟩ | exact ⟨rfl, _, Eq.trans (World.drewN_drewN _ _ _) (congrArg (World.drewN _) (Nat.add_assoc _ _ _))⟩); have p28 : 0 ≤ (t27 : Int) := of_decide_eq_true (by first | (with_reducible assumption) | assumption); have q28 : t27 < (t17.length : Int) := of_decide_eq_true (by first | (with_reducible assumption) | assumption); obtain ⟨ad28, e28, hx28_0, hx28_1, hx28_2, hx28_3, hx28_4, hx28_5, hx28_6, hx28_7, hx28_8, hx28_9, hx28_10, hx28_11⟩ := at_T31 (Kd.R_reads' HO_22000.out).2.2 t27 p28 q28; cases e28; replace p28 := eq_true p28; replace q28 := eq_true q28; have p29 : 0 ≤ (t27 : Int) := of_decide_eq_true (by first | (with_reducible assumption) | assumption); have q29 : t27 < (t17.length : Int) := of_decide_eq_true (by first | (with_reducible assumption) | assumption); obtain ⟨ad29, e29, hx29_0, hx29_1, hx29_2, hx29_3, hx29_4, hx29_5, hx29_6, hx29_7, hx29_8, hx29_9, hx29_10, hx29_11⟩ := at_T31 (Kd.R_reads' HO_22000.out).2.2 t27 p29 q29; obtain rfl : ad28 = ad29 := (by injection e29); replace p29 := eq_true p29; replace q29 := eq_true q29; have p30 : 0 ≤ (t27 : Int) := of_decide_eq_true (by first | (with_reducible assumption) | assumption); have q30 : t27 < (t17.length : Int) := of_decide_eq_true (by first | (with_reducible assumption) | assumption); obtain ⟨ad30, e30, hx30_0, hx30_1, hx30_2, hx30_3, hx30_4, hx30_5, hx30_6, hx30_7, hx30_8, hx30_9, hx30_10, hx30_11⟩ := at_T31 (Kd.R_reads' HO_22000.out).2.2 t27 p30 q30; obtain rfl : ad28 = ad30 := (by injection e30); replace p30 := eq_true p30; replace q30 := eq_true q30; have p31 : 0 ≤ (t27 : Int) := of_decide_eq_true (by first | (with_reducible assumption) | assumption); have q31 : t27 < (t17.length : Int) := of_decide_eq_true (by first | (with_reducible assumption) | assumption); obtain ⟨ad31, e31, hx31_0, hx31_1, hx31_2, hx31_3, hx31_4, hx31_5, hx31_6, hx31_7, hx31_8, hx31_9, hx31_10, hx31_11⟩ := at_T31 (Kd.R_reads' HO_22000.out).2.2 t27 p31 q31; obtain rfl : ad28 = ad31 := (by injection e31); replace p31 := eq_true p31; replace q31 := eq_true q31; have p32 : 0 ≤ (t27 : Int) := of_decide_eq_true (by first | (with_reducible assumption) | assumption); have q32 : t27 < (t17.length : Int) := of_decide_eq_true (by first | (with_reducible assumption) | assumption); obtain ⟨ad32, e32, hx32_0, hx32_1, hx32_2, hx32_3, hx32_4, hx32_5, hx32_6, hx32_7, hx32_8, hx32_9, hx32_10, hx32_11⟩ := at_T31 (Kd.R_reads' HO_22000.out).2.2 t27 p32 q32; obtain rfl : ad28 = ad32 := (by injection e32); replace p32 := eq_true p32; replace q32 := eq_true q32; have p33 : 0 ≤ (t27 : Int) := of_decide_eq_true (by first | (with_reducible assumption) | assumption); have q33 : t27 < (t17.length : Int) := of_decide_eq_true (by first | (with_reducible assumption) | assumption); obtain ⟨ad33, e33, hx33_0, hx33_1, hx33_2, hx33_3, hx33_4, hx33_5, hx33_6, hx33_7, hx33_8, hx33_9, hx33_10, hx33_11⟩ := at_T31 (Kd.R_reads' HO_22000.out).2.2 t27 p33 q33; obtain rfl : ad28 = ad33 := (by injection e33); replace p33 := eq_true p33; replace q33 := eq_true q33)))
                       go_roundg k4
                       case measure => have := HJ17.out; have := HJ32.out; have := HJ46.out; have := HK4.out; omega
                       case rel => exact ⟨(wrap64 (x14_4 + 1)), (by first | rfl | (simp; done) | (simp [*]; done)), H', ⟨by have := HJ17.out; have := HJ32.out; have := HJ46.out; have := HK4.out; omega⟩, ⟨by (with_reducible repeat (first | apply Kd.R_alloc | apply Kd.R_drewN | apply Kd.R_drew)); exact HO_11.out⟩, ⟨by (with_reducible repeat (first | apply Kd.R_alloc | apply Kd.R_drewN | apply Kd.R_drew)); exact HO_22000.out⟩, ⟨by (with_reducible repeat (first | refine blk_drewN ?_ _ | refine blk_drew ?_ | refine blk_alloc ?_ _)); exact BK11.out⟩, ⟨by (with_reducible repeat (first | refine blk_drewN ?_ _ | refine blk_drew ?_ | refine blk_alloc ?_ _)); exact BK16.out⟩, ⟨by (with_reducible repeat (first | refine blk_drewN ?_ _ | refine blk_drew ?_ | refine blk_alloc ?_ _)); exact BK21.out⟩, ⟨by repeat (first | (with_reducible first | exact HB.out | apply below_alloc | apply pw_below_drewN | apply below_drew1 | refine below_set ?_ GE11.out | refine below_set ?_ GE16.out | refine below_set ?_ GE21.out) | exact HB.out)⟩⟩
                      ·rw [if_neg c88] at H
                       have c88b0 : (((rd_T31 t17 t27).f4.f2) == ((rd_T31 t17 t27).f2.f2)) = false := beq_eq_false_iff_ne.mpr c88
                       have c88b1 : (((rd_T31 t17 t27).f4.f2) != ((rd_T31 t17 t27).f2.f2)) = true := bne_iff_ne.mpr c88
                       obtain rfl := Option.some.inj H
                       obtain ⟨Ao93, co93, eo93⟩ := Kd.R_slice HO_11.out
                       subst eo93
                       have hnb94 := NB21_11.out
                       have hnc94 := NB11_21.out
                       have hnb95 := NB21_16.out
                       have hnc95 := NB16_21.out
                       have hcz96_0 : wr.cell? ⟨gb21, 0, none⟩ = some (.slice Ao52 t17.length co52) := (blk_cell BK21.out 0).trans rfl
                       have hcz96_1 : wr.cell? ⟨gb21, 1, none⟩ = some (.int .i64 t20) := (blk_cell BK21.out 1).trans rfl
                       have hfz96_0 := blk_frozen BK21.out 0
                       have hfz96_1 := blk_frozen BK21.out 1
                       have p26 : 0 ≤ (x14_4 : Int) := of_decide_eq_true (by first | (with_reducible assumption) | assumption)
                       have q26 : x14_4 < (t12.length : Int) := of_decide_eq_true (by first | (with_reducible assumption) | assumption)
                       obtain ⟨ad26, e26, hx26_0⟩ := Kd.at_string (Kd.R_reads' HO_11.out).2.2 x14_4 p26 q26
                       cases e26
                       replace p26 := eq_true p26
                       replace q26 := eq_true q26
                       go_wp2_with (first | (go_at_call 50; (with_reducible refine (r10_Find.calls k4 _ _ t17 (rdOf ByteArray.empty t12 x14_4) t27 _ ?side1 ?side2 A70.out).mono ?_); (case side1 => repeat (first | exact (Kd.R_reads' HO_22000.out).2.2 | (with_reducible refine Kd.C_alloc ?_ _) | (with_reducible refine Kd.C_drewN ?_ _) | (with_reducible refine Kd.C_drew ?_))); (case side2 => exact (Kd.R_reads' HO_22000.out).2.1); rintro e w' ⟨rfl, ⟨nd, rfl⟩⟩; (try first | exact ⟨rfl, _, World.drewN_drewN _ _ _⟩ | exact ⟨rfl, _, Eq.trans (World.drewN_drewN _ _ _) (congrArg (World.drewN _) (Nat.add_assoc _ _ _))⟩); have p28 : 0 ≤ (t27 : Int) := of_decide_eq_true (by first | (with_reducible assumption) | assumption); have q28 : t27 < (t17.length : Int) := of_decide_eq_true (by first | (with_reducible assumption) | assumption); obtain ⟨ad28, e28, hx28_0, hx28_1, hx28_2, hx28_3, hx28_4, hx28_5, hx28_6, hx28_7, hx28_8, hx28_9, hx28_10, hx28_11⟩ := at_T31 (Kd.R_reads' HO_22000.out).2.2 t27 p28 q28; cases e28; replace p28 := eq_true p28; replace q28 := eq_true q28; have p29 : 0 ≤ (t27 : Int) := of_decide_eq_true (by first | (with_reducible assumption) | assumption); have q29 : t27 < (t17.length : Int) := of_decide_eq_true (by first | (with_reducible assumption) | assumption); obtain ⟨ad29, e29, hx29_0, hx29_1, hx29_2, hx29_3, hx29_4, hx29_5, hx29_6, hx29_7, hx29_8, hx29_9, hx29_10, hx29_11⟩ := at_T31 (Kd.R_reads' HO_22000.out).2.2 t27 p29 q29; obtain rfl : ad28 = ad29 := (by injection e29); replace p29 := eq_true p29; replace q29 := eq_true q29; have p30 : 0 ≤ (t27 : Int) := of_decide_eq_true (by first | (with_reducible assumption) | assumption); have q30 : t27 < (t17.length : Int) := of_decide_eq_true (by first | (with_reducible assumption) | assumption); obtain ⟨ad30, e30, hx30_0, hx30_1, hx30_2, hx30_3, hx30_4, hx30_5, hx30_6, hx30_7, hx30_8, hx30_9, hx30_10, hx30_11⟩ := at_T31 (Kd.R_reads' HO_22000.out).2.2 t27 p30 q30; obtain rfl : ad28 = ad30 := (by injection e30); replace p30 := eq_true p30; replace q30 := eq_true q30; have p31 : 0 ≤ (t27 : Int) := of_decide_eq_true (by first | (with_reducible assumption) | assumption); have q31 : t27 < (t17.length : Int) := of_decide_eq_true (by first | (with_reducible assumption) | assumption); obtain ⟨ad31, e31, hx31_0, hx31_1, hx31_2, hx31_3, hx31_4, hx31_5, hx31_6, hx31_7, hx31_8, hx31_9, hx31_10, hx31_11⟩ := at_T31 (Kd.R_reads' HO_22000.out).2.2 t27 p31 q31; obtain rfl : ad28 = ad31 := (by injection e31); replace p31 := eq_true p31; replace q31 := eq_true q31; have p32 : 0 ≤ (t27 : Int) := of_decide_eq_true (by first | (with_reducible assumption) | assumption); have q32 : t27 < (t17.length : Int) := of_decide_eq_true (by first | (with_reducible assumption) | assumption); obtain ⟨ad32, e32, hx32_0, hx32_1, hx32_2, hx32_3, hx32_4, hx32_5, hx32_6, hx32_7, hx32_8, hx32_9, hx32_10, hx32_11⟩ := at_T31 (Kd.R_reads' HO_22000.out).2.2 t27 p32 q32; obtain rfl : ad28 = ad32 := (by injection e32); replace p32 := eq_true p32; replace q32 := eq_true q32; have p33 : 0 ≤ (t27 : Int) := of_decide_eq_true (by first | (with_reducible assumption) | assumption); have q33 : t27 < (t17.length : Int) := of_decide_eq_true (by first | (with_reducible assumption) | assumption); obtain ⟨ad33, e33, hx33_0, hx33_1, hx33_2, hx33_3, hx33_4, hx33_5, hx33_6, hx33_7, hx33_8, hx33_9, hx33_10, hx33_11⟩ := at_T31 (Kd.R_reads' HO_22000.out).2.2 t27 p33 q33; obtain rfl : ad28 = ad33 := (by injection e33); replace p33 := eq_true p33; replace q33 := eq_true q33))
                       repeat (go_quiet (first | (go_at_call 50; (with_reducible refine (r10_Find.calls k4 _ _ t17 (rdOf ByteArray.empty t12 x14_4) t27 _ ?side1 ?side2 A70.out).mono ?_); (case side1 => repeat (first | exact (Kd.R_reads' HO_22000.out).2.2 | (with_reducible refine Kd.C_alloc ?_ _) | (with_reducible refine Kd.C_drewN ?_ _) | (with_reducible refine Kd.C_drew ?_))); (case side2 => exact (Kd.R_reads' HO_22000.out).2.1); rintro e w' ⟨rfl, ⟨nd, rfl⟩⟩; (try first | exact ⟨rfl, _, World.drewN_drewN _ _ _⟩ | exact ⟨rfl, _, Eq.trans (World.drewN_drewN _ _ _) (congrArg (World.drewN _) (Nat.add_assoc _ _ _))⟩); have p28 : 0 ≤ (t27 : Int) := of_decide_eq_true (by first | (with_reducible assumption) | assumption); have q28 : t27 < (t17.length : Int) := of_decide_eq_true (by first | (with_reducible assumption) | assumption); obtain ⟨ad28, e28, hx28_0, hx28_1, hx28_2, hx28_3, hx28_4, hx28_5, hx28_6, hx28_7, hx28_8, hx28_9, hx28_10, hx28_11⟩ := at_T31 (Kd.R_reads' HO_22000.out).2.2 t27 p28 q28; cases e28; replace p28 := eq_true p28; replace q28 := eq_true q28; have p29 : 0 ≤ (t27 : Int) := of_decide_eq_true (by first | (with_reducible assumption) | assumption); have q29 : t27 < (t17.length : Int) := of_decide_eq_true (by first | (with_reducible assumption) | assumption); obtain ⟨ad29, e29, hx29_0, hx29_1, hx29_2, hx29_3, hx29_4, hx29_5, hx29_6, hx29_7, hx29_8, hx29_9, hx29_10, hx29_11⟩ := at_T31 (Kd.R_reads' HO_22000.out).2.2 t27 p29 q29; obtain rfl : ad28 = ad29 := (by injection e29); replace p29 := eq_true p29; replace q29 := eq_true q29; have p30 : 0 ≤ (t27 : Int) := of_decide_eq_true (by first | (with_reducible assumption) | assumption); have q30 : t27 < (t17.length : Int) := of_decide_eq_true (by first | (with_reducible assumption) | assumption); obtain ⟨ad30, e30, hx30_0, hx30_1, hx30_2, hx30_3, hx30_4, hx30_5, hx30_6, hx30_7, hx30_8, hx30_9, hx30_10, hx30_11⟩ := at_T31 (Kd.R_reads' HO_22000.out).2.2 t27 p30 q30; obtain rfl : ad28 = ad30 := (by injection e30); replace p30 := eq_true p30; replace q30 := eq_true q30; have p31 : 0 ≤ (t27 : Int) := of_decide_eq_true (by first | (with_reducible assumption) | assumption); have q31 : t27 < (t17.length : Int) := of_decide_eq_true (by first | (with_reducible assumption) | assumption); obtain ⟨ad31, e31, hx31_0, hx31_1, hx31_2, hx31_3, hx31_4, hx31_5, hx31_6, hx31_7, hx31_8, hx31_9, hx31_10, hx31_11⟩ := at_T31 (Kd.R_reads' HO_22000.out).2.2 t27 p31 q31; obtain rfl : ad28 = ad31 := (by injection e31); replace p31 := eq_true p31; replace q31 := eq_true q31; have p32 : 0 ≤ (t27 : Int) := of_decide_eq_true (by first | (with_reducible assumption) | assumption); have q32 : t27 < (t17.length : Int) := of_decide_eq_true (by first | (with_reducible assumption) | assumption); obtain ⟨ad32, e32, hx32_0, hx32_1, hx32_2, hx32_3, hx32_4, hx32_5, hx32_6, hx32_7, hx32_8, hx32_9, hx32_10, hx32_11⟩ := at_T31 (Kd.R_reads' HO_22000.out).2.2 t27 p32 q32; obtain rfl : ad28 = ad32 := (by injection e32); replace p32 := eq_true p32; replace q32 := eq_true q32; have p33 : 0 ≤ (t27 : Int) := of_decide_eq_true (by first | (with_reducible assumption) | assumption); have q33 : t27 < (t17.length : Int) := of_decide_eq_true (by first | (with_reducible assumption) | assumption); obtain ⟨ad33, e33, hx33_0, hx33_1, hx33_2, hx33_3, hx33_4, hx33_5, hx33_6, hx33_7, hx33_8, hx33_9, hx33_10, hx33_11⟩ := at_T31 (Kd.R_reads' HO_22000.out).2.2 t27 p33 q33; obtain rfl : ad28 = ad33 := (by injection e33); replace p33 := eq_true p33; replace q33 := eq_true q33)); try go_wp2_with (first | (go_at_call 50; (with_reducible refine (r10_Find.calls k4 _ _ t17 (rdOf ByteArray.empty t12 x14_4) t27 _ ?side1 ?side2 A70.out).mono ?_); (case side1 => repeat (first | exact (Kd.R_reads' HO_22000.out).2.2 | (with_reducible refine Kd.C_alloc ?_ _) | (with_reducible refine Kd.C_drewN ?_ _) | (with_reducible refine Kd.C_drew ?_))); (case side2 => exact (Kd.R_reads' HO_22000.out).2.1); rintro e w' ⟨rfl, ⟨nd, rfl⟩⟩; (try first | exact ⟨rfl, _, World.drewN_drewN _ _ _⟩ | exact ⟨rfl, _, Eq.trans (World.drewN_drewN _ _ _) (congrArg (World.drewN _) (Nat.add_assoc _ _ _))⟩); have p28 : 0 ≤ (t27 : Int) := of_decide_eq_true (by first | (with_reducible assumption) | assumption); have q28 : t27 < (t17.length : Int) := of_decide_eq_true (by first | (with_reducible assumption) | assumption); obtain ⟨ad28, e28, hx28_0, hx28_1, hx28_2, hx28_3, hx28_4, hx28_5, hx28_6, hx28_7, hx28_8, hx28_9, hx28_10, hx28_11⟩ := at_T31 (Kd.R_reads' HO_22000.out).2.2 t27 p28 q28; cases e28; replace p28 := eq_true p28; replace q28 := eq_true q28; have p29 : 0 ≤ (t27 : Int) := of_decide_eq_true (by first | (with_reducible assumption) | assumption); have q29 : t27 < (t17.length : Int) := of_decide_eq_true (by first | (with_reducible assumption) | assumption); obtain ⟨ad29, e29, hx29_0, hx29_1, hx29_2, hx29_3, hx29_4, hx29_5, hx29_6, hx29_7, hx29_8, hx29_9, hx29_10, hx29_11⟩ := at_T31 (Kd.R_reads' HO_22000.out).2.2 t27 p29 q29; obtain rfl : ad28 = ad29 := (by injection e29); replace p29 := eq_true p29; replace q29 := eq_true q29; have p30 : 0 ≤ (t27 : Int) := of_decide_eq_true (by first | (with_reducible assumption) | assumption); have q30 : t27 < (t17.length : Int) := of_decide_eq_true (by first | (with_reducible assumption) | assumption); obtain ⟨ad30, e30, hx30_0, hx30_1, hx30_2, hx30_3, hx30_4, hx30_5, hx30_6, hx30_7, hx30_8, hx30_9, hx30_10, hx30_11⟩ := at_T31 (Kd.R_reads' HO_22000.out).2.2 t27 p30 q30; obtain rfl : ad28 = ad30 := (by injection e30); replace p30 := eq_true p30; replace q30 := eq_true q30; have p31 : 0 ≤ (t27 : Int) := of_decide_eq_true (by first | (with_reducible assumption) | assumption); have q31 : t27 < (t17.length : Int) := of_decide_eq_true (by first | (with_reducible assumption) | assumption); obtain ⟨ad31, e31, hx31_0, hx31_1, hx31_2, hx31_3, hx31_4, hx31_5, hx31_6, hx31_7, hx31_8, hx31_9, hx31_10, hx31_11⟩ := at_T31 (Kd.R_reads' HO_22000.out).2.2 t27 p31 q31; obtain rfl : ad28 = ad31 := (by injection e31); replace p31 := eq_true p31; replace q31 := eq_true q31; have p32 : 0 ≤ (t27 : Int) := of_decide_eq_true (by first | (with_reducible assumption) | assumption); have q32 : t27 < (t17.length : Int) := of_decide_eq_true (by first | (with_reducible assumption) | assumption); obtain ⟨ad32, e32, hx32_0, hx32_1, hx32_2, hx32_3, hx32_4, hx32_5, hx32_6, hx32_7, hx32_8, hx32_9, hx32_10, hx32_11⟩ := at_T31 (Kd.R_reads' HO_22000.out).2.2 t27 p32 q32; obtain rfl : ad28 = ad32 := (by injection e32); replace p32 := eq_true p32; replace q32 := eq_true q32; have p33 : 0 ≤ (t27 : Int) := of_decide_eq_true (by first | (with_reducible assumption) | assumption); have q33 : t27 < (t17.length : Int) := of_decide_eq_true (by first | (with_reducible assumption) | assumption); obtain ⟨ad33, e33, hx33_0, hx33_1, hx33_2, hx33_3, hx33_4, hx33_5, hx33_6, hx33_7, hx33_8, hx33_9, hx33_10, hx33_11⟩ := at_T31 (Kd.R_reads' HO_22000.out).2.2 t27 p33 q33; obtain rfl : ad28 = ad33 := (by injection e33); replace p33 := eq_true p33; replace q33 := eq_true q33)))
                       go_ret
                       exact ⟨by first | rfl | (simp [errW_none, errW_some] <;> rfl) | (simp only [← hji13]; first | rfl | (simp [errW_none, errW_some] <;> rfl)) | (simp [*, errW_none, errW_some] <;> rfl), by repeat (first | (with_reducible first | exact HB.out | apply below_alloc | apply pw_below_drewN | apply below_drew1 | refine below_set ?_ GE11.out | refine below_set ?_ GE16.out | refine below_set ?_ GE21.out) | exact HB.out)⟩
                   ·rw [if_neg c77] at H
                    exact absurd H (by simp)
                  ·rw [if_neg c76] at H
                   exact absurd H (by simp)
                ·rw [if_neg c69] at H
                 exact absurd H (by simp)
               ·rw [if_neg c68] at H
                have c68b0 : decide (x14_4 < (t12.length : Int)) = false := decide_eq_false c68
                clear c68
                replace H := Option.bind_eq_some_iff.mp H
                obtain ⟨t34, A970, H⟩ := H
                replace H : (some t34) = some r := H
                have A97 := Aside0.mk A970
                clear A970
                obtain rfl := Option.some.inj H
                obtain ⟨Ao98, co98, eo98⟩ := Kd.R_slice HO_11.out
                subst eo98
                go_wp2_with (first | (go_at_call 31; (with_reducible refine (law13_awake.calls k4  t34 _ A97.out).mono ?_); rintro e w99 ⟨rfl, hb⟩; have n0_ := Aside0.mk (Kd.R_below (by (with_reducible repeat (first | apply Kd.R_alloc | apply Kd.R_drewN | apply Kd.R_drew)); exact HO_11.out) hb); have n1_ := Aside0.mk (Kd.R_below (by (with_reducible repeat (first | apply Kd.R_alloc | apply Kd.R_drewN | apply Kd.R_drew)); exact HO_22000.out) hb); have n2_ := Aside0.mk (blk_below (g := gb11) (o := .cells #[.int .i64 t7, .int .i64 t8, .int .i64 t9] 27 (0, 0)) (by (with_reducible repeat (first | refine blk_drewN ?_ _ | refine blk_drew ?_ | refine blk_alloc ?_ _)); exact BK11.out) hb); have n3_ := Aside0.mk (blk_below (g := gb16) (o := .cells #[.int .i64 x17000_32, .int .i64 x17001_32, .int .i64 x17002_32] 27 (0, 0)) (by (with_reducible repeat (first | refine blk_drewN ?_ _ | refine blk_drew ?_ | refine blk_alloc ?_ _)); exact BK16.out) hb); have n4_ := Aside0.mk (blk_below (g := gb21) (o := .cells #[.slice Ao52 t17.length co52, .int .i64 t20] 67 (0, 0)) (by (with_reducible repeat (first | refine blk_drewN ?_ _ | refine blk_drew ?_ | refine blk_alloc ?_ _)); exact BK21.out) hb); have n5_ := Aside0.mk (below_step (by repeat (first | (with_reducible first | exact HB.out | apply below_alloc | apply pw_below_drewN | apply below_drew1 | refine below_set ?_ GE11.out | refine below_set ?_ GE16.out | refine below_set ?_ GE21.out) | exact HB.out)) hb); clear HO_11; clear HO_22000; clear BK11; clear BK16; clear BK21; clear HB; have HO_11 := n0_; have HO_22000 := n1_; have BK11 := n2_; have BK16 := n3_; have BK21 := n4_; have HB := n5_; clear n0_ n1_ n2_ n3_ n4_ n5_; (try clear hb); (try clear hb2); (try clear hk); (try clear hi)))
                repeat (go_quiet (first | (go_at_call 31; (with_reducible refine (law13_awake.calls k4  t34 _ A97.out).mono ?_); rintro e w99 ⟨rfl, hb⟩; have n0_ := Aside0.mk (Kd.R_below (by (with_reducible repeat (first | apply Kd.R_alloc | apply Kd.R_drewN | apply Kd.R_drew)); exact HO_11.out) hb); have n1_ := Aside0.mk (Kd.R_below (by (with_reducible repeat (first | apply Kd.R_alloc | apply Kd.R_drewN | apply Kd.R_drew)); exact HO_22000.out) hb); have n2_ := Aside0.mk (blk_below (g := gb11) (o := .cells #[.int .i64 t7, .int .i64 t8, .int .i64 t9] 27 (0, 0)) (by (with_reducible repeat (first | refine blk_drewN ?_ _ | refine blk_drew ?_ | refine blk_alloc ?_ _)); exact BK11.out) hb); have n3_ := Aside0.mk (blk_below (g := gb16) (o := .cells #[.int .i64 x17000_32, .int .i64 x17001_32, .int .i64 x17002_32] 27 (0, 0)) (by (with_reducible repeat (first | refine blk_drewN ?_ _ | refine blk_drew ?_ | refine blk_alloc ?_ _)); exact BK16.out) hb); have n4_ := Aside0.mk (blk_below (g := gb21) (o := .cells #[.slice Ao52 t17.length co52, .int .i64 t20] 67 (0, 0)) (by (with_reducible repeat (first | refine blk_drewN ?_ _ | refine blk_drew ?_ | refine blk_alloc ?_ _)); exact BK21.out) hb); have n5_ := Aside0.mk (below_step (by repeat (first | (with_reducible first | exact HB.out | apply below_alloc | apply pw_below_drewN | apply below_drew1 | refine below_set ?_ GE11.out | refine below_set ?_ GE16.out | refine below_set ?_ GE21.out) | exact HB.out)) hb); clear HO_11; clear HO_22000; clear BK11; clear BK16; clear BK21; clear HB; have HO_11 := n0_; have HO_22000 := n1_; have BK11 := n2_; have BK16 := n3_; have BK21 := n4_; have HB := n5_; clear n0_ n1_ n2_ n3_ n4_ n5_; (try clear hb); (try clear hb2); (try clear hk); (try clear hi))); try go_wp2_with (first | (go_at_call 31; (with_reducible refine (law13_awake.calls k4  t34 _ A97.out).mono ?_); rintro e w99 ⟨rfl, hb⟩; have n0_ := Aside0.mk (Kd.R_below (by (with_reducible repeat (first | apply Kd.R_alloc | apply Kd.R_drewN | apply Kd.R_drew)); exact HO_11.out) hb); have n1_ := Aside0.mk (Kd.R_below (by (with_reducible repeat (first | apply Kd.R_alloc | apply Kd.R_drewN | apply Kd.R_drew)); exact HO_22000.out) hb); have n2_ := Aside0.mk (blk_below (g := gb11) (o := .cells #[.int .i64 t7, .int .i64 t8, .int .i64 t9] 27 (0, 0)) (by (with_reducible repeat (first | refine blk_drewN ?_ _ | refine blk_drew ?_ | refine blk_alloc ?_ _)); exact BK11.out) hb); have n3_ := Aside0.mk (blk_below (g := gb16) (o := .cells #[.int .i64 x17000_32, .int .i64 x17001_32, .int .i64 x17002_32] 27 (0, 0)) (by (with_reducible repeat (first | refine blk_drewN ?_ _ | refine blk_drew ?_ | refine blk_alloc ?_ _)); exact BK16.out) hb); have n4_ := Aside0.mk (blk_below (g := gb21) (o := .cells #[.slice Ao52 t17.length co52, .int .i64 t20] 67 (0, 0)) (by (with_reducible repeat (first | refine blk_drewN ?_ _ | refine blk_drew ?_ | refine blk_alloc ?_ _)); exact BK21.out) hb); have n5_ := Aside0.mk (below_step (by repeat (first | (with_reducible first | exact HB.out | apply below_alloc | apply pw_below_drewN | apply below_drew1 | refine below_set ?_ GE11.out | refine below_set ?_ GE16.out | refine below_set ?_ GE21.out) | exact HB.out)) hb); clear HO_11; clear HO_22000; clear BK11; clear BK16; clear BK21; clear HB; have HO_11 := n0_; have HO_22000 := n1_; have BK11 := n2_; have BK16 := n3_; have BK21 := n4_; have HB := n5_; clear n0_ n1_ n2_ n3_ n4_ n5_; (try clear hb); (try clear hb2); (try clear hk); (try clear hi))))
                go_ret
                exact ⟨by first | rfl | (simp [errW_none, errW_some] <;> rfl) | (simp only [← hji13]; first | rfl | (simp [errW_none, errW_some] <;> rfl)) | (simp [*, errW_none, errW_some] <;> rfl), by repeat (first | (with_reducible first | exact HB.out | apply below_alloc | apply pw_below_drewN | apply below_drew1 | refine below_set ?_ GE11.out | refine below_set ?_ GE16.out | refine below_set ?_ GE21.out) | exact HB.out)⟩
    ·rw [if_neg c15] at H
     exact absurd H (by simp)
   ·rw [if_neg c14] at H
    exact absurd H (by simp)
/-- THE ONE PURE STATEMENT of law13_RoomFits: yours. -/
def law13_RoomFits.Pure : Prop := ∀ (l0 : List Int) (a1 : Int) (a2 : Int), l0.length ≤ maxLen → l0.length * 1 ≤ 140737488351232 → (∀ x ∈ l0, (Lit.int .u8 x).wf = true) → (Lit.int .u8 a1).wf = true → (Lit.int .u8 a2).wf = true → ∃ k, law13_RoomFits.f k l0 a1 a2 = some true
theorem law13_RoomFits.walk (P : law13_RoomFits.Pure) (a0 : Option Addr) (len0 cap0 : Nat) (z0 : List Int) (a1 : Int) (a2 : Int) (w : World) (w0 : (a0 = none ∧ len0 = 0 ∧ cap0 = 0 ∧ z0 = []) ∨ ∃ x, a0 = some x ∧ len0 ≤ cap0 ∧ cap0 ≤ maxLen ∧ z0.length = cap0 ∧ (∀ i, i < z0.length → w.cell? (x.add i) = some (.int .u8 (z0.getD i 0))) ∧ ∀ n ∈ z0, (Lit.int .u8 n).wf = true) (y0 : len0 * 1 ≤ 140737488351232) (w1 : (Lit.int .u8 a1).wf = true) (w2 : (Lit.int .u8 a2).wf = true) :
  Calls Try.prog 10 #[.slice a0 len0 cap0, .int .u8 a1, .int .u8 a2] w fun e w' => e = .returned (.bool true) ∧ Below w.heap.size w w' := by
 obtain ⟨l0, rfl, hr0, hm0, hw0, hc0⟩ := ReadsInt.ofRowC w0
 obtain ⟨k, h⟩ := P l0 a1 a2 hm0 y0 hw0 w1 w2
 refine (law13_RoomFits.calls k _ _ l0 a1 a2 true w (Kd.C_of_reads (d := (0 : Int)) (h1 := fun _ => rfl) hr0) hc0 h).mono ?_
 rintro e w' ⟨rfl, hd⟩
 exact ⟨rfl, hd⟩
end Go.Proofs.Ytcgefpklljclgaa.Print

namespace Go.Proofs.Ytcgefpklljclgaa.Print
open Go.RowKit Go.Proofs.YtcgefpklljclgaaW.PrintWords Go.Proofs.YtcgefpklljclgaaW.PrintLast
set_option linter.unusedVariables false
set_option linter.unusedSimpArgs false
abbrev Item := S31
abbrev Vec := S27
abbrev zItem : Item := z31
theorem rd_item (l : List Item) (i : Int) : rd_T31 l i = l.getD i.toNat zItem := rfl
instance baLawful : LawfulBEq ByteArray where
  eq_of_beq {a b} h := by
    obtain ⟨a⟩ := a
    obtain ⟨b⟩ := b
    have : (a == b) = true := h
    rw [eq_of_beq this]
  rfl {a} := by
    obtain ⟨a⟩ := a
    show (a == a) = true
    exact beq_self_eq_true a
/-- a name is its bytes -/
theorem nm_inj {a b : ByteArray} : a.toList = b.toList ↔ a = b := by
  constructor
  · intro h
    rw [ByteArray.toList_eq, ByteArray.toList_eq] at h
    exact ByteArray.ext (Array.toList_inj.1 h)
  · rintro rfl; rfl
theorem nm_beq (a b : ByteArray) : (a.toList == b.toList) = decide (a = b) := by
  rw [Bool.eq_iff_iff, beq_iff_eq, nm_inj, decide_eq_true_iff]
theorem nm_empty {a : ByteArray} : a.toList = ([] : List UInt8) ↔ a = ⟨#[]⟩ := by
  rw [← nm_inj]; rw [show (ByteArray.mk #[]).toList = [] from by rw [ByteArray.toList_eq]]
theorem w64 {n : Int} (h0 : -9223372036854775808 ≤ n) (h1 : n ≤ 9223372036854775807) : wrap64 n = n := by unfold wrap64; omega
/-! the place of a name -/
def look (l : List Item) (n : ByteArray) : Option Item := l.find? (fun x => x.f0 = n)
def fnd (l : List Item) (n : ByteArray) : Int := fidx (fun x : Item => x.f0.toList == n.toList) l 0
theorem fidx_none {α : Type} {p : α → Bool} : ∀ {l : List α} {i : Int}, (∀ x ∈ l, p x = false) → fidx p l i = -1
  | [], _, _ => rfl
  | x :: l, i, h => by
    unfold fidx
    rw [if_neg (by rw [h x (by simp)]; simp)]
    exact fidx_none (fun y hy => h y (by simp [hy]))
theorem fidx_some {α : Type} {p : α → Bool} (z : α) : ∀ {l : List α} {i : Int} {x : α}, l.find? p = some x → ∃ j : Nat, j < l.length ∧ fidx p l i = i + j ∧ l.getD j z = x ∧ p x = true ∧ ∀ m, m < j → p (l.getD m z) = false
  | [], _, _, h => by simp at h
  | y :: l, i, x, h => by
    unfold fidx
    by_cases hy : p y = true
    · rw [if_pos hy]
      simp only [List.find?_cons, hy] at h
      obtain rfl := Option.some.inj h
      exact ⟨0, by simp, by simp, by simp, hy, fun m hm => by omega⟩
    · rw [if_neg hy]
      have hy' : p y = false := by simpa using hy
      simp only [List.find?_cons, hy'] at h
      obtain ⟨j, hj, h1, h2, h3, h4⟩ := fidx_some z (i := i + 1) h
      refine ⟨j + 1, by simp; omega, by rw [h1]; omega, by simpa using h2, h3, fun m hm => ?_⟩
      cases m with
      | zero => simpa using hy'
      | succ m => simpa using h4 m (by omega)
theorem look_pred (n : ByteArray) : (fun x : Item => x.f0.toList == n.toList) = (fun x : Item => decide (x.f0 = n)) := by
  funext x; exact nm_beq _ _
theorem look_mem {l : List Item} {n : ByteArray} {x : Item} (h : look l n = some x) : x ∈ l ∧ x.f0 = n := by
  unfold look at h
  exact ⟨List.mem_of_find?_eq_some h, by simpa using List.find?_some h⟩
theorem look_none {l : List Item} {n : ByteArray} : look l n = none ↔ ∀ x ∈ l, x.f0 ≠ n := by
  unfold look
  simp
theorem fnd_none {l : List Item} {n : ByteArray} (h : look l n = none) : fnd l n = -1 := by
  unfold fnd
  refine fidx_none fun x hx => ?_
  rw [nm_beq]
  simpa using look_none.1 h x hx
theorem fnd_some {l : List Item} {n : ByteArray} {x : Item} (h : look l n = some x) : ∃ j : Nat, j < l.length ∧ fnd l n = j ∧ l.getD j zItem = x ∧ x.f0 = n ∧ ∀ m, m < j → (l.getD m zItem).f0 ≠ n := by
  have h' : l.find? (fun x : Item => x.f0.toList == n.toList) = some x := by rw [look_pred]; exact h
  obtain ⟨j, h1, h2, h3, h4, h5⟩ := fidx_some zItem (i := 0) h'
  refine ⟨j, h1, by unfold fnd; rw [h2]; omega, h3, by simpa [nm_beq] using h4, fun m hm => ?_⟩
  simpa [nm_beq] using h5 m hm
theorem fnd_lt (l : List Item) (n : ByteArray) : fnd l n < l.length := by
  cases h : look l n with
  | none => rw [fnd_none h]; omega
  | some x => obtain ⟨j, h1, h2, _⟩ := fnd_some h; omega
theorem fnd_neg {l : List Item} {n : ByteArray} : fnd l n < 0 ↔ look l n = none := by
  cases h : look l n with
  | none => rw [fnd_none h]; simp
  | some x => obtain ⟨j, h1, h2, _⟩ := fnd_some h; simp; omega
theorem fnd_ge {l : List Item} {n : ByteArray} : 0 ≤ fnd l n ↔ ∃ x, look l n = some x := by
  cases h : look l n with
  | none => rw [fnd_none h]; simp
  | some x => obtain ⟨j, h1, h2, _⟩ := fnd_some h; simp; omega
theorem fnd_rd {l : List Item} {n : ByteArray} {x : Item} (h : look l n = some x) : rd_T31 l (fnd l n) = x := by
  obtain ⟨j, h1, h2, h3, _⟩ := fnd_some h
  rw [rd_item, h2, Int.toNat_natCast]; exact h3
theorem tree_Find_eq (l : List Item) (n : ByteArray) : tree_Find.f l n = some (fnd l n) := rfl
/-! the way up -/
inductive Chain (l : List Item) : ByteArray → List ByteArray → Prop where
  | nil {n : ByteArray} : look l n = none → Chain l n []
  | cons {n : ByteArray} {x : Item} {us : List ByteArray} : look l n = some x → Chain l x.f1 us → Chain l n (n :: us)
def upGo (l : List Item) : Nat → ByteArray → List ByteArray
  | 0, _ => []
  | m + 1, n => match look l n with
    | none => []
    | some x => n :: upGo l m x.f1
def up (l : List Item) (n : ByteArray) : List ByteArray := upGo l (l.length + 1) n
theorem upGo_len (l : List Item) : ∀ (m : Nat) (n : ByteArray), (upGo l m n).length ≤ m
  | 0, _ => by simp [upGo]
  | m + 1, n => by
    unfold upGo
    cases look l n with
    | none => simp
    | some x => have := upGo_len l m x.f1; simp; omega
theorem up_len (l : List Item) (n : ByteArray) : (up l n).length ≤ l.length + 1 := upGo_len l _ n
theorem upGo_none {l : List Item} {n : ByteArray} (h : look l n = none) (m : Nat) : upGo l m n = [] := by
  cases m with
  | zero => rfl
  | succ m => unfold upGo; rw [h]
theorem upGo_some {l : List Item} {n : ByteArray} {x : Item} (h : look l n = some x) (m : Nat) : upGo l (m + 1) n = n :: upGo l m x.f1 := by
  rw [upGo.eq_2, h]
theorem Chain.det {l : List Item} {n : ByteArray} {us : List ByteArray} (h : Chain l n us) : ∀ {vs : List ByteArray}, Chain l n vs → us = vs := by
  induction h with
  | nil h =>
    intro vs k
    cases k with
    | nil _ => rfl
    | cons k _ => rw [h] at k; cases k
  | cons h _ ih =>
    intro vs k
    cases k with
    | nil k => rw [h] at k; cases k
    | cons k k2 =>
      rw [h] at k
      cases k
      rw [ih k2]
theorem Chain.upGo {l : List Item} {n : ByteArray} {us : List ByteArray} (h : Chain l n us) : ∀ m, us.length ≤ m → upGo l m n = us := by
  induction h with
  | nil h => intro m _; exact upGo_none h m
  | cons h _ ih =>
    intro m hm
    cases m with
    | zero => simp at hm
    | succ m =>
      rw [upGo_some h, ih m (by simpa using hm)]
theorem Chain.suffix {l : List Item} {n : ByteArray} {us : List ByteArray} (h : Chain l n us) : ∀ {m : ByteArray}, m ∈ us → ∃ vs ws, us = ws ++ vs ∧ Chain l m vs ∧ ∃ vt, vs = m :: vt := by
  induction h with
  | nil _ => intro m hm; cases hm
  | @cons n x us h k ih =>
    intro m hm
    rcases List.mem_cons.1 hm with rfl | hm
    · exact ⟨_, [], rfl, .cons h k, _, rfl⟩
    · obtain ⟨vs, ws, e, hc, he⟩ := ih hm
      exact ⟨vs, n :: ws, by rw [e]; rfl, hc, he⟩
theorem Chain.mem_look {l : List Item} {n : ByteArray} {us : List ByteArray} (h : Chain l n us) {m : ByteArray} (hm : m ∈ us) : ∃ x, look l m = some x := by
  obtain ⟨vs, ws, _, hc, vt, rfl⟩ := h.suffix hm
  cases hc with
  | cons h _ => exact ⟨_, h⟩
theorem Chain.nodup {l : List Item} {n : ByteArray} {us : List ByteArray} (h : Chain l n us) : us.Nodup := by
  induction h with
  | nil _ => simp
  | @cons n x us h k ih =>
    rw [List.nodup_cons]
    refine ⟨fun hm => ?_, ih⟩
    obtain ⟨vs, ws, e, hc, _⟩ := k.suffix hm
    have := hc.det (.cons h k)
    rw [this] at e
    have := congrArg List.length e
    simp at this
    omega
theorem Chain.len {l : List Item} {n : ByteArray} {us : List ByteArray} (h : Chain l n us) : us.length ≤ l.length := by
  have := h.nodup.length_le_of_subset (l₂ := l.map (·.f0)) (fun m hm => by
    obtain ⟨x, hx⟩ := h.mem_look hm
    obtain ⟨h1, rfl⟩ := look_mem hx
    exact List.mem_map_of_mem h1)
  simpa using this
theorem Chain.up {l : List Item} {n : ByteArray} {us : List ByteArray} (h : Chain l n us) : up l n = us := h.upGo _ (by have := h.len; omega)
end Go.Proofs.Ytcgefpklljclgaa.Print

namespace Go.Proofs.Ytcgefpklljclgaa.Print
open Go.RowKit Go.Proofs.YtcgefpklljclgaaW.PrintWords Go.Proofs.YtcgefpklljclgaaW.PrintLast
set_option linter.unusedVariables false
set_option linter.unusedSimpArgs false
/-! names in order -/
def lt (a b : ByteArray) : Bool := Op.bytesLess a.toList b.toList
theorem bl_irrefl : ∀ a : List UInt8, Op.bytesLess a a = false
  | [] => rfl
  | x :: a => by unfold Op.bytesLess; simp [bl_irrefl a]
theorem bl_trans : ∀ {a b c : List UInt8}, Op.bytesLess a b = true → Op.bytesLess b c = true → Op.bytesLess a c = true
  | [], [], _, h, _ => by simp [Op.bytesLess] at h
  | [], _ :: _, [], _, k => by simp [Op.bytesLess] at k
  | [], _ :: _, _ :: _, _, _ => by simp [Op.bytesLess]
  | _ :: _, [], _, h, _ => by simp [Op.bytesLess] at h
  | _ :: _, _ :: _, [], _, k => by simp [Op.bytesLess] at k
  | x :: a, y :: b, z :: c, h, k => by
    simp only [Op.bytesLess, Bool.or_eq_true, Bool.and_eq_true, decide_eq_true_eq, beq_iff_eq] at h k ⊢
    rcases h with h | ⟨rfl, h⟩
    · rcases k with k | ⟨rfl, k⟩
      · exact .inl (UInt8.lt_trans h k)
      · exact .inl h
    · rcases k with k | ⟨rfl, k⟩
      · exact .inl k
      · exact .inr ⟨rfl, bl_trans h k⟩
theorem bl_total : ∀ {a b : List UInt8}, Op.bytesLess a b = false → a ≠ b → Op.bytesLess b a = true
  | [], [], _, h => absurd rfl h
  | [], _ :: _, h, _ => by simp [Op.bytesLess] at h
  | _ :: _, [], _, _ => by simp [Op.bytesLess]
  | x :: a, y :: b, h, k => by
    simp only [Op.bytesLess, Bool.or_eq_true, Bool.or_eq_false_iff, Bool.and_eq_false_iff, Bool.and_eq_true, decide_eq_true_eq, decide_eq_false_iff_not, beq_iff_eq, beq_eq_false_iff_ne] at h ⊢
    obtain ⟨h1, h2⟩ := h
    by_cases e : x = y
    · subst e
      rcases h2 with h2 | h2
      · exact absurd rfl h2
      · exact .inr ⟨rfl, bl_total h2 (fun e => k (by rw [e]))⟩
    · left
      have h3 : ¬ x.toNat < y.toNat := by rwa [← UInt8.lt_iff_toNat_lt]
      have h4 : x.toNat ≠ y.toNat := fun q => e (UInt8.toNat_inj.1 q)
      rw [UInt8.lt_iff_toNat_lt]; omega
theorem lt_irrefl (a : ByteArray) : lt a a = false := bl_irrefl _
theorem lt_trans {a b c : ByteArray} (h : lt a b = true) (k : lt b c = true) : lt a c = true := bl_trans h k
theorem lt_total {a b : ByteArray} (h : lt a b = false) (k : a ≠ b) : lt b a = true := bl_total h (fun e => k (nm_inj.1 e))
theorem lt_ne {a b : ByteArray} (h : lt a b = true) : a ≠ b := by rintro rfl; rw [lt_irrefl] at h; cases h
/-! amounts -/
inductive Comp where | cpu | mem | pods
def Comp.of : Comp → Vec → Int | .cpu, v => v.f0 | .mem, v => v.f1 | .pods, v => v.f2
def vadd (a b : Vec) : Vec := ⟨a.f0 + b.f0, a.f1 + b.f1, a.f2 + b.f2⟩
def vsub (a b : Vec) : Vec := ⟨a.f0 - b.f0, a.f1 - b.f1, a.f2 - b.f2⟩
theorem of_vadd (c : Comp) (a b : Vec) : c.of (vadd a b) = c.of a + c.of b := by cases c <;> rfl
theorem of_vsub (c : Comp) (a b : Vec) : c.of (vsub a b) = c.of a - c.of b := by cases c <;> rfl
def MayP (v : Vec) : Prop := ∀ c : Comp, 0 ≤ c.of v ∧ c.of v ≤ 1099511627776
def LeP (a b : Vec) : Prop := ∀ c : Comp, c.of a ≤ c.of b
theorem comp_all {p : Comp → Prop} : (∀ c, p c) ↔ p .cpu ∧ p .mem ∧ p .pods :=
  ⟨fun h => ⟨h _, h _, h _⟩, fun ⟨a, b, d⟩ c => by cases c <;> assumption⟩
instance (v : Vec) : Decidable (MayP v) := decidable_of_iff _ comp_all.symm
instance (a b : Vec) : Decidable (LeP a b) := decidable_of_iff _ comp_all.symm
theorem mayP_iff {a b d : Int} : MayP ⟨a, b, d⟩ ↔ (0 ≤ a ∧ a ≤ 1099511627776) ∧ (0 ≤ b ∧ b ≤ 1099511627776) ∧ (0 ≤ d ∧ d ≤ 1099511627776) := comp_all
theorem leP_iff {a b d a' b' d' : Int} : LeP ⟨a, b, d⟩ ⟨a', b', d'⟩ ↔ a ≤ a' ∧ b ≤ b' ∧ d ≤ d' := comp_all
/-! sums over a tree -/
def sumBy (g : Item → Int) (l : List Item) : Int := (l.map g).sum
theorem sumBy_nil (g : Item → Int) : sumBy g [] = 0 := rfl
theorem sumBy_cons (g : Item → Int) (x : Item) (l : List Item) : sumBy g (x :: l) = g x + sumBy g l := by simp [sumBy]
theorem sumBy_append (g : Item → Int) (l m : List Item) : sumBy g (l ++ m) = sumBy g l + sumBy g m := by simp [sumBy]
theorem sumBy_congr {g h : Item → Int} : ∀ {l : List Item}, (∀ x ∈ l, g x = h x) → sumBy g l = sumBy h l
  | [], _ => rfl
  | x :: l, e => by rw [sumBy_cons, sumBy_cons, e x (by simp), sumBy_congr (fun y hy => e y (by simp [hy]))]
theorem sumBy_add (g h : Item → Int) : ∀ l : List Item, sumBy (fun x => g x + h x) l = sumBy g l + sumBy h l
  | [] => rfl
  | x :: l => by rw [sumBy_cons, sumBy_cons, sumBy_cons, sumBy_add g h l]; omega
theorem sumBy_map (g : Item → Int) (f : Item → Item) : ∀ l : List Item, sumBy g (l.map f) = sumBy (fun x => g (f x)) l
  | [] => rfl
  | x :: l => by rw [List.map_cons, sumBy_cons, sumBy_cons, sumBy_map g f l]
theorem sumBy_zero {g : Item → Int} : ∀ {l : List Item}, (∀ x ∈ l, g x = 0) → sumBy g l = 0
  | [], _ => rfl
  | x :: l, e => by rw [sumBy_cons, e x (by simp), sumBy_zero (fun y hy => e y (by simp [hy]))]; rfl
theorem sumBy_nonneg {g : Item → Int} : ∀ {l : List Item}, (∀ x ∈ l, 0 ≤ g x) → 0 ≤ sumBy g l
  | [], _ => by simp [sumBy_nil]
  | x :: l, e => by rw [sumBy_cons]; have := e x (by simp); have := sumBy_nonneg (l := l) (fun y hy => e y (by simp [hy])); omega
/-- one summand alone: names stand once -/
theorem sumBy_one {v : Int} {l : List Item} (hn : (l.map (·.f0)).Nodup) {x : Item} (hx : x ∈ l) : sumBy (fun y => if y.f0 = x.f0 then v else 0) l = v := by
  induction l with
  | nil => cases hx
  | cons y l ih =>
    rw [List.map_cons, List.nodup_cons] at hn
    rw [sumBy_cons]
    rcases List.mem_cons.1 hx with rfl | hx
    · rw [if_pos rfl, sumBy_zero (fun z hz => if_neg (fun e => hn.1 (by rw [← e]; exact List.mem_map_of_mem hz)))]; omega
    · rw [if_neg (fun e => hn.1 (by rw [e]; exact List.mem_map_of_mem hx)), ih hn.2 hx]; omega
/-- what the children have -/
def csum (c : Comp) (l : List Item) (n : ByteArray) : Int := sumBy (fun y => if y.f1 = n then c.of y.f4 else 0) l
/-! right trees -/
structure ItemOK (x : Item) : Prop where
  name : x.f0 ≠ ⟨#[]⟩
  size : x.f0.size ≤ 24
  lim : MayP x.f2
  own : MayP x.f3
  sub : MayP x.f4
  fit : LeP x.f4 x.f2
  ver : 1 ≤ x.f5 ∧ x.f5 ≤ 9007199254740992
structure RightP (l : List Item) : Prop where
  len : l.length ≤ 120
  ok : ∀ x ∈ l, ItemOK x
  sorted : l.Pairwise (fun x y => lt x.f0 y.f0 = true)
  par : ∀ x ∈ l, x.f1 = ⟨#[]⟩ ∨ ∃ y, look l x.f1 = some y
  sum : ∀ c : Comp, ∀ x ∈ l, c.of x.f4 = c.of x.f3 + csum c l x.f0
  chain : ∀ x ∈ l, ∃ us, Chain l x.f0 us
theorem sorted_nodup {l : List Item} (h : l.Pairwise (fun x y => lt x.f0 y.f0 = true)) : (l.map (·.f0)).Nodup := by
  rw [List.Nodup, List.pairwise_map]
  exact h.imp (fun hxy => lt_ne hxy)
theorem RightP.nodup {l : List Item} (h : RightP l) : (l.map (·.f0)).Nodup := sorted_nodup h.sorted
theorem look_of_mem {l : List Item} (hn : (l.map (·.f0)).Nodup) {x : Item} (hx : x ∈ l) : look l x.f0 = some x := by
  induction l with
  | nil => cases hx
  | cons y l ih =>
    rw [List.map_cons, List.nodup_cons] at hn
    unfold look
    rw [List.find?_cons]
    rcases List.mem_cons.1 hx with rfl | hx
    · simp
    · have : y.f0 ≠ x.f0 := fun e => hn.1 (by rw [e]; exact List.mem_map_of_mem hx)
      simp only [this, decide_false]
      exact ih hn.2 hx
theorem RightP.look {l : List Item} (h : RightP l) {x : Item} (hx : x ∈ l) : look l x.f0 = some x := look_of_mem h.nodup hx
theorem RightP.chainAll {l : List Item} (h : RightP l) (n : ByteArray) : Chain l n (up l n) := by
  cases hl : Print.look l n with
  | none => have c := Chain.nil hl; rw [c.up]; exact c
  | some x =>
    obtain ⟨hx, rfl⟩ := look_mem hl
    obtain ⟨us, c⟩ := h.chain x hx
    rw [c.up]; exact c
theorem right_nil : RightP [] := ⟨by simp, by simp, by simp, by simp, by simp, by simp⟩
/-- two that have one name are one -/
theorem RightP.eq_of {l : List Item} (h : RightP l) {x y : Item} (hx : x ∈ l) (hy : y ∈ l) (e : x.f0 = y.f0) : x = y := by
  have h1 := h.look hx
  rw [e, h.look hy] at h1
  exact (Option.some.inj h1).symm
end Go.Proofs.Ytcgefpklljclgaa.Print

namespace Go.Proofs.Ytcgefpklljclgaa.Print
open Go.RowKit Go.Proofs.YtcgefpklljclgaaW.PrintWords Go.Proofs.YtcgefpklljclgaaW.PrintLast
set_option linter.unusedVariables false
set_option linter.unusedSimpArgs false
/-! a tree whose items change, but neither their names nor parents -/
theorem look_map {f : Item → Item} (hf : ∀ x, (f x).f0 = x.f0) (l : List Item) (n : ByteArray) : look (l.map f) n = (look l n).map f := by
  unfold look
  rw [List.find?_map]
  congr 2
  funext x
  simp [hf]
theorem Chain.map {f : Item → Item} (hf : ∀ x, (f x).f0 = x.f0) (hp : ∀ x, (f x).f1 = x.f1) {l : List Item} {n : ByteArray} {us : List ByteArray} (h : Chain l n us) : Chain (l.map f) n us := by
  induction h with
  | nil h => exact .nil (by rw [look_map hf, h]; rfl)
  | @cons n x us h k ih => exact .cons (x := f x) (by rw [look_map hf, h]; rfl) (by rw [hp]; exact ih)
theorem up_self {l : List Item} {n : ByteArray} {x : Item} (h : look l n = some x) : n ∈ up l n := by
  unfold up
  rw [upGo_some h]
  simp
/-- which of a node's children stand on a way up -/
theorem chain_kids {l : List Item} (hl : RightP l) {n : ByteArray} {us : List ByteArray} (h : Chain l n us) (v : Int) {x : Item} (hx : x ∈ l) :
    sumBy (fun y => if y.f1 = x.f0 ∧ y.f0 ∈ us then v else 0) l = if x.f0 ∈ us ∧ x.f0 ≠ n then v else 0 := by
  induction h with
  | nil _ => rw [sumBy_zero (fun y _ => by simp)]; simp
  | @cons n z us h k ih =>
    obtain ⟨hz, rfl⟩ := look_mem h
    have hnd := (Chain.cons h k).nodup
    rw [List.nodup_cons] at hnd
    have e : sumBy (fun y => if y.f1 = x.f0 ∧ y.f0 ∈ z.f0 :: us then v else 0) l = sumBy (fun y => (if y.f0 = z.f0 then (if z.f1 = x.f0 then v else 0) else 0) + (if y.f1 = x.f0 ∧ y.f0 ∈ us then v else 0)) l := by
      refine sumBy_congr fun y hy => ?_
      by_cases e1 : y.f0 = z.f0
      · have := hl.eq_of hy hz e1
        subst this
        by_cases e2 : y.f1 = x.f0 <;> simp [e2, hnd.1]
      · simp [e1]
    rw [e, sumBy_add, ih, sumBy_one hl.nodup hz]
    by_cases e2 : z.f1 = x.f0
    · have hm : x.f0 ∈ us := by
        rw [e2] at k
        cases k with
        | nil k => rw [hl.look hx] at k; cases k
        | cons _ _ => simp
      have hne : x.f0 ≠ z.f0 := fun q => hnd.1 (by rw [← q]; exact hm)
      simp [e2, hm, hne]
    · by_cases e3 : x.f0 = z.f0
      · simp [e2, e3, hnd.1]
        exact fun q => absurd (q.trans e3.symm) e2
      · have e4 : x.f0 ≠ z.f1 := fun q => e2 q.symm
        simp [e2, e3, e4]
/-! letting in (and out) -/
def admF (us : List ByteArray) (n : ByteArray) (v : Vec) (x : Item) : Item := ⟨x.f0, x.f1, x.f2, if x.f0 = n then vadd x.f3 v else x.f3, if x.f0 ∈ us then vadd x.f4 v else x.f4, x.f5⟩
def admL (l : List Item) (n : ByteArray) (v : Vec) : List Item := l.map (admF (up l n) n v)
theorem csum_adm {l : List Item} (hl : RightP l) (c : Comp) (n : ByteArray) (v : Vec) {x : Item} (hx : x ∈ l) :
    csum c (admL l n v) x.f0 = csum c l x.f0 + if x.f0 ∈ up l n ∧ x.f0 ≠ n then c.of v else 0 := by
  unfold csum admL
  rw [sumBy_map, ← chain_kids hl (hl.chainAll n) (c.of v) hx, ← sumBy_add]
  refine sumBy_congr fun y hy => ?_
  simp only [admF]
  by_cases e1 : y.f1 = x.f0 <;> by_cases e2 : y.f0 ∈ up l n <;> simp [e1, e2, of_vadd]
/-- what keeps a tree right when something is let in or out along a way -/
theorem adm_right {l : List Item} (hl : RightP l) {n : ByteArray} (v : Vec) (hin : ∃ x, look l n = some x)
    (hown : ∀ x ∈ l, x.f0 = n → MayP (vadd x.f3 v)) (hsub : ∀ x ∈ l, x.f0 ∈ up l n → MayP (vadd x.f4 v)) (hfit : ∀ x ∈ l, x.f0 ∈ up l n → LeP (vadd x.f4 v) x.f2) : RightP (admL l n v) where
  len := by unfold admL; rw [List.length_map]; exact hl.len
  ok := by
    intro y hy
    obtain ⟨x, hx, rfl⟩ := List.mem_map.1 hy
    have k := hl.ok x hx
    refine ⟨k.name, k.size, k.lim, ?_, ?_, ?_, k.ver⟩
    · show MayP (if x.f0 = n then vadd x.f3 v else x.f3)
      split
      · exact hown x hx (by assumption)
      · exact k.own
    · show MayP (if x.f0 ∈ up l n then vadd x.f4 v else x.f4)
      split
      · exact hsub x hx (by assumption)
      · exact k.sub
    · show LeP (if x.f0 ∈ up l n then vadd x.f4 v else x.f4) x.f2
      split
      · exact hfit x hx (by assumption)
      · exact k.fit
  sorted := by
    unfold admL
    rw [List.pairwise_map]
    exact hl.sorted
  par := by
    intro y hy
    obtain ⟨x, hx, rfl⟩ := List.mem_map.1 hy
    rcases hl.par x hx with h | ⟨z, h⟩
    · exact .inl h
    · exact .inr ⟨_, by unfold admL; rw [look_map (f := admF (up l n) n v) (fun _ => rfl)]; show (look l x.f1).map _ = _; rw [h]; rfl⟩
  sum := by
    intro c y hy
    obtain ⟨x, hx, rfl⟩ := List.mem_map.1 hy
    show c.of (if x.f0 ∈ up l n then vadd x.f4 v else x.f4) = c.of (if x.f0 = n then vadd x.f3 v else x.f3) + csum c (admL l n v) x.f0
    rw [csum_adm hl c n v hx]
    have hs := hl.sum c x hx
    by_cases e : x.f0 = n
    · have hm : x.f0 ∈ up l n := by
        obtain ⟨z, hz⟩ := hin
        rw [e]; exact up_self hz
      simp [e] at hm ⊢
      rw [if_pos hm, of_vadd, of_vadd, hs, e]; omega
    · by_cases hm : x.f0 ∈ up l n
      · simp [e, hm, of_vadd]; omega
      · simp [e, hm]; omega
  chain := by
    intro y hy
    obtain ⟨x, hx, rfl⟩ := List.mem_map.1 hy
    obtain ⟨us, h⟩ := hl.chain x hx
    exact ⟨us, h.map (f := admF (up l n) n v) (fun _ => rfl) (fun _ => rfl)⟩
/-! a new node -/
def insL (l : List Item) (it : Item) : List Item := l.takeWhile (fun x => lt x.f0 it.f0) ++ it :: l.dropWhile (fun x => lt x.f0 it.f0)
theorem look_ins (a b : List Item) (it : Item) (n : ByteArray) (h : look (a ++ b) it.f0 = none) : look (a ++ it :: b) n = if n = it.f0 then some it else look (a ++ b) n := by
  unfold look at h ⊢
  rw [List.find?_append] at h ⊢
  rw [List.find?_append, List.find?_cons]
  by_cases e : it.f0 = n
  · subst e
    cases ha : a.find? (fun x => decide (x.f0 = it.f0)) with
    | some y => rw [ha] at h; simp at h
    | none => simp
  · have e' : n ≠ it.f0 := fun q => e q.symm
    simp [e, e']
theorem insL_eq (l : List Item) (it : Item) : ∃ a b, l = a ++ b ∧ insL l it = a ++ it :: b ∧ (∀ x ∈ a, lt x.f0 it.f0 = true) ∧ (∀ x t, b = x :: t → lt x.f0 it.f0 = false) := by
  refine ⟨l.takeWhile (fun x => lt x.f0 it.f0), l.dropWhile (fun x => lt x.f0 it.f0), (List.takeWhile_append_dropWhile).symm, rfl, fun x hx => ?_, fun x t e => ?_⟩
  · exact List.all_eq_true.1 (List.all_takeWhile (p := fun x : Item => lt x.f0 it.f0) (l := l)) x hx
  · have := List.head?_dropWhile_not (fun x : Item => lt x.f0 it.f0) l
    rw [e] at this
    simpa using this
theorem csum_ins (c : Comp) (a b : List Item) (it : Item) (n : ByteArray) : csum c (a ++ it :: b) n = csum c (a ++ b) n + if it.f1 = n then c.of it.f4 else 0 := by
  unfold csum
  rw [sumBy_append, sumBy_append, sumBy_cons]; omega
theorem ins_right {l : List Item} (hl : RightP l) {it : Item} (hi : ItemOK it) (h0 : ∀ c : Comp, c.of it.f3 = 0 ∧ c.of it.f4 = 0) (hn : look l it.f0 = none)
    (hp : it.f1 = ⟨#[]⟩ ∨ ∃ y, look l it.f1 = some y) (hlen : l.length < 120) : RightP (insL l it) := by
  obtain ⟨a, b, e, e', ha, hb⟩ := insL_eq l it
  rw [e']
  subst e
  have hlk := fun n => look_ins a b it n hn
  have hmem : ∀ x, x ∈ a ++ it :: b ↔ x = it ∨ x ∈ a ++ b := fun x => by simp; constructor <;> (intro h; rcases h with h | h | h <;> simp [h])
  have hnew : ∀ m y, look (a ++ b) m = some y → m ≠ it.f0 := fun m y h q => by rw [q, hn] at h; cases h
  have hne : it.f0 ≠ ⟨#[]⟩ := hi.name
  have hpar : ∀ x ∈ a ++ b, x.f1 ≠ it.f0 := fun x hx q => by
    rcases hl.par x hx with h | ⟨y, h⟩
    · exact hne (q.symm.trans h)
    · exact hnew _ _ h q
  have hch : ∀ {n us}, Chain (a ++ b) n us → n ≠ it.f0 → Chain (a ++ it :: b) n us := by
    intro n us h
    induction h with
    | nil h => intro q; exact .nil (by rw [hlk, if_neg q]; exact h)
    | @cons n x us h k ih =>
      intro q
      exact .cons (x := x) (by rw [hlk, if_neg q]; exact h) (ih (hpar x (look_mem h).1))
  have hip : it.f1 ≠ it.f0 := by
    rcases hp with h | ⟨y, h⟩
    · rw [h]; exact fun q => hne q.symm
    · exact hnew _ _ h
  refine ⟨?_, ?_, ?_, ?_, ?_, ?_⟩
  · simp at hlen ⊢; omega
  · intro x hx
    rcases (hmem x).1 hx with rfl | hx
    · exact hi
    · exact hl.ok x hx
  · have hs := hl.sorted
    rw [List.pairwise_append] at hs ⊢
    obtain ⟨h1, h2, h3⟩ := hs
    have hbx : ∀ y ∈ b, lt it.f0 y.f0 = true := by
      intro y hy
      cases b with
      | nil => cases hy
      | cons x t =>
        have hx : lt it.f0 x.f0 = true := lt_total (hb x t rfl) (fun q => look_none.1 hn x (by simp) q)
        rcases List.mem_cons.1 hy with rfl | hy
        · exact hx
        · exact lt_trans hx ((List.pairwise_cons.1 h2).1 y hy)
    refine ⟨h1, List.pairwise_cons.2 ⟨hbx, h2⟩, fun x hx y hy => ?_⟩
    rcases List.mem_cons.1 hy with rfl | hy
    · exact ha x hx
    · exact h3 x hx y hy
  · intro x hx
    rcases (hmem x).1 hx with rfl | hx
    · rcases hp with h | ⟨y, h⟩
      · exact .inl h
      · exact .inr ⟨y, by rw [hlk, if_neg hip]; exact h⟩
    · rcases hl.par x hx with h | ⟨y, h⟩
      · exact .inl h
      · exact .inr ⟨y, by rw [hlk, if_neg (hpar x hx)]; exact h⟩
  · intro c x hx
    rw [csum_ins, (h0 c).2, ite_self, Int.add_zero]
    rcases (hmem x).1 hx with rfl | hx
    · rw [(h0 c).1, (h0 c).2]
      unfold csum
      rw [sumBy_zero (fun y hy => if_neg (hpar y hy))]; rfl
    · exact hl.sum c x hx
  · intro x hx
    rcases (hmem x).1 hx with rfl | hx
    · have := hch (hl.chainAll x.f1) hip
      exact ⟨_, .cons (x := x) (by rw [hlk, if_pos rfl]) this⟩
    · obtain ⟨us, h⟩ := hl.chain x hx
      exact ⟨us, hch h (fun q => look_none.1 hn x hx q)⟩
end Go.Proofs.Ytcgefpklljclgaa.Print

namespace Go.Proofs.Ytcgefpklljclgaa.Print
open Go.RowKit Go.Proofs.YtcgefpklljclgaaW.PrintWords Go.Proofs.YtcgefpklljclgaaW.PrintLast
set_option linter.unusedVariables false
set_option linter.unusedSimpArgs false
theorem ite_iff {α : Type} {p q : Prop} [Decidable p] [Decidable q] (h : p ↔ q) {a b : α} : (if p then a else b) = if q then a else b := by
  by_cases hp : p
  · rw [if_pos hp, if_pos (h.1 hp)]
  · rw [if_neg hp, if_neg (fun k => hp (h.2 k))]
/-! the document's small functions -/
theorem r10_Le_eq (a b d a' b' d' : Int) : r10_Le.f a b d a' b' d' = some (decide (LeP ⟨a, b, d⟩ ⟨a', b', d'⟩)) := by
  unfold r10_Le.f
  by_cases h0 : a ≤ a' <;> by_cases h1 : b ≤ b' <;> simp [h0, h1, leP_iff]
theorem r10_unit_eq (a : Int) : r10_unit.f a = some (decide (0 ≤ a ∧ a ≤ 1099511627776)) := by
  unfold r10_unit.f
  by_cases h0 : 0 ≤ a
  · rw [if_pos (by omega)]; simp [h0]
  · rw [if_neg (by omega)]; simp [h0]
theorem r10_MayVec_eq (a b d : Int) : r10_MayVec.f a b d = some (decide (MayP ⟨a, b, d⟩)) := by
  unfold r10_MayVec.f
  simp only [r10_unit_eq, Option.bind_some]
  by_cases h0 : 0 ≤ a ∧ a ≤ 1099511627776 <;> by_cases h1 : 0 ≤ b ∧ b ≤ 1099511627776 <;> simp [h0, h1, mayP_iff]
theorem r10_MayName_eq (n : ByteArray) : r10_MayName.f n = some (decide (n ≠ ⟨#[]⟩ ∧ n.size ≤ 24)) := by
  unfold r10_MayName.f
  by_cases h : n = ⟨#[]⟩
  · rw [if_pos (nm_empty.2 h)]; simp [h]
  · rw [if_neg (fun q => h (nm_empty.1 q))]; simp [h]; omega
theorem r10_copied_eq (l : List Item) (h : l.length < 1000000) : r10_copied.f l = some l := by
  unfold r10_copied.f
  simp only [Option.bind_some, List.length_nil, List.nil_append]
  rw [if_pos (by omega)]
theorem r10_Find_l0 (l : List Item) (n : ByteArray) (hl : l.length < 1000000) : ∀ (d i : Nat), l.length - i = d → i ≤ l.length →
    Ev (fun k => r10_Find.l0 k l n i) (fidx (fun x : Item => x.f0.toList == n.toList) (l.drop i) i)
  | 0, i, hd, hi => by
    obtain rfl : i = l.length := by omega
    refine Ev.step (f := fun _ => some (-1)) (fun k => ?_) (by rw [List.drop_length]; exact Ev.now _)
    simp only [r10_Find.l0]
    rw [if_neg (by omega)]
  | d + 1, i, hd, hi => by
    have hlt : i < l.length := by omega
    rw [fidx_drop _ zItem l i hlt]
    have hrd : rd_T31 l (i : Int) = l.getD i zItem := by rw [rd_item, Int.toNat_natCast]
    by_cases e : (l.getD i zItem).f0.toList = n.toList
    · rw [if_pos (beq_iff_eq.2 e)]
      refine Ev.step (f := fun _ => some (i : Int)) (fun k => ?_) (Ev.now _)
      simp only [r10_Find.l0]
      rw [if_pos (by omega), if_pos (by omega), hrd, if_pos e]
    · rw [if_neg (fun q => e (beq_iff_eq.1 q))]
      refine Ev.step (f := fun k => r10_Find.l0 k l n ((i + 1 : Nat) : Int)) (fun k => ?_) (r10_Find_l0 l n hl d (i + 1) (by omega) (by omega))
      simp only [r10_Find.l0]
      rw [if_pos (by omega), if_pos (by omega), hrd, if_neg e, w64 (by omega) (by omega)]
      rfl
theorem r10_Find_ev (l : List Item) (n : ByteArray) (hl : l.length < 1000000) : Ev (fun k => r10_Find.f k l n) (fnd l n) := r10_Find_l0 l n hl _ 0 rfl (by omega)
theorem r10_Up_l0 (l : List Item) (hl : l.length < 1000000) : ∀ (m : Nat) (n : ByteArray) (out : List ByteArray), out.length + m = l.length + 1 →
    Ev (fun k => r10_Up.l0 k l out (fnd l n)) (out ++ upGo l m n)
  | 0, n, out, hm => by
    rw [upGo.eq_1, List.append_nil]
    refine Ev.step (f := fun _ => some out) (fun k => ?_) (Ev.now _)
    simp only [r10_Up.l0]
    by_cases h : 0 ≤ fnd l n
    · rw [if_pos h, if_neg (by omega)]
    · rw [if_neg h]
  | m + 1, n, out, hm => by
    cases h : look l n with
    | none =>
      rw [upGo_none h, List.append_nil]
      refine Ev.step (f := fun _ => some out) (fun k => ?_) (Ev.now _)
      simp only [r10_Up.l0]
      rw [fnd_none h, if_neg (by omega)]
    | some x =>
      rw [upGo_some h]
      have h0 := fnd_ge.2 ⟨x, h⟩
      have h1 := fnd_lt l n
      obtain ⟨hx, hn⟩ := look_mem h
      refine Ev.step (f := fun k => (r10_Find.f k l x.f1).bind fun t => r10_Up.l0 k l (out ++ [n]) t) (fun k => ?_) (Ev.bind (r10_Find_ev l x.f1 hl) ?_)
      · simp only [r10_Up.l0]
        rw [if_pos h0, if_pos (by omega), if_pos h0, if_pos h1, if_pos (by omega), fnd_rd h, hn]
      · have := r10_Up_l0 l hl m x.f1 (out ++ [n]) (by simp; omega)
        simpa using this
theorem r10_Up_ev (l : List Item) (n : ByteArray) (hl : l.length < 1000000) : Ev (fun k => r10_Up.f k l n) (up l n) :=
  Ev.bind (r10_Find_ev l n hl) (by have := r10_Up_l0 l hl (l.length + 1) n [] (by simp); rw [List.nil_append] at this; exact this)
/-! a store at a name's place -/
theorem set_at {l : List Item} (hn : (l.map (·.f0)).Nodup) {n : ByteArray} {x : Item} (h : look l n = some x) (y : Item) :
    l.set (fnd l n).toNat y = l.map (fun z => if z.f0 = n then y else z) := by
  obtain ⟨j, h1, h2, h3, h4, h5⟩ := fnd_some h
  rw [h2, Int.toNat_natCast]
  have hx : l[j] = x := by rw [← h3]; simp [h1]
  apply List.ext_getElem (by simp)
  intro m hm hm'
  simp only [List.length_set] at hm
  rw [List.getElem_set, List.getElem_map]
  by_cases e : j = m
  · subst e
    rw [if_pos rfl, if_pos (by rw [hx]; exact h4)]
  · rw [if_neg e, if_neg]
    intro q
    have h6 : (l.map (·.f0))[j]'(by simpa using h1) = (l.map (·.f0))[m]'(by simpa using hm) := by simp [hx, h4, q]
    exact e ((List.getElem_inj hn).1 h6)
theorem fnd_map {f : Item → Item} (hf : ∀ x, (f x).f0 = x.f0) (l : List Item) (n : ByteArray) : fnd (l.map f) n = fnd l n := by
  have : ∀ (l : List Item) (i : Int), fidx (fun x : Item => x.f0.toList == n.toList) (l.map f) i = fidx (fun x : Item => x.f0.toList == n.toList) l i := by
    intro l
    induction l with
    | nil => intro i; rfl
    | cons x l ih => intro i; simp only [List.map_cons, fidx, hf, ih]
  exact this l 0
/-! letting in, as the document says -/
def admS (us : List ByteArray) (v : Vec) (x : Item) : Item := ⟨x.f0, x.f1, x.f2, x.f3, if x.f0 ∈ us then vadd x.f4 v else x.f4, x.f5⟩
def admR (l : List Item) (n : ByteArray) (v : Vec) : List Item × Int :=
  if ¬ MayP v then ([], 1) else if (look l n).isNone = true then ([], 2) else if ∀ x ∈ l, x.f0 ∈ up l n → LeP (vadd x.f4 v) x.f2 then (admL l n v, 0) else ([], 12)
theorem vadd_wrap {a b : Vec} (ha : MayP a) (hb : MayP b) : (wrap64 (a.f0 + b.f0), wrap64 (a.f1 + b.f1), wrap64 (a.f2 + b.f2)) = ((vadd a b).f0, (vadd a b).f1, (vadd a b).f2) := by
  have a0 := ha .cpu; have a1 := ha .mem; have a2 := ha .pods
  have b0 := hb .cpu; have b1 := hb .mem; have b2 := hb .pods
  simp only [Comp.of] at a0 a1 a2 b0 b1 b2
  rw [w64 (by omega) (by omega), w64 (by omega) (by omega), w64 (by omega) (by omega)]
  rfl
theorem r10_Add_eq {a b : Vec} (ha : MayP a) (hb : MayP b) : r10_Add.f a.f0 a.f1 a.f2 b.f0 b.f1 b.f2 = some ((vadd a b).f0, (vadd a b).f1, (vadd a b).f2) := by
  unfold r10_Add.f; rw [vadd_wrap ha hb]
theorem look_admS (us : List ByteArray) (v : Vec) (l : List Item) (n : ByteArray) : look (l.map (admS us v)) n = (look l n).map (admS us v) := look_map (f := admS us v) (fun _ => rfl) l n
theorem drop_cons {us : List ByteArray} {i : Nat} (h : i < us.length) : us.drop i = rdOf ByteArray.empty us i :: us.drop (i + 1) := by
  rw [List.drop_eq_getElem_cons h]; simp [rdOf, h]
theorem take_snoc_ {us : List ByteArray} {i : Nat} (h : i < us.length) : us.take (i + 1) = us.take i ++ [rdOf ByteArray.empty us i] := by
  rw [List.take_succ_eq_append_getElem h]; simp [rdOf, h]
theorem fnd_admS (us : List ByteArray) (v : Vec) (l : List Item) (n : ByteArray) : fnd (l.map (admS us v)) n = fnd l n := fnd_map (f := admS us v) (fun _ => rfl) l n
theorem nodup_admS {us : List ByteArray} {v : Vec} {l : List Item} (h : (l.map (·.f0)).Nodup) : ((l.map (admS us v)).map (·.f0)).Nodup := by
  rw [List.map_map]; exact h
theorem r10_Admit_l0 {l : List Item} (hl : RightP l) (n : ByteArray) {v : Vec} (hv : MayP v) (hin : ∃ x, look l n = some x) : ∀ (d i : Nat), (up l n).length - i = d → i ≤ (up l n).length →
    Ev (fun k => r10_Admit.l0 k n (up l n) (l.map (admS ((up l n).take i) v)) i v.f0 v.f1 v.f2) (if ∀ x ∈ l, x.f0 ∈ (up l n).drop i → LeP (vadd x.f4 v) x.f2 then (admL l n v, 0) else ([], 12))
  | 0, i, hd, hi => by
    obtain rfl : i = (up l n).length := by omega
    rw [List.drop_length, List.take_length, if_pos (by simp)]
    obtain ⟨x, hx⟩ := hin
    obtain ⟨hm, hxn⟩ := look_mem hx
    have hlk : look (l.map (admS (up l n) v)) n = some (admS (up l n) v x) := by rw [look_admS, hx]; rfl
    have h0 : 0 ≤ fnd l n := fnd_ge.2 ⟨x, hx⟩
    have h1 : fnd l n < l.length := fnd_lt l n
    obtain ⟨K, hK⟩ := r10_Find_ev (l.map (admS (up l n) v)) n (by rw [List.length_map]; have := hl.len; omega)
    dsimp only at hK
    refine ⟨K + 1, fun k hk => ?_⟩
    obtain ⟨k, rfl⟩ : ∃ m, k = m + 1 := ⟨k - 1, by omega⟩
    have hrd := fnd_rd hlk
    rw [fnd_admS] at hrd
    simp only [r10_Admit.l0]
    rw [if_neg (by omega), hK k (by omega), fnd_admS]
    simp only [Option.bind_some]
    rw [if_pos h0, if_pos (by rw [List.length_map]; omega), hrd, r10_Add_eq (a := (admS (up l n) v x).f3) (hl.ok x hm).own hv]
    simp only [Option.bind_some]
    have hset := set_at (nodup_admS (us := up l n) (v := v) hl.nodup) hlk
    rw [fnd_admS] at hset
    rw [hset, List.map_map]
    congr 2
    unfold admL
    refine List.map_congr_left fun z hz => ?_
    simp only [Function.comp, admF]
    by_cases e : z.f0 = n
    · obtain rfl : z = x := hl.eq_of hz hm (e.trans hxn.symm)
      rw [if_pos (by exact e), if_pos e]
      rfl
    · rw [if_neg (by exact e), if_neg e]
      rfl
  | d + 1, i, hd, hi => by
    have hlt : i < (up l n).length := by omega
    have hc := hl.chainAll n
    have hnd := hc.nodup
    rw [drop_cons hlt]
    have hu : rdOf ByteArray.empty (up l n) i ∈ up l n := by simp [rdOf, hlt]
    obtain ⟨x, hx⟩ := hc.mem_look hu
    obtain ⟨hm, hxn⟩ := look_mem hx
    have hnot : x.f0 ∉ (up l n).take i := by
      rw [hxn]
      rw [← List.take_append_drop i (up l n), drop_cons hlt, List.nodup_append] at hnd
      exact fun q => hnd.2.2 _ q _ (by simp) rfl
    generalize hU : rdOf ByteArray.empty (up l n) i = u at *
    have hlk : look (l.map (admS ((up l n).take i) v)) u = some (admS ((up l n).take i) v x) := by rw [look_admS, hx]; rfl
    have hsame : admS ((up l n).take i) v x = x := by unfold admS; rw [if_neg hnot]
    rw [hsame] at hlk
    have h0 : 0 ≤ fnd l u := fnd_ge.2 ⟨x, hx⟩
    have h1 : fnd l u < l.length := fnd_lt l u
    have hrd := fnd_rd hlk
    have hset := set_at (nodup_admS (us := (up l n).take i) (v := v) hl.nodup) hlk
    rw [fnd_admS] at hrd
    rw [fnd_admS] at hset
    obtain ⟨K, hK⟩ := r10_Find_ev (l.map (admS ((up l n).take i) v)) u (by rw [List.length_map]; have := hl.len; omega)
    obtain ⟨K', hK'⟩ := r10_Admit_l0 hl n hv hin d (i + 1) (by omega) (by omega)
    dsimp only at hK hK'
    refine ⟨K + K' + 1, fun k hk => ?_⟩
    obtain ⟨k, rfl⟩ : ∃ m, k = m + 1 := ⟨k - 1, by omega⟩
    have hup : (up l n).length ≤ l.length := hc.len
    have hlen := hl.len
    simp only [r10_Admit.l0]
    rw [if_pos (by omega), if_pos (by omega), hU, hK k (by omega), fnd_admS]
    simp only [Option.bind_some]
    rw [if_pos h0, if_pos (by rw [List.length_map]; omega), hrd, r10_Add_eq (a := x.f4) (hl.ok x hm).sub hv]
    simp only [Option.bind_some]
    rw [hset, List.map_map]
    have hnew : (l.map ((fun z : Item => if z.f0 = u then (⟨x.f0, x.f1, ⟨x.f2.f0, x.f2.f1, x.f2.f2⟩, ⟨x.f3.f0, x.f3.f1, x.f3.f2⟩, ⟨(vadd x.f4 v).f0, (vadd x.f4 v).f1, (vadd x.f4 v).f2⟩, x.f5⟩ : Item) else z) ∘ admS ((up l n).take i) v)) = l.map (admS ((up l n).take (i + 1)) v) := by
      refine List.map_congr_left fun z hz => ?_
      simp only [Function.comp]
      rw [take_snoc_ hlt, hU]
      by_cases e : z.f0 = u
      · obtain rfl : z = x := hl.eq_of hz hm (e.trans hxn.symm)
        rw [if_pos (by exact e)]
        unfold admS
        rw [if_pos (by simp [e])]
      · rw [if_neg (by exact e)]
        unfold admS
        simp [e]
    rw [hnew]
    have hlk2 : look (l.map (admS ((up l n).take (i + 1)) v)) u = some (admS ((up l n).take (i + 1)) v x) := by rw [look_admS, hx]; rfl
    have hrd2 := fnd_rd hlk2
    rw [fnd_admS] at hrd2
    have hx2 : admS ((up l n).take (i + 1)) v x = ⟨x.f0, x.f1, x.f2, x.f3, vadd x.f4 v, x.f5⟩ := by unfold admS; rw [if_pos (by rw [take_snoc_ hlt, hU, hxn]; simp)]
    rw [hrd2, hx2, r10_Le_eq]
    simp only [Option.bind_some]
    by_cases hfit : LeP (vadd x.f4 v) x.f2
    · rw [if_pos (by exact decide_eq_true hfit), w64 (by omega) (by omega)]
      have h2 := hK' k (by omega)
      rw [show ((i : Int) + 1) = ((i + 1 : Nat) : Int) from by omega, h2]
      congr 1
      refine ite_iff ⟨fun q z hz hzm => ?_, fun q z hz hzm => q z hz (by simp [hzm])⟩
      rcases List.mem_cons.1 hzm with e | hzm
      · obtain rfl : z = x := hl.eq_of hz hm (e.trans hxn.symm)
        exact hfit
      · exact q z hz hzm
    · rw [if_neg (by simpa using hfit), if_neg (fun q => hfit (q x hm (by rw [hxn]; simp)))]
      rfl
theorem r10_Admit_ev {l : List Item} (hl : RightP l) (n : ByteArray) (v : Vec) : Ev (fun k => r10_Admit.f k l n v.f0 v.f1 v.f2) (admR l n v) := by
  have hlen := hl.len
  refine Ev.bind (r10_Up_ev l n (by omega)) ?_
  have hmv : r10_MayVec.f v.f0 v.f1 v.f2 = some (decide (MayP v)) := r10_MayVec_eq _ _ _
  unfold admR
  by_cases hv : MayP v
  · rw [if_neg (by simpa using hv)]
    cases hx : look l n with
    | none =>
      rw [if_pos (show (none : Option Item).isNone = true from rfl)]
      refine Ev.congr (fun k => ?_) (Ev.now _)
      rw [hmv]
      simp only [Option.bind_some]
      rw [if_pos (by exact decide_eq_true hv), show up l n = [] from upGo_none hx _]
      rfl
    | some x =>
      rw [if_neg (by simp)]
      have h := r10_Admit_l0 hl n hv ⟨x, hx⟩ _ 0 rfl (by omega)
      rw [List.take_zero, List.drop_zero, show l.map (admS [] v) = l from by rw [show admS [] v = id from by funext z; simp [admS]]; simp] at h
      refine Ev.congr (fun k => ?_) h
      rw [hmv]
      simp only [Option.bind_some]
      have : (up l n).length ≠ 0 := by have := up_self hx; intro q; rw [List.length_eq_zero_iff.1 q] at this; cases this
      rw [if_pos (by exact decide_eq_true hv), if_neg (by omega), r10_copied_eq l (by omega)]
      rfl
  · rw [if_pos hv]
    refine Ev.congr (fun k => ?_) (Ev.now _)
    rw [hmv]
    simp only [Option.bind_some]
    rw [if_neg (by simpa using hv)]
    rfl
/-! a new node, as the document says -/
def zVec : Vec := ⟨0, 0, 0⟩
def newItem (n p : ByteArray) (v : Vec) : Item := ⟨n, p, v, zVec, zVec, 1⟩
def creR (l : List Item) (n p : ByteArray) (v : Vec) : List Item × Int :=
  if ¬ ((n ≠ ⟨#[]⟩ ∧ n.size ≤ 24) ∧ MayP v) then ([], 1) else if (look l n).isSome = true then ([], 3) else if p ≠ ⟨#[]⟩ ∧ (look l p).isNone = true then ([], 2) else if 120 ≤ l.length then ([], 4) else (insL l (newItem n p v), 0)
theorem insL_cons (x : Item) (l : List Item) (it : Item) : insL (x :: l) it = if lt x.f0 it.f0 = true then x :: insL l it else it :: x :: l := by
  unfold insL
  rw [List.takeWhile_cons, List.dropWhile_cons]
  cases lt x.f0 it.f0 <;> simp
theorem r10_Create_l0 (n p : ByteArray) (v : Vec) (b : List Item) : ∀ (a l : List Item), l = a ++ b → l.length < 1000000 → Ev (fun k => r10_Create.l0 k l n p a.length v.f0 v.f1 v.f2) (a ++ insL b (newItem n p v), 0) := by
  induction b with
  | nil =>
    rintro a l rfl hl
    simp only [List.append_nil] at hl ⊢
    refine Ev.step (f := fun _ => some (a ++ [newItem n p v], 0)) (fun k => ?_) (Ev.now _)
    simp only [r10_Create.l0]
    rw [if_neg (by omega), if_pos (by omega), if_pos (by omega), Int.toNat_natCast, List.take_length, r10_copied_eq a (by omega)]
    simp only [Option.bind_some, List.drop_length, List.length_append, List.length_cons, List.length_nil]
    rw [if_pos (by omega), if_pos (by omega), List.append_nil]
    rfl
  | cons x b ih =>
    rintro a l rfl hl
    have hlen : (a ++ x :: b).length = a.length + b.length + 1 := by simp; omega
    have hrd : rd_T31 (a ++ x :: b) (a.length : Int) = x := by rw [rd_item, Int.toNat_natCast]; simp
    rw [insL_cons]
    by_cases e : lt x.f0 n = true
    · rw [if_pos (by exact e)]
      have h := ih (a ++ [x]) (a ++ x :: b) (by simp) hl
      refine Ev.step (f := fun k => r10_Create.l0 k (a ++ x :: b) n p (a ++ [x]).length v.f0 v.f1 v.f2) (fun k => ?_) (by simpa using h)
      simp only [r10_Create.l0]
      rw [if_pos (by omega), if_pos (by omega), hrd, if_pos (by exact e), w64 (by omega) (by omega)]
      simp
    · rw [if_neg (by exact e)]
      refine Ev.step (f := fun _ => some (a ++ newItem n p v :: x :: b, 0)) (fun k => ?_) (Ev.now _)
      simp only [r10_Create.l0]
      rw [if_pos (by omega), if_pos (by omega), hrd, if_neg (by exact e), if_pos (by omega), Int.toNat_natCast, List.take_left, r10_copied_eq a (by omega)]
      simp only [Option.bind_some, List.drop_left, List.length_append, List.length_cons, List.length_nil]
      rw [if_pos (by omega), if_pos (by omega)]
      simp
      rfl
theorem r10_Create_ev {l : List Item} (hl : l.length < 1000000) (n p : ByteArray) (v : Vec) : Ev (fun k => r10_Create.f k l n p v.f0 v.f1 v.f2) (creR l n p v) := by
  have hmv : r10_MayVec.f v.f0 v.f1 v.f2 = some (decide (MayP v)) := r10_MayVec_eq _ _ _
  have hno : ∀ e : Int, ((r10_no.f e).bind fun bt => some (bt.1, bt.2)) = some (([] : List Item), e) := fun _ => rfl
  have hj1 : ∀ b, Ev (fun k => r10_Create.j1 k l n p b v.f0 v.f1 v.f2) (if b = true then ([], 2) else if 120 ≤ l.length then ([], 4) else (insL l (newItem n p v), 0)) := by
    intro b
    cases b with
    | true =>
      refine Ev.step (f := fun _ => some ([], 2)) (fun k => ?_) (Ev.now _)
      simp only [r10_Create.j1, if_true]
      exact hno 2
    | false =>
      simp only [Bool.false_eq_true, if_false]
      by_cases h : 120 ≤ l.length
      · rw [if_pos h]
        refine Ev.step (f := fun _ => some ([], 4)) (fun k => ?_) (Ev.now _)
        simp only [r10_Create.j1, Bool.false_eq_true, if_false]
        rw [if_pos (by omega)]; exact hno 4
      · rw [if_neg h]
        refine Ev.step (f := fun k => r10_Create.l0 k l n p 0 v.f0 v.f1 v.f2) (fun k => ?_) (by have := r10_Create_l0 n p v l [] l rfl hl; simpa using this)
        simp only [r10_Create.j1, Bool.false_eq_true, if_false]
        rw [if_neg (by omega)]
  have hj0 : ∀ b, Ev (fun k => r10_Create.j0 k l n p b v.f0 v.f1 v.f2) (if b = true then ([], 1) else if (look l n).isSome = true then ([], 3) else if p ≠ ⟨#[]⟩ ∧ (look l p).isNone = true then ([], 2) else if 120 ≤ l.length then ([], 4) else (insL l (newItem n p v), 0)) := by
    intro b
    cases b with
    | true =>
      refine Ev.step (f := fun _ => some ([], 1)) (fun k => ?_) (Ev.now _)
      simp only [r10_Create.j0, if_true]
      exact hno 1
    | false =>
      simp only [Bool.false_eq_true, if_false]
      refine Ev.step (f := fun k => (r10_Find.f k l n).bind fun t => if t ≥ 0 then some ([], 3) else if p.toList = ([] : List UInt8) then r10_Create.j1 k l n p false v.f0 v.f1 v.f2 else (r10_Find.f k l p).bind fun t => r10_Create.j1 k l n p (decide (t < 0)) v.f0 v.f1 v.f2) (fun k => ?_) (Ev.bind (r10_Find_ev l n hl) ?_)
      · simp only [r10_Create.j0, Bool.false_eq_true, if_false]; rfl
      · cases hn : look l n with
        | some x =>
          refine Ev.congr (fun k => ?_) (Ev.now _)
          rw [if_pos (fnd_ge.2 ⟨x, hn⟩)]; rfl
        | none =>
          simp only [Option.isSome_none, Bool.false_eq_true, if_false]
          by_cases hp : p = ⟨#[]⟩
          · have h := hj1 false
            simp only [Bool.false_eq_true, if_false] at h
            rw [if_neg (fun q => q.1 hp)]
            refine Ev.congr (fun k => ?_) h
            rw [fnd_none hn, if_neg (by omega), if_pos (nm_empty.2 hp)]
          · have h := hj1 (decide (fnd l p < 0))
            refine Ev.congr (g := fun k => _) (f := fun k => (r10_Find.f k l p).bind fun t => r10_Create.j1 k l n p (decide (t < 0)) v.f0 v.f1 v.f2) (fun k => ?_) (Ev.bind (r10_Find_ev l p hl) ?_)
            · rw [fnd_none hn, if_neg (by omega), if_neg (fun q => hp (nm_empty.1 q))]
            · have e : (p ≠ ⟨#[]⟩ ∧ (look l p).isNone = true) ↔ (decide (fnd l p < 0) = true) := by
                rw [decide_eq_true_iff, fnd_neg]; simp [hp]
              rw [ite_iff e]; exact h
  unfold creR
  by_cases hn : n ≠ ⟨#[]⟩ ∧ n.size ≤ 24
  · have h := hj0 (!decide (MayP v))
    rw [ite_iff (q := (!decide (MayP v)) = true) (by simp [hn])]
    refine Ev.congr (fun k => ?_) h
    unfold r10_Create.f
    rw [r10_MayName_eq, hmv]
    simp only [Option.bind_some]
    rw [if_pos (by exact decide_eq_true hn)]
  · have h := hj0 true
    rw [if_pos (fun q => hn q.1)]
    rw [if_pos rfl] at h
    refine Ev.congr (fun k => ?_) h
    unfold r10_Create.f
    rw [r10_MayName_eq]
    simp only [Option.bind_some]
    rw [if_neg (by simpa using hn)]
theorem creR_right {l : List Item} (hl : RightP l) {n p : ByteArray} {v : Vec} (h : (creR l n p v).2 = 0) :
    (creR l n p v).1 = insL l (newItem n p v) ∧ RightP (insL l (newItem n p v)) ∧ look l n = none ∧ l.length < 120 ∧ n ≠ ⟨#[]⟩ ∧ n.size ≤ 24 ∧ MayP v ∧ (p = ⟨#[]⟩ ∨ ∃ y, look l p = some y) := by
  unfold creR at h ⊢
  split at h
  · simp at h
  rename_i h1
  split at h
  · simp at h
  rename_i h2
  split at h
  · simp at h
  rename_i h3
  split at h
  · simp at h
  rename_i h4
  rw [if_neg h1, if_neg h2, if_neg h3, if_neg h4]
  obtain ⟨⟨h5, h6⟩, h7⟩ := Classical.not_not.1 h1
  have hn : look l n = none := by cases q : look l n with
    | none => rfl
    | some x => rw [q] at h2; simp at h2
  have hp : p = ⟨#[]⟩ ∨ ∃ y, look l p = some y := by
    by_cases e : p = ⟨#[]⟩
    · exact .inl e
    · right
      cases q : look l p with
      | none => rw [q] at h3; exact absurd ⟨e, rfl⟩ h3
      | some y => exact ⟨y, rfl⟩
  have hz : ∀ c : Comp, c.of zVec = 0 := fun c => by cases c <;> rfl
  refine ⟨rfl, ins_right hl ⟨h5, h6, h7, fun c => ?_, fun c => ?_, fun c => ?_, ?_⟩ (fun c => ⟨hz c, hz c⟩) hn hp (by omega), hn, by omega, h5, h6, h7, hp⟩
  · show 0 ≤ c.of zVec ∧ c.of zVec ≤ _; rw [hz]; omega
  · show 0 ≤ c.of zVec ∧ c.of zVec ≤ _; rw [hz]; omega
  · show c.of zVec ≤ c.of v; rw [hz]; exact (h7 c).1
  · show (1 : Int) ≤ 1 ∧ (1 : Int) ≤ _; omega
theorem mem_insL {l : List Item} {it x : Item} : x ∈ insL l it ↔ x = it ∨ x ∈ l := by
  obtain ⟨a, b, e, e', _, _⟩ := insL_eq l it
  rw [e', e]; simp; constructor <;> (intro h; rcases h with h | h | h <;> simp [h])
theorem len_insL (l : List Item) (it : Item) : (insL l it).length = l.length + 1 := by
  obtain ⟨a, b, e, e', _, _⟩ := insL_eq l it
  rw [e', e]; simp; omega
theorem admR_right {l : List Item} (hl : RightP l) {n : ByteArray} {v : Vec} (h : (admR l n v).2 = 0) : (admR l n v).1 = admL l n v ∧ RightP (admL l n v) ∧ MayP v ∧ (∃ x, look l n = some x) ∧ ∀ x ∈ l, x.f0 ∈ up l n → LeP (vadd x.f4 v) x.f2 := by
  unfold admR at h ⊢
  split at h
  · simp at h
  rename_i h1
  split at h
  · simp at h
  rename_i h2
  split at h
  · rename_i h3
    rw [if_neg h1, if_neg h2, if_pos h3]
    have hv : MayP v := Classical.not_not.1 h1
    have hin : ∃ x, look l n = some x := by
      cases q : look l n with
      | none => rw [q] at h2; simp at h2
      | some x => exact ⟨x, rfl⟩
    have hsub : ∀ x ∈ l, x.f0 ∈ up l n → MayP (vadd x.f4 v) := fun x hx hm c => by
      have a := (hl.ok x hx).sub c; have b := hv c; have d := h3 x hx hm c; have e := (hl.ok x hx).lim c
      rw [of_vadd] at d ⊢; omega
    refine ⟨rfl, adm_right hl v hin (fun x hx e c => ?_) hsub h3, hv, hin, h3⟩
    have hm : x.f0 ∈ up l n := by obtain ⟨y, hy⟩ := hin; rw [e]; exact up_self hy
    have a := (hl.ok x hx).own c; have b := hv c; have d := hsub x hx hm c; have f := hl.sum c x hx
    have g : 0 ≤ csum c l x.f0 := sumBy_nonneg fun y hy => by
      split
      · exact ((hl.ok y hy).sub c).1
      · omega
    rw [of_vadd] at d ⊢; omega
  · simp at h
end Go.Proofs.Ytcgefpklljclgaa.Print

namespace Go.Proofs.Ytcgefpklljclgaa.Print
open Go.RowKit Go.Proofs.YtcgefpklljclgaaW.PrintWords Go.Proofs.YtcgefpklljclgaaW.PrintLast
set_option linter.unusedVariables false
set_option linter.unusedSimpArgs false
/-! trees made by numbers -/
theorem u8_bd {x : Int} (h : (Lit.int .u8 x).wf = true) : 0 ≤ x ∧ x ≤ 255 := by
  simp only [Lit.wf, Bool.and_eq_true, decide_eq_true_eq] at h
  exact h
def Bytes (ns : List Int) : Prop := ∀ x ∈ ns, 0 ≤ x ∧ x ≤ 255
theorem Bytes.rd {ns : List Int} (h : Bytes ns) (i : Int) : 0 ≤ rd ns i ∧ rd ns i ≤ 255 := by
  unfold Go.Proofs.YtcgefpklljclgaaW.PrintWords.rd
  rw [List.getD_eq_getElem?_getD]
  cases e : ns[i.toNat]? with
  | none => simp
  | some x => exact h x (List.mem_of_getElem? e)
/-- a name of one byte -/
def one (c : Int) : ByteArray := strOfNums [c]
structure MadeP (l : List Item) : Prop where
  right : RightP l
  len : l.length ≤ 24
  name : ∀ x ∈ l, ∃ c : Int, 97 ≤ c ∧ c ≤ 120 ∧ x.f0 = one c
  ver : ∀ x ∈ l, x.f5 = 1
  lim : ∀ x ∈ l, ∀ c : Comp, 20 ≤ c.of x.f2 ∧ c.of x.f2 ≤ 275
theorem made_nil : MadeP [] := ⟨right_nil, by simp, by simp, by simp, by simp⟩
theorem made_ins {l : List Item} (h : MadeP l) {n p : ByteArray} {v : Vec} {c : Int} (hc : 97 ≤ c ∧ c ≤ 120) (hn : n = one c) (hv : ∀ c : Comp, 20 ≤ c.of v ∧ c.of v ≤ 275) (hl : l.length < 24) (hr : RightP (insL l (newItem n p v))) : MadeP (insL l (newItem n p v)) where
  right := hr
  len := by rw [len_insL]; omega
  name := fun x hx => by
    rcases mem_insL.1 hx with rfl | hx
    · exact ⟨c, hc.1, hc.2, hn⟩
    · exact h.name x hx
  ver := fun x hx => by
    rcases mem_insL.1 hx with rfl | hx
    · rfl
    · exact h.ver x hx
  lim := fun x hx => by
    rcases mem_insL.1 hx with rfl | hx
    · exact hv
    · exact h.lim x hx
theorem made_adm {l : List Item} (h : MadeP l) {n : ByteArray} {v : Vec} (hr : RightP (admL l n v)) : MadeP (admL l n v) where
  right := hr
  len := by unfold admL; rw [List.length_map]; exact h.len
  name := fun x hx => by
    obtain ⟨y, hy, rfl⟩ := List.mem_map.1 hx
    exact h.name y hy
  ver := fun x hx => by
    obtain ⟨y, hy, rfl⟩ := List.mem_map.1 hx
    exact h.ver y hy
  lim := fun x hx => by
    obtain ⟨y, hy, rfl⟩ := List.mem_map.1 hx
    exact h.lim y hy
def MakesFrom (ns : List Int) (i : Int) : Prop := ∀ l, MadeP l → ∃ r, Ev (fun k => law12_Make.l0 k ns l i) r ∧ MadeP r
theorem tmod_in {a b : Int} (ha : 0 ≤ a) (hb : 0 < b) : 0 ≤ a.tmod b ∧ a.tmod b < b := by
  rw [Int.tmod_eq_emod_of_nonneg ha]; exact ⟨Int.emod_nonneg _ (by omega), Int.emod_lt_of_pos _ hb⟩
theorem tdiv_in {a b : Int} (ha : 0 ≤ a) (hb : 0 < b) : 0 ≤ a.tdiv b ∧ a.tdiv b ≤ a := by
  rw [Int.tdiv_eq_ediv_of_nonneg ha]; exact ⟨Int.ediv_nonneg ha (by omega), Int.ediv_le_self _ ha⟩
theorem made_j3 {ns : List Int} (hb : Bytes ns) (hs : ns.length ≤ 1000) {i : Int} (h0 : 0 ≤ i) (h2 : i + 2 < ns.length) (ih : MakesFrom ns (i + 3)) {l : List Item} (h : MadeP l) (hl : l.length < 24) (p : ByteArray) :
    ∃ r, Ev (fun k => law12_Make.j3 k ns l i p) r ∧ MadeP r := by
  have b1 := hb.rd (i + 1)
  have b2 := hb.rd (i + 2)
  have hlen := h.right.len
  have hnm : (wrap64 (97 + (Int.tmod (wrap64 ((l.length : Int) * 5)) 24))) % 256 = 97 + ((l.length : Int) * 5) % 24 := by
    rw [w64 (n := (l.length : Int) * 5) (by omega) (by omega), Int.tmod_eq_emod_of_nonneg (by omega), w64 (by omega) (by omega)]; omega
  generalize hc : 97 + ((l.length : Int) * 5) % 24 = c at hnm
  have hcb : 97 ≤ c ∧ c ≤ 120 := by omega
  have hlim : wrap64 (20 + wrap64 (rd ns (i + 1))) = 20 + rd ns (i + 1) := by rw [w64 (n := rd ns (i + 1)) (by omega) (by omega), w64 (by omega) (by omega)]
  obtain ⟨K, hK⟩ := r10_Create_ev (l := l) (by omega) (one c) p ⟨20 + rd ns (i + 1), 20 + rd ns (i + 1), 20 + rd ns (i + 1)⟩
  dsimp only at hK
  have hw1 : wrap64 (i + 1) = i + 1 := w64 (by omega) (by omega)
  have hw2 : wrap64 (i + 2) = i + 2 := w64 (by omega) (by omega)
  have hw3 : wrap64 (i + 3) = i + 3 := w64 (by omega) (by omega)
  have hr2 : wrap64 (rd ns (i + 2)) = rd ns (i + 2) := w64 (by omega) (by omega)
  by_cases hE : (creR l (one c) p ⟨20 + rd ns (i + 1), 20 + rd ns (i + 1), 20 + rd ns (i + 1)⟩).2 = 0
  · obtain ⟨e1, hR, hno, -, -, -, hv, -⟩ := creR_right h.right hE
    have hm := made_ins h (p := p) hcb rfl (v := ⟨20 + rd ns (i + 1), 20 + rd ns (i + 1), 20 + rd ns (i + 1)⟩) (fun c => by cases c <;> (simp only [Comp.of]; omega)) hl hR
    generalize hL : insL l (newItem (one c) p ⟨20 + rd ns (i + 1), 20 + rd ns (i + 1), 20 + rd ns (i + 1)⟩) = l1 at *
    have hl1 : 0 < l1.length := by rw [← hL, len_insL]; omega
    have hd := tdiv_in (a := rd ns (i + 2)) (b := 16) (by omega) (by omega)
    have hw4 : wrap64 (Int.tdiv (rd ns (i + 2)) 16) = Int.tdiv (rd ns (i + 2)) 16 := w64 (by omega) (by omega)
    have hq := tmod_in (a := Int.tdiv (rd ns (i + 2)) 16) (b := (l1.length : Int)) hd.1 (by omega)
    generalize hJ : Int.tmod (Int.tdiv (rd ns (i + 2)) 16) (l1.length : Int) = j at *
    obtain ⟨v, hv'⟩ : ∃ v : Vec, v = ⟨Int.tmod (rd ns (i + 2)) 16, wrap64 (Int.tdiv (Int.tmod (rd ns (i + 2)) 16) 2), Int.tmod (Int.tmod (rd ns (i + 2)) 16) 3⟩ := ⟨_, rfl⟩
    obtain ⟨K2, hK2⟩ := r10_Admit_ev hm.right (rd_T31 l1 j).f0 v
    dsimp only at hK2
    have main : ∀ r, Ev (fun k => law12_Make.l0 k ns (if (admR l1 (rd_T31 l1 j).f0 v).2 = 0 then (admR l1 (rd_T31 l1 j).f0 v).1 else l1) (i + 3)) r → Ev (fun k => law12_Make.j3 k ns l i p) r := by
      rintro r ⟨K3, hK3⟩
      refine ⟨K + K2 + K3 + 1, fun k hk => ?_⟩
      dsimp only at hK3
      obtain ⟨k, rfl⟩ : ∃ m, k = m + 1 := ⟨k - 1, by omega⟩
      simp only [law12_Make.j3]
      rw [hw1, hw2, hw3, hnm, hlim, hr2, if_pos (by omega), if_pos (by omega)]
      rw [show strOfNums [c] = one c from rfl, hK k (by omega)]
      simp only [Option.bind_some]
      rw [if_pos hE, if_pos (by omega), if_pos (by omega), e1, if_neg (by omega), hw4, hJ, if_pos hq.1, if_pos hq.2]
      have := hK2 k (by omega)
      rw [hv'] at this
      rw [this]
      simp only [Option.bind_some]
      rw [← hv']
      have := hK3 k (by omega)
      by_cases q : (admR l1 (rd_T31 l1 j).f0 v).2 = 0
      · rw [if_pos q] at this ⊢; exact this
      · rw [if_neg q] at this ⊢; exact this
    by_cases q : (admR l1 (rd_T31 l1 j).f0 v).2 = 0
    · rw [if_pos q] at main
      obtain ⟨e2, hR2, -⟩ := admR_right hm.right q
      rw [e2] at main
      obtain ⟨r, hr, hM⟩ := ih _ (made_adm hm hR2)
      exact ⟨r, main r hr, hM⟩
    · rw [if_neg q] at main
      obtain ⟨r, hr, hM⟩ := ih _ hm
      exact ⟨r, main r hr, hM⟩
  · obtain ⟨r, ⟨K3, hK3⟩, hM⟩ := ih l h
    dsimp only at hK3
    refine ⟨r, ⟨K + K3 + 1, fun k hk => ?_⟩, hM⟩
    obtain ⟨k, rfl⟩ : ∃ m, k = m + 1 := ⟨k - 1, by omega⟩
    simp only [law12_Make.j3]
    rw [hw1, hw2, hw3, hnm, hlim, if_pos (by omega), if_pos (by omega)]
    rw [show strOfNums [c] = one c from rfl, hK k (by omega)]
    simp only [Option.bind_some]
    rw [if_neg hE]
    exact hK3 k (by omega)
theorem made_step {ns : List Int} (hb : Bytes ns) (hs : ns.length ≤ 1000) {i : Int} (h0 : 0 ≤ i) (h2 : i + 2 < ns.length) (ih : MakesFrom ns (i + 3)) : MakesFrom ns i := by
  intro l h
  have hw2 : wrap64 (i + 2) = i + 2 := w64 (by omega) (by omega)
  have b0 := hb.rd i
  have hr0 : wrap64 (rd ns i) = rd ns i := w64 (by omega) (by omega)
  by_cases hl : l.length < 24
  · have h3 := made_j3 hb hs h0 h2 ih h hl
    have hj2 : ∀ b, (b = true → 0 < l.length) → ∃ r, Ev (fun k => law12_Make.j2 k ns l i (rd ns i) ⟨#[]⟩ b) r ∧ MadeP r := by
      intro b hbl
      cases b with
      | false =>
        obtain ⟨r, hr, hM⟩ := h3 ⟨#[]⟩
        refine ⟨r, Ev.step (fun k => ?_) hr, hM⟩
        simp only [law12_Make.j2, Bool.false_eq_true, if_false]
      | true =>
        have hpos := hbl rfl
        have hd := tdiv_in (a := rd ns i) (b := 3) (by omega) (by omega)
        have hw : wrap64 (Int.tdiv (rd ns i) 3) = Int.tdiv (rd ns i) 3 := w64 (by omega) (by omega)
        have hq := tmod_in (a := Int.tdiv (rd ns i) 3) (b := (l.length : Int)) hd.1 (by omega)
        obtain ⟨r, hr, hM⟩ := h3 (rd_T31 l (Int.tmod (Int.tdiv (rd ns i) 3) (l.length : Int))).f0
        refine ⟨r, Ev.step (fun k => ?_) hr, hM⟩
        simp only [law12_Make.j2, if_true]
        rw [hw, if_neg (by omega), if_pos hq.1, if_pos hq.2]
    have hj1 : ∃ r, Ev (fun k => law12_Make.j1 k ns l i true) r ∧ MadeP r := by
      by_cases hpos : 0 < l.length
      · obtain ⟨r, hr, hM⟩ := hj2 (decide ((Int.tmod (rd ns i) 3) > 0)) (fun _ => hpos)
        refine ⟨r, Ev.step (fun k => ?_) hr, hM⟩
        simp only [law12_Make.j1, if_true]
        rw [if_pos (by omega), if_pos (by omega), if_pos (by omega), hr0]
      · obtain ⟨r, hr, hM⟩ := hj2 false (fun q => by cases q)
        refine ⟨r, Ev.step (fun k => ?_) hr, hM⟩
        simp only [law12_Make.j1, if_true]
        rw [if_pos (by omega), if_pos (by omega), if_neg (by omega), hr0]
    obtain ⟨r, hr, hM⟩ := hj1
    refine ⟨r, Ev.step (fun k => ?_) hr, hM⟩
    simp only [law12_Make.l0]
    rw [hw2, if_pos (by omega), show decide ((l.length : Int) < 24) = true from decide_eq_true (by omega)]
  · refine ⟨l, Ev.step (f := fun k => law12_Make.j1 k ns l i false) (fun k => ?_) (Ev.step (f := fun _ => some l) (fun k => ?_) (Ev.now _)), h⟩
    · simp only [law12_Make.l0]
      rw [hw2, if_pos (by omega), show decide ((l.length : Int) < 24) = false from decide_eq_false (by omega)]
    · simp only [law12_Make.j1, Bool.false_eq_true, if_false]
theorem made_from {ns : List Int} (hb : Bytes ns) (hs : ns.length ≤ 1000) : ∀ (d : Nat) (i : Int), 0 ≤ i → i ≤ 1003 → (ns.length : Int) - i ≤ d → MakesFrom ns i
  | d, i, h0, h1, hd => by
    by_cases h2 : i + 2 < ns.length
    · cases d with
      | zero => omega
      | succ d => exact made_step hb hs h0 h2 (made_from hb hs d (i + 3) (by omega) (by omega) (by omega))
    · intro l h
      have hw2 : wrap64 (i + 2) = i + 2 := w64 (by omega) (by omega)
      refine ⟨l, Ev.step (f := fun k => law12_Make.j1 k ns l i false) (fun k => ?_) (Ev.step (f := fun _ => some l) (fun k => ?_) (Ev.now _)), h⟩
      · simp only [law12_Make.l0]
        rw [hw2, if_neg (by omega)]
      · simp only [law12_Make.j1, Bool.false_eq_true, if_false]
theorem made_all {ns : List Int} (hb : Bytes ns) (hs : ns.length ≤ 1000) : ∃ l, Ev (fun k => law12_Make.f k ns) l ∧ MadeP l := made_from hb hs ns.length 0 (by omega) (by omega) (by omega) [] made_nil
end Go.Proofs.Ytcgefpklljclgaa.Print

namespace Go.Proofs.Ytcgefpklljclgaa.Print
open Go.RowKit Go.Proofs.YtcgefpklljclgaaW.PrintWords Go.Proofs.YtcgefpklljclgaaW.PrintLast Go.Proofs.YtcgefpklljclgaaW.PrintMore
set_option linter.unusedVariables false
set_option linter.unusedSimpArgs false
/-! the program's way up -/
theorem tree_Up_l0 (l : List Item) (hl : l.length < 1000000) : ∀ (m : Nat) (n : ByteArray) (out : List ByteArray), out.length + m = l.length + 1 →
    Ev (fun k => tree_Up.l0 k l out (fnd l n)) (out ++ upGo l m n)
  | 0, n, out, hm => by
    rw [upGo.eq_1, List.append_nil]
    refine Ev.step (f := fun _ => some out) (fun k => ?_) (Ev.now _)
    simp only [tree_Up.l0]
    by_cases h : 0 ≤ fnd l n
    · rw [if_pos h, if_neg (by omega)]
    · rw [if_neg h]
  | m + 1, n, out, hm => by
    cases h : look l n with
    | none =>
      rw [upGo_none h, List.append_nil]
      refine Ev.step (f := fun _ => some out) (fun k => ?_) (Ev.now _)
      simp only [tree_Up.l0]
      rw [fnd_none h, if_neg (by omega)]
    | some x =>
      rw [upGo_some h]
      have h0 := fnd_ge.2 ⟨x, h⟩
      have h1 := fnd_lt l n
      obtain ⟨hx, hn⟩ := look_mem h
      refine Ev.step (f := fun k => tree_Up.l0 k l (out ++ [n]) (fnd l x.f1)) (fun k => ?_) ?_
      · simp only [tree_Up.l0]
        rw [if_pos h0, if_pos (by omega), if_pos h0, if_pos h1, if_pos (by omega), fnd_rd h, hn, tree_Find_eq]
        rfl
      · have := tree_Up_l0 l hl m x.f1 (out ++ [n]) (by simp; omega)
        simpa using this
theorem tree_Up_ev (l : List Item) (n : ByteArray) (hl : l.length < 1000000) : Ev (fun k => tree_Up.f k l n) (up l n) := by
  have := tree_Up_l0 l hl (l.length + 1) n [] (by simp)
  rw [List.nil_append] at this
  exact this
/-! room -/
def ways (l : List Item) (n : ByteArray) : List Item := (up l n).map (fun u => rd_T31 l (fnd l u))
theorem up_in {l : List Item} {n u : ByteArray} (h : u ∈ up l n) : ∃ x, look l u = some x := by
  have : ∀ (m : Nat) (n : ByteArray), u ∈ upGo l m n → ∃ x, look l u = some x := by
    intro m
    induction m with
    | zero => intro n h; cases h
    | succ m ih =>
      intro n h
      cases e : look l n with
      | none => rw [upGo_none e] at h; cases h
      | some x =>
        rw [upGo_some e] at h
        rcases List.mem_cons.1 h with rfl | h
        · exact ⟨x, e⟩
        · exact ih _ h
  exact this _ _ h
theorem ways_mem {l : List Item} {n : ByteArray} {x : Item} (h : x ∈ ways l n) : x ∈ l ∧ x.f0 ∈ up l n := by
  obtain ⟨u, hu, rfl⟩ := List.mem_map.1 h
  obtain ⟨x, hx⟩ := up_in hu
  rw [fnd_rd hx]
  obtain ⟨h1, h2⟩ := look_mem hx
  exact ⟨h1, by rw [h2]; exact hu⟩
theorem room_along_l0 (l : List Item) (us : List ByteArray) (hu : ∀ u ∈ us, ∃ x, look l u = some x) (hs : us.length < 1000000) : ∀ (d i : Nat) (acc : List Item), us.length - i = d → i ≤ us.length → acc.length = i →
    Ev (fun k => room_along.l0 k l us us.length i acc) (acc ++ (us.drop i).map (fun u => rd_T31 l (fnd l u)))
  | 0, i, acc, hd, hi, ha => by
    obtain rfl : i = us.length := by omega
    rw [List.drop_length, List.map_nil, List.append_nil]
    refine Ev.step (f := fun _ => some acc) (fun k => ?_) (Ev.now _)
    simp only [room_along.l0]
    rw [if_neg (by omega)]
  | d + 1, i, acc, hd, hi, ha => by
    have hlt : i < us.length := by omega
    rw [drop_cons hlt, List.map_cons]
    obtain ⟨x, hx⟩ := hu (rdOf ByteArray.empty us i) (by simp [rdOf, hlt])
    have h0 := fnd_ge.2 ⟨x, hx⟩
    have h1 := fnd_lt l (rdOf ByteArray.empty us i)
    refine Ev.step (f := fun k => room_along.l0 k l us us.length ((i + 1 : Nat) : Int) (acc ++ [rd_T31 l (fnd l (rdOf ByteArray.empty us i))])) (fun k => ?_) ?_
    · simp only [room_along.l0, tree_Find_eq, Option.bind_some]
      rw [if_pos (by omega), if_pos (by omega), if_pos (by omega), if_pos h0, if_pos h1, if_pos (by omega), w64 (by omega) (by omega)]
      rfl
    · have := room_along_l0 l us hu hs d (i + 1) (acc ++ [rd_T31 l (fnd l (rdOf ByteArray.empty us i))]) (by omega) (by omega) (by simp; omega)
      simpa using this
theorem room_along_ev (l : List Item) (n : ByteArray) (hl : l.length < 100000) : Ev (fun k => room_along.f k l n) (ways l n) :=
  Ev.bind (tree_Up_ev l n (by omega)) (by
    have := room_along_l0 l (up l n) (fun u hu => up_in hu) (by have := up_len l n; omega) _ 0 [] rfl (by omega) rfl
    rw [List.nil_append, List.drop_zero] at this
    exact this)
def vmin (a b : Vec) : Vec := ⟨min a.f0 b.f0, min a.f1 b.f1, min a.f2 b.f2⟩
def most : Vec := ⟨1099511627776, 1099511627776, 1099511627776⟩
theorem most_may : MayP most := by intro c; cases c <;> simp [most, Comp.of]
theorem of_vmin (c : Comp) (a b : Vec) : c.of (vmin a b) = min (c.of a) (c.of b) := by cases c <;> rfl
def freeV (x : Item) : Vec := vsub x.f2 x.f4
theorem free_may {x : Item} (h : ItemOK x) : MayP (freeV x) := fun c => by
  have a := h.lim c; have b := h.sub c; have d := h.fit c
  unfold freeV; rw [of_vsub]; omega
def leastV (ws : List Item) (a : Vec) : Vec := ws.foldl (fun a x => vmin a (freeV x)) a
theorem vmin_may {a b : Vec} (ha : MayP a) (hb : MayP b) : MayP (vmin a b) := fun c => by
  have a := ha c; have b := hb c
  rw [of_vmin]; omega
theorem least_cons (x : Item) (ws : List Item) (a : Vec) : leastV (x :: ws) a = leastV ws (vmin a (freeV x)) := rfl
theorem least_may {ws : List Item} : ∀ {a : Vec}, (∀ x ∈ ws, ItemOK x) → MayP a → MayP (leastV ws a) := by
  induction ws with
  | nil => intro a _ h; exact h
  | cons x ws ih => intro a hw h; rw [least_cons]; exact ih (fun y hy => hw y (by simp [hy])) (vmin_may h (free_may (hw x (by simp))))
theorem least_le_start (c : Comp) (ws : List Item) : ∀ (a : Vec), c.of (leastV ws a) ≤ c.of a := by
  induction ws with
  | nil => intro a; exact Int.le_refl _
  | cons x ws ih => intro a; rw [least_cons]; have := ih (vmin a (freeV x)); rw [of_vmin] at this; omega
theorem least_le (c : Comp) {ws : List Item} : ∀ {a : Vec} {x : Item}, x ∈ ws → c.of (leastV ws a) ≤ c.of (freeV x) := by
  induction ws with
  | nil => intro a x h; cases h
  | cons y ws ih =>
    intro a x h
    rw [least_cons]
    rcases List.mem_cons.1 h with rfl | h
    · have := least_le_start c ws (vmin a (freeV x)); rw [of_vmin] at this; omega
    · exact ih h
theorem vec_Sub_eq {a b : Vec} (ha : MayP a) (hb : MayP b) : vec_Sub.f a.f0 a.f1 a.f2 b.f0 b.f1 b.f2 = some ((vsub a b).f0, (vsub a b).f1, (vsub a b).f2) := by
  have a0 := ha .cpu; have a1 := ha .mem; have a2 := ha .pods
  have b0 := hb .cpu; have b1 := hb .mem; have b2 := hb .pods
  simp only [Comp.of] at a0 a1 a2 b0 b1 b2
  unfold vec_Sub.f
  rw [w64 (by omega) (by omega), w64 (by omega) (by omega), w64 (by omega) (by omega)]
  rfl
theorem vec_Add2 {a b : Vec} (ha : MayP a) (hb : MayP b) : vec_Add.f [a, b] = some (a.f0 + b.f0, a.f1 + b.f1, a.f2 + b.f2) := by
  have a0 := ha .cpu; have a1 := ha .mem; have a2 := ha .pods
  have b0 := hb .cpu; have b1 := hb .mem; have b2 := hb .pods
  simp only [Comp.of] at a0 a1 a2 b0 b1 b2
  simp only [vec_Add.f, vecByF]
  rw [w64 (n := 0 + a.f0) (by omega) (by omega), w64 (n := 0 + a.f1) (by omega) (by omega), w64 (n := 0 + a.f2) (by omega) (by omega), w64 (by omega) (by omega), w64 (by omega) (by omega), w64 (by omega) (by omega), Int.zero_add, Int.zero_add, Int.zero_add]
theorem vec_Max2 {a b : Vec} (ha : MayP a) (hb : MayP b) : vec_Max.f [a, b] = some (max a.f0 b.f0, max a.f1 b.f1, max a.f2 b.f2) := by
  have a0 := ha .cpu; have a1 := ha .mem; have a2 := ha .pods
  have b0 := hb .cpu; have b1 := hb .mem; have b2 := hb .pods
  simp only [Comp.of] at a0 a1 a2 b0 b1 b2
  have e : ∀ x y : Int, 0 ≤ x → mx (mx 0 x) y = max x y := fun x y hx => by unfold mx; split <;> split <;> omega
  simp only [vec_Max.f, vecByF]
  rw [e _ _ a0.1, e _ _ a1.1, e _ _ a2.1]
theorem room_free_eq {x : Item} (h : ItemOK x) : room_free.f x.f0 x.f1 x.f2.f0 x.f2.f1 x.f2.f2 x.f3.f0 x.f3.f1 x.f3.f2 x.f4.f0 x.f4.f1 x.f4.f2 x.f5 = some ((freeV x).f0, (freeV x).f1, (freeV x).f2) := by
  unfold room_free.f
  rw [vec_Sub_eq (a := x.f2) (b := x.f4) h.lim h.sub]
  rfl
theorem room_made_l0 (ws ws' : List Item) (hw : ∀ x ∈ ws, ItemOK x) (hs : ws.length < 1000000) : ∀ (d i : Nat) (a : Vec), ws.length - i = d → i ≤ ws.length → MayP a →
    Ev (fun k => room_made.l0 k ws ws.length i ws' a.f0 a.f1 a.f2) (ws', (leastV (ws.drop i) a).f0, (leastV (ws.drop i) a).f1, (leastV (ws.drop i) a).f2)
  | 0, i, a, hd, hi, ha => by
    obtain rfl : i = ws.length := by omega
    rw [List.drop_length]
    refine Ev.step (f := fun _ => some (ws', a.f0, a.f1, a.f2)) (fun k => ?_) (Ev.now _)
    simp only [room_made.l0]
    rw [if_neg (by omega)]
  | d + 1, i, a, hd, hi, ha => by
    have hlt : i < ws.length := by omega
    have hrd : rd_T31 ws (i : Int) = ws[i] := by rw [rd_item, Int.toNat_natCast]; simp [hlt]
    have hx : ItemOK ws[i] := hw _ (List.getElem_mem hlt)
    have hf := free_may hx
    rw [List.drop_eq_getElem_cons hlt]
    have hmin : vec_Sub.f (a.f0 + (freeV ws[i]).f0) (a.f1 + (freeV ws[i]).f1) (a.f2 + (freeV ws[i]).f2) (max a.f0 (freeV ws[i]).f0) (max a.f1 (freeV ws[i]).f1) (max a.f2 (freeV ws[i]).f2) = some ((vmin a (freeV ws[i])).f0, (vmin a (freeV ws[i])).f1, (vmin a (freeV ws[i])).f2) := by
      have a0 := ha .cpu; have a1 := ha .mem; have a2 := ha .pods
      have b0 := hf .cpu; have b1 := hf .mem; have b2 := hf .pods
      simp only [Comp.of] at a0 a1 a2 b0 b1 b2
      have e : ∀ x y : Int, 0 ≤ x ∧ x ≤ 1099511627776 → 0 ≤ y ∧ y ≤ 1099511627776 → wrap64 (x + y - max x y) = min x y := fun x y hx hy => by rw [w64 (by omega) (by omega)]; omega
      unfold vec_Sub.f
      rw [e _ _ a0 b0, e _ _ a1 b1, e _ _ a2 b2]
      rfl
    refine Ev.step (f := fun k => room_made.l0 k ws ws.length ((i + 1 : Nat) : Int) ws' (vmin a (freeV ws[i])).f0 (vmin a (freeV ws[i])).f1 (vmin a (freeV ws[i])).f2) (fun k => ?_) (room_made_l0 ws ws' hw hs d (i + 1) _ (by omega) (by omega) (vmin_may ha hf))
    simp only [room_made.l0]
    rw [if_pos (by omega), if_pos (by omega), if_pos (by omega), hrd, room_free_eq hx]
    simp only [Option.bind_some]
    rw [show (⟨a.f0, a.f1, a.f2⟩ : Vec) = a from rfl, show (⟨(freeV ws[i]).f0, (freeV ws[i]).f1, (freeV ws[i]).f2⟩ : Vec) = freeV ws[i] from rfl, vec_Add2 ha hf, vec_Max2 ha hf]
    simp only [Option.bind_some]
    rw [hmin, w64 (by omega) (by omega)]
    rfl
theorem right_ways {l : List Item} (hl : RightP l) (n : ByteArray) : ∀ x ∈ ways l n, ItemOK x := fun x hx => hl.ok x (ways_mem hx).1
def roomV (l : List Item) (n : ByteArray) : Vec := leastV (ways l n) most
theorem room_made_ev {l : List Item} (hl : RightP l) (n : ByteArray) : Ev (fun k => room_made.f k l n) (ways l n, (roomV l n).f0, (roomV l n).f1, (roomV l n).f2) := by
  have hlen := hl.len
  refine Ev.bind (room_along_ev l n (by omega)) ?_
  have h := room_made_l0 (ways l n) (ways l n) (right_ways hl n) (by unfold ways; rw [List.length_map]; have := up_len l n; omega) _ 0 most rfl (by omega) most_may
  rw [List.drop_zero] at h
  refine Ev.congr (fun k => ?_) h
  rfl
def roomR (l : List Item) (n : ByteArray) : Int × Int × Int × Bool := if (look l n).isNone = true then (0, 0, 0, false) else ((roomV l n).f0, (roomV l n).f1, (roomV l n).f2, true)
theorem room_Of_ev {l : List Item} (hl : RightP l) (n : ByteArray) : Ev (fun k => room_Of.f k l n) (roomR l n) := by
  refine Ev.bind (room_made_ev hl n) ?_
  unfold roomR
  refine Ev.congr (fun k => ?_) (Ev.now _)
  cases h : look l n with
  | none =>
    rw [if_pos (show (none : Option Item).isNone = true from rfl), show ways l n = [] from by unfold ways; rw [show up l n = [] from upGo_none h _]; rfl]
    rfl
  | some x =>
    have := up_self h
    have : (ways l n).length ≠ 0 := by unfold ways; rw [List.length_map]; intro q; rw [List.length_eq_zero_iff.1 q] at this; cases this
    rw [if_neg (by show ¬ ((ways l n).length : Int) = 0; omega), if_neg (by simp)]
end Go.Proofs.Ytcgefpklljclgaa.Print

namespace Go.Proofs.Ytcgefpklljclgaa.Print
open Go.RowKit Go.Proofs.YtcgefpklljclgaaW.PrintWords Go.Proofs.YtcgefpklljclgaaW.PrintLast Go.Proofs.YtcgefpklljclgaaW.PrintMore
attribute [local go_sem] max2_int min2_int max_two min_two max_three min_three max_four min_four   -- for this text's walks alone
set_option linter.unusedVariables false
set_option linter.unusedSimpArgs false
/-! ### vec_Le: function 118 -/
def vec_Le.f (a0_0 : Int) (a0_1 : Int) (a0_2 : Int) (a1_0 : Int) (a1_1 : Int) (a1_2 : Int) : Option (Bool) := if a0_0 ≤ a1_0 then (if a0_1 ≤ a1_1 then (some (decide (a0_2 ≤ a1_2))) else (some false)) else (some false)
set_option maxHeartbeats 8000000 in
set_option maxRecDepth 100000 in
theorem vec_Le.calls (a0_0 : Int) (a0_1 : Int) (a0_2 : Int) (a1_0 : Int) (a1_1 : Int) (a1_2 : Int) (r : Bool) (w : World) (h : vec_Le.f a0_0 a0_1 a0_2 a1_0 a1_1 a1_2 = some r) :
  Calls Try.prog 118 #[.agg #[.int .i64 a0_0, .int .i64 a0_1, .int .i64 a0_2], .agg #[.int .i64 a1_0, .int .i64 a1_1, .int .i64 a1_2]] w fun e w' => e = .returned (.bool r) ∧ Below w.heap.size w w' := by
 have hu27 := Try.underlying27
 have HB := Aside0.mk (Below.refl w.heap.size w)
 have H : (if a0_0 ≤ a1_0 then (if a0_1 ≤ a1_1 then (some (decide (a0_2 ≤ a1_2))) else (some false)) else (some false)) = some r := h
 clear h
 by_cases c3 : a0_0 ≤ a1_0
 ·rw [if_pos c3] at H
  have c3b0 : decide (a0_0 ≤ a1_0) = true := decide_eq_true c3
  clear c3
  by_cases c4 : a0_1 ≤ a1_1
  ·rw [if_pos c4] at H
   have c4b0 : decide (a0_1 ≤ a1_1) = true := decide_eq_true c4
   clear c4
   obtain rfl := Option.some.inj H
   go_enter Try.func118, Try.ntmps118
   go_wp2_with (first | ((with_reducible refine gate_dst (N := 2) rfl ?_); refine box_event ?hg (N := 2) ?hd (cs := #[.int .i64 a0_0, .int .i64 a0_1, .int .i64 a0_2]) (t := 27) ?hr ?_; (case hd => rfl); (case hg => rfl); (case hr => first | (go_simp; done) | (go_simp; rfl)); intro gb1 hg w5 hbox hb; have n0_ := Aside0.mk (below_step (by repeat (first | (with_reducible first | exact HB.out | apply below_alloc | apply pw_below_drewN | apply below_drew1) | exact HB.out)) hb); have n1_ := Aside0.mk (hbox); have n2_ := Aside0.mk ((by rw [hg]; exact (below_size (by repeat (first | (with_reducible first | exact HB.out | apply below_alloc | apply pw_below_drewN | apply below_drew1) | exact HB.out))) : w.heap.size ≤ gb1)); have n3_ := Aside0.mk ((by rw [hg]; exact (below_size (by repeat (first | (with_reducible first | exact HB.out | apply below_alloc | apply pw_below_drewN | apply below_drew1) | exact HB.out))) : w.heap.size ≤ gb1)); clear HB; have HB := n0_; have BK1 := n1_; have GW1 := n2_; have GE1 := n3_; clear n0_ n1_ n2_ n3_; clear hb hbox hg) | ((with_reducible refine gate_dst (N := 3) rfl ?_); refine box_event ?hg (N := 3) ?hd (cs := #[.int .i64 a1_0, .int .i64 a1_1, .int .i64 a1_2]) (t := 27) ?hr ?_; (case hd => rfl); (case hg => rfl); (case hr => first | (go_simp; done) | (go_simp; rfl)); intro gb2 hg w6 hbox hb; have n0_ := Aside0.mk (blk_below (g := gb1) (o := .cells #[.int .i64 a0_0, .int .i64 a0_1, .int .i64 a0_2] 27 (0, 0)) (by (with_reducible repeat (first | refine blk_drewN ?_ _ | refine blk_drew ?_ | refine blk_alloc ?_ _)); exact BK1.out) hb); have n1_ := Aside0.mk (below_step (by repeat (first | (with_reducible first | exact HB.out | apply below_alloc | apply pw_below_drewN | apply below_drew1 | refine below_set ?_ GE1.out) | exact HB.out)) hb); have n2_ := Aside0.mk (hbox); have n3_ := Aside0.mk ((by rw [hg]; exact (below_size (by repeat (first | (with_reducible first | exact HB.out | apply below_alloc | apply pw_below_drewN | apply below_drew1 | refine below_set ?_ GE1.out) | exact HB.out))) : w.heap.size ≤ gb2)); have n4_ := Aside0.mk ((by rw [hg]; exact (below_size (by repeat (first | (with_reducible first | exact HB.out | apply below_alloc | apply pw_below_drewN | apply below_drew1 | refine below_set ?_ GE1.out) | exact HB.out))) : w.heap.size ≤ gb2)); have n5_ := Aside0.mk ((by rw [hg]; exact Nat.ne_of_lt (blk_lt (g := gb1) (o := .cells #[.int .i64 a0_0, .int .i64 a0_1, .int .i64 a0_2] 27 (0, 0)) (by (with_reducible repeat (first | refine blk_drewN ?_ _ | refine blk_drew ?_ | refine blk_alloc ?_ _)); exact BK1.out)) : gb1 ≠ gb2)); have n6_ := Aside0.mk ((by rw [hg]; exact Nat.ne_of_gt (blk_lt (g := gb1) (o := .cells #[.int .i64 a0_0, .int .i64 a0_1, .int .i64 a0_2] 27 (0, 0)) (by (with_reducible repeat (first | refine blk_drewN ?_ _ | refine blk_drew ?_ | refine blk_alloc ?_ _)); exact BK1.out)) : gb2 ≠ gb1)); clear BK1; clear HB; have BK1 := n0_; have HB := n1_; have BK2 := n2_; have GW2 := n3_; have GE2 := n4_; have NB1_2 := n5_; have NB2_1 := n6_; clear n0_ n1_ n2_ n3_ n4_ n5_ n6_; clear hb hbox hg; have hnb7 := NB1_2.out; have hnc7 := NB2_1.out; have hcz8_0 : w6.cell? ⟨gb1, 0, none⟩ = some (.int .i64 a0_0) := (blk_cell BK1.out 0).trans rfl; have hcz8_1 : w6.cell? ⟨gb1, 1, none⟩ = some (.int .i64 a0_1) := (blk_cell BK1.out 1).trans rfl; have hcz8_2 : w6.cell? ⟨gb1, 2, none⟩ = some (.int .i64 a0_2) := (blk_cell BK1.out 2).trans rfl; have hfz8_0 := blk_frozen BK1.out 0; have hfz8_1 := blk_frozen BK1.out 1; have hfz8_2 := blk_frozen BK1.out 2; have hcz9_0 : w6.cell? ⟨gb2, 0, none⟩ = some (.int .i64 a1_0) := (blk_cell BK2.out 0).trans rfl; have hcz9_1 : w6.cell? ⟨gb2, 1, none⟩ = some (.int .i64 a1_1) := (blk_cell BK2.out 1).trans rfl; have hcz9_2 : w6.cell? ⟨gb2, 2, none⟩ = some (.int .i64 a1_2) := (blk_cell BK2.out 2).trans rfl; have hfz9_0 := blk_frozen BK2.out 0; have hfz9_1 := blk_frozen BK2.out 1; have hfz9_2 := blk_frozen BK2.out 2))
   go_ret
   exact ⟨by first | rfl | (simp [errW_none, errW_some] <;> rfl) | (simp [*, errW_none, errW_some] <;> rfl), by repeat (first | (with_reducible first | exact HB.out | apply below_alloc | apply pw_below_drewN | apply below_drew1 | refine below_set ?_ GE1.out | refine below_set ?_ GE2.out) | exact HB.out)⟩
  ·rw [if_neg c4] at H
   have c4b0 : decide (a0_1 ≤ a1_1) = false := decide_eq_false c4
   clear c4
   obtain rfl := Option.some.inj H
   go_enter Try.func118, Try.ntmps118
   go_wp2_with (first | ((with_reducible refine gate_dst (N := 2) rfl ?_); refine box_event ?hg (N := 2) ?hd (cs := #[.int .i64 a0_0, .int .i64 a0_1, .int .i64 a0_2]) (t := 27) ?hr ?_; (case hd => rfl); (case hg => rfl); (case hr => first | (go_simp; done) | (go_simp; rfl)); intro gb1 hg w10 hbox hb; have n0_ := Aside0.mk (below_step (by repeat (first | (with_reducible first | exact HB.out | apply below_alloc | apply pw_below_drewN | apply below_drew1) | exact HB.out)) hb); have n1_ := Aside0.mk (hbox); have n2_ := Aside0.mk ((by rw [hg]; exact (below_size (by repeat (first | (with_reducible first | exact HB.out | apply below_alloc | apply pw_below_drewN | apply below_drew1) | exact HB.out))) : w.heap.size ≤ gb1)); have n3_ := Aside0.mk ((by rw [hg]; exact (below_size (by repeat (first | (with_reducible first | exact HB.out | apply below_alloc | apply pw_below_drewN | apply below_drew1) | exact HB.out))) : w.heap.size ≤ gb1)); clear HB; have HB := n0_; have BK1 := n1_; have GW1 := n2_; have GE1 := n3_; clear n0_ n1_ n2_ n3_; clear hb hbox hg) | ((with_reducible refine gate_dst (N := 3) rfl ?_); refine box_event ?hg (N := 3) ?hd (cs := #[.int .i64 a1_0, .int .i64 a1_1, .int .i64 a1_2]) (t := 27) ?hr ?_; (case hd => rfl); (case hg => rfl); (case hr => first | (go_simp; done) | (go_simp; rfl)); intro gb2 hg w11 hbox hb; have n0_ := Aside0.mk (blk_below (g := gb1) (o := .cells #[.int .i64 a0_0, .int .i64 a0_1, .int .i64 a0_2] 27 (0, 0)) (by (with_reducible repeat (first | refine blk_drewN ?_ _ | refine blk_drew ?_ | refine blk_alloc ?_ _)); exact BK1.out) hb); have n1_ := Aside0.mk (below_step (by repeat (first | (with_reducible first | exact HB.out | apply below_alloc | apply pw_below_drewN | apply below_drew1 | refine below_set ?_ GE1.out) | exact HB.out)) hb); have n2_ := Aside0.mk (hbox); have n3_ := Aside0.mk ((by rw [hg]; exact (below_size (by repeat (first | (with_reducible first | exact HB.out | apply below_alloc | apply pw_below_drewN | apply below_drew1 | refine below_set ?_ GE1.out) | exact HB.out))) : w.heap.size ≤ gb2)); have n4_ := Aside0.mk ((by rw [hg]; exact (below_size (by repeat (first | (with_reducible first | exact HB.out | apply below_alloc | apply pw_below_drewN | apply below_drew1 | refine below_set ?_ GE1.out) | exact HB.out))) : w.heap.size ≤ gb2)); have n5_ := Aside0.mk ((by rw [hg]; exact Nat.ne_of_lt (blk_lt (g := gb1) (o := .cells #[.int .i64 a0_0, .int .i64 a0_1, .int .i64 a0_2] 27 (0, 0)) (by (with_reducible repeat (first | refine blk_drewN ?_ _ | refine blk_drew ?_ | refine blk_alloc ?_ _)); exact BK1.out)) : gb1 ≠ gb2)); have n6_ := Aside0.mk ((by rw [hg]; exact Nat.ne_of_gt (blk_lt (g := gb1) (o := .cells #[.int .i64 a0_0, .int .i64 a0_1, .int .i64 a0_2] 27 (0, 0)) (by (with_reducible repeat (first | refine blk_drewN ?_ _ | refine blk_drew ?_ | refine blk_alloc ?_ _)); exact BK1.out)) : gb2 ≠ gb1)); clear BK1; clear HB; have BK1 := n0_; have HB := n1_; have BK2 := n2_; have GW2 := n3_; have GE2 := n4_; have NB1_2 := n5_; have NB2_1 := n6_; clear n0_ n1_ n2_ n3_ n4_ n5_ n6_; clear hb hbox hg; have hnb12 := NB1_2.out; have hnc12 := NB2_1.out; have hcz13_0 : w11.cell? ⟨gb1, 0, none⟩ = some (.int .i64 a0_0) := (blk_cell BK1.out 0).trans rfl; have hcz13_1 : w11.cell? ⟨gb1, 1, none⟩ = some (.int .i64 a0_1) := (blk_cell BK1.out 1).trans rfl; have hcz13_2 : w11.cell? ⟨gb1, 2, none⟩ = some (.int .i64 a0_2) := (blk_cell BK1.out 2).trans rfl; have hfz13_0 := blk_frozen BK1.out 0; have hfz13_1 := blk_frozen BK1.out 1; have hfz13_2 := blk_frozen BK1.out 2; have hcz14_0 : w11.cell? ⟨gb2, 0, none⟩ = some (.int .i64 a1_0) := (blk_cell BK2.out 0).trans rfl; have hcz14_1 : w11.cell? ⟨gb2, 1, none⟩ = some (.int .i64 a1_1) := (blk_cell BK2.out 1).trans rfl; have hcz14_2 : w11.cell? ⟨gb2, 2, none⟩ = some (.int .i64 a1_2) := (blk_cell BK2.out 2).trans rfl; have hfz14_0 := blk_frozen BK2.out 0; have hfz14_1 := blk_frozen BK2.out 1; have hfz14_2 := blk_frozen BK2.out 2))
   go_ret
   exact ⟨by first | rfl | (simp [errW_none, errW_some] <;> rfl) | (simp [*, errW_none, errW_some] <;> rfl), by repeat (first | (with_reducible first | exact HB.out | apply below_alloc | apply pw_below_drewN | apply below_drew1 | refine below_set ?_ GE1.out | refine below_set ?_ GE2.out) | exact HB.out)⟩
 ·rw [if_neg c3] at H
  have c3b0 : decide (a0_0 ≤ a1_0) = false := decide_eq_false c3
  clear c3
  obtain rfl := Option.some.inj H
  go_enter Try.func118, Try.ntmps118
  go_wp2_with (first | ((with_reducible refine gate_dst (N := 2) rfl ?_); refine box_event ?hg (N := 2) ?hd (cs := #[.int .i64 a0_0, .int .i64 a0_1, .int .i64 a0_2]) (t := 27) ?hr ?_; (case hd => rfl); (case hg => rfl); (case hr => first | (go_simp; done) | (go_simp; rfl)); intro gb1 hg w15 hbox hb; have n0_ := Aside0.mk (below_step (by repeat (first | (with_reducible first | exact HB.out | apply below_alloc | apply pw_below_drewN | apply below_drew1) | exact HB.out)) hb); have n1_ := Aside0.mk (hbox); have n2_ := Aside0.mk ((by rw [hg]; exact (below_size (by repeat (first | (with_reducible first | exact HB.out | apply below_alloc | apply pw_below_drewN | apply below_drew1) | exact HB.out))) : w.heap.size ≤ gb1)); have n3_ := Aside0.mk ((by rw [hg]; exact (below_size (by repeat (first | (with_reducible first | exact HB.out | apply below_alloc | apply pw_below_drewN | apply below_drew1) | exact HB.out))) : w.heap.size ≤ gb1)); clear HB; have HB := n0_; have BK1 := n1_; have GW1 := n2_; have GE1 := n3_; clear n0_ n1_ n2_ n3_; clear hb hbox hg) | ((with_reducible refine gate_dst (N := 3) rfl ?_); refine box_event ?hg (N := 3) ?hd (cs := #[.int .i64 a1_0, .int .i64 a1_1, .int .i64 a1_2]) (t := 27) ?hr ?_; (case hd => rfl); (case hg => rfl); (case hr => first | (go_simp; done) | (go_simp; rfl)); intro gb2 hg w16 hbox hb; have n0_ := Aside0.mk (blk_below (g := gb1) (o := .cells #[.int .i64 a0_0, .int .i64 a0_1, .int .i64 a0_2] 27 (0, 0)) (by (with_reducible repeat (first | refine blk_drewN ?_ _ | refine blk_drew ?_ | refine blk_alloc ?_ _)); exact BK1.out) hb); have n1_ := Aside0.mk (below_step (by repeat (first | (with_reducible first | exact HB.out | apply below_alloc | apply pw_below_drewN | apply below_drew1 | refine below_set ?_ GE1.out) | exact HB.out)) hb); have n2_ := Aside0.mk (hbox); have n3_ := Aside0.mk ((by rw [hg]; exact (below_size (by repeat (first | (with_reducible first | exact HB.out | apply below_alloc | apply pw_below_drewN | apply below_drew1 | refine below_set ?_ GE1.out) | exact HB.out))) : w.heap.size ≤ gb2)); have n4_ := Aside0.mk ((by rw [hg]; exact (below_size (by repeat (first | (with_reducible first | exact HB.out | apply below_alloc | apply pw_below_drewN | apply below_drew1 | refine below_set ?_ GE1.out) | exact HB.out))) : w.heap.size ≤ gb2)); have n5_ := Aside0.mk ((by rw [hg]; exact Nat.ne_of_lt (blk_lt (g := gb1) (o := .cells #[.int .i64 a0_0, .int .i64 a0_1, .int .i64 a0_2] 27 (0, 0)) (by (with_reducible repeat (first | refine blk_drewN ?_ _ | refine blk_drew ?_ | refine blk_alloc ?_ _)); exact BK1.out)) : gb1 ≠ gb2)); have n6_ := Aside0.mk ((by rw [hg]; exact Nat.ne_of_gt (blk_lt (g := gb1) (o := .cells #[.int .i64 a0_0, .int .i64 a0_1, .int .i64 a0_2] 27 (0, 0)) (by (with_reducible repeat (first | refine blk_drewN ?_ _ | refine blk_drew ?_ | refine blk_alloc ?_ _)); exact BK1.out)) : gb2 ≠ gb1)); clear BK1; clear HB; have BK1 := n0_; have HB := n1_; have BK2 := n2_; have GW2 := n3_; have GE2 := n4_; have NB1_2 := n5_; have NB2_1 := n6_; clear n0_ n1_ n2_ n3_ n4_ n5_ n6_; clear hb hbox hg; have hnb17 := NB1_2.out; have hnc17 := NB2_1.out; have hcz18_0 : w16.cell? ⟨gb1, 0, none⟩ = some (.int .i64 a0_0) := (blk_cell BK1.out 0).trans rfl; have hcz18_1 : w16.cell? ⟨gb1, 1, none⟩ = some (.int .i64 a0_1) := (blk_cell BK1.out 1).trans rfl; have hcz18_2 : w16.cell? ⟨gb1, 2, none⟩ = some (.int .i64 a0_2) := (blk_cell BK1.out 2).trans rfl; have hfz18_0 := blk_frozen BK1.out 0; have hfz18_1 := blk_frozen BK1.out 1; have hfz18_2 := blk_frozen BK1.out 2; have hcz19_0 : w16.cell? ⟨gb2, 0, none⟩ = some (.int .i64 a1_0) := (blk_cell BK2.out 0).trans rfl; have hcz19_1 : w16.cell? ⟨gb2, 1, none⟩ = some (.int .i64 a1_1) := (blk_cell BK2.out 1).trans rfl; have hcz19_2 : w16.cell? ⟨gb2, 2, none⟩ = some (.int .i64 a1_2) := (blk_cell BK2.out 2).trans rfl; have hfz19_0 := blk_frozen BK2.out 0; have hfz19_1 := blk_frozen BK2.out 1; have hfz19_2 := blk_frozen BK2.out 2))
  go_ret
  exact ⟨by first | rfl | (simp [errW_none, errW_some] <;> rfl) | (simp [*, errW_none, errW_some] <;> rfl), by repeat (first | (with_reducible first | exact HB.out | apply below_alloc | apply pw_below_drewN | apply below_drew1 | refine below_set ?_ GE1.out | refine below_set ?_ GE2.out) | exact HB.out)⟩
end Go.Proofs.Ytcgefpklljclgaa.Print
