/- A part of the proof of RoomMade: the machine's side by the kit's print, contracts and lemmas by this session. -/
import Derived.Laws.Strings
import Derived.Test.YtcgefpklljclgaaRows
import Derived.WalkKit
import Derived.ProofKit
import Derived.OpenShut
import Derived.JoinedOf
import Derived.SizedLaws
import Derived.ChangeSlices
import Derived.Test.YtcgefpklljclgaaBRoomMade1
import Derived.Test.YtcgefpklljclgaaBRoomMade2
import Derived.Test.YtcgefpklljclgaaBRoomMade3
import Derived.Test.YtcgefpklljclgaaBRoomMade4
namespace Go.Proofs.Ytcgefpklljclgaa.Print
open Go.RowKit Go.Proofs.YtcgefpklljclgaaW.PrintWords Go.Proofs.YtcgefpklljclgaaW.PrintLast Go.Proofs.YtcgefpklljclgaaW.PrintMore
attribute [local go_sem] max2_int min2_int max_two min_two max_three min_three max_four min_four   -- for this text's walks alone
set_option linter.unusedVariables false
set_option linter.unusedSimpArgs false
attribute [local go_sem high] eqA27
/-! ### law13_RoomMade: function 20 -/
def law13_RoomMade.j0 : Nat → List Int → List Int → Int → Bool → Option (Bool)
 | 0, _, _, _, _ => none
 | k + 1, x0, x1, x2, x20 => if x20 = true then ((law13_awake.f k).bind fun t1 => (some t1)) else ((law12_Make.f k x0).bind fun t2 => ((some (([(97 + (Int.tmod x2 25)) % 256] : List Int) : List Int)).bind fun y5 => ((room_Of.f k t2 (strOfNums y5)).bind fun bt8 => ((r10_Room.f k t2 (strOfNums y5)).bind fun bt13 => (if (bt8.1 == bt13.1 && (bt8.2.1 == bt13.2.1 && (bt8.2.2.1 == bt13.2.2.1))) = true then (if (bt8.2.2.2 == bt13.2.2.2) = true then ((room_Tight.f k t2 (strOfNums y5)).bind fun t18 => ((r10_Tight.f k t2 (strOfNums y5)).bind fun t21 => ((r1_Texts.f k t18 t21).bind fun t24 => (if t24 = true then ((law13_names.f k x1).bind fun t25 => ((room_Share.f k t2 t25).bind fun bt28 => ((law13_names.f k x1).bind fun t31 => ((r10_Share.f k t2 t31).bind fun bt34 => (if (bt28.1 == bt34.1 && (bt28.2.1 == bt34.2.1 && (bt28.2.2 == bt34.2.2))) = true then ((law13_awake.f k).bind fun t37 => (some t37)) else (some false)))))) else (some false))))) else (some false)) else (some false))))))
def law13_RoomMade.f (k : Nat) (l0 : List Int) (l1 : List Int) (a2 : Int) : Option (Bool) := if (l0.length : Int) > 90 then (law13_RoomMade.j0 k l0 l1 a2 true) else (law13_RoomMade.j0 k l0 l1 a2 (decide ((l1.length : Int) > 20)))
theorem law13_RoomMade.mono_l : ∀ k, (∀ y0 y1 y2 y3, LeO (law13_RoomMade.j0 k y0 y1 y2 y3) (law13_RoomMade.j0 (k + 1) y0 y1 y2 y3))
 | 0 => fun _ _ _ _ r h => by simp [law13_RoomMade.j0] at h
 | k + 1 => by
  have ih0 := law13_RoomMade.mono_l k
  ·intro y0 y1 y2 y3
   unfold law13_RoomMade.j0
   repeat' first
   | (with_reducible exact ih0 _ _ _ _)
   | (with_reducible exact law12_Make.mono _ _)
   | (with_reducible exact law13_awake.mono _)
   | (with_reducible exact law13_names.mono _ _)
   | (with_reducible exact r10_Room.mono _ _ _)
   | (with_reducible exact r10_Share.mono _ _ _)
   | (with_reducible exact r10_Tight.mono _ _ _)
   | (with_reducible exact r1_Texts.mono _ _ _)
   | (with_reducible exact room_Of.mono _ _ _)
   | (with_reducible exact room_Share.mono _ _ _)
   | (with_reducible exact room_Tight.mono _ _ _)
   | (with_reducible exact LeO.refl _)
   | (with_reducible exact LeO.none _)
   | (with_reducible refine LeO.ite ?_ ?_)
   | (with_reducible refine LeO.bind ?_ (fun _ => ?_))
   | exact ih0 _ _ _ _
   | exact law12_Make.mono _ _
   | exact law13_awake.mono _
   | exact law13_names.mono _ _
   | exact r10_Room.mono _ _ _
   | exact r10_Share.mono _ _ _
   | exact r10_Tight.mono _ _ _
   | exact r1_Texts.mono _ _ _
   | exact room_Of.mono _ _ _
   | exact room_Share.mono _ _ _
   | exact room_Tight.mono _ _ _
   | exact LeO.none _
   | refine LeO.ite ?_ ?_
   | refine LeO.bind ?_ (fun _ => ?_)
theorem law13_RoomMade.mono : ∀ a0 a1 a2 k, LeO (law13_RoomMade.f k a0 a1 a2) (law13_RoomMade.f (k + 1) a0 a1 a2) := by
 intro a0 a1 a2 k
 have ih0 := law13_RoomMade.mono_l k
 unfold law13_RoomMade.f
 repeat' first
   | (with_reducible exact ih0 _ _ _ _)
   | (with_reducible exact law12_Make.mono _ _)
   | (with_reducible exact law13_awake.mono _)
   | (with_reducible exact law13_names.mono _ _)
   | (with_reducible exact r10_Room.mono _ _ _)
   | (with_reducible exact r10_Share.mono _ _ _)
   | (with_reducible exact r10_Tight.mono _ _ _)
   | (with_reducible exact r1_Texts.mono _ _ _)
   | (with_reducible exact room_Of.mono _ _ _)
   | (with_reducible exact room_Share.mono _ _ _)
   | (with_reducible exact room_Tight.mono _ _ _)
   | (with_reducible exact LeO.refl _)
   | (with_reducible exact LeO.none _)
   | (with_reducible refine LeO.ite ?_ ?_)
   | (with_reducible refine LeO.bind ?_ (fun _ => ?_))
   | exact ih0 _ _ _ _
   | exact law12_Make.mono _ _
   | exact law13_awake.mono _
   | exact law13_names.mono _ _
   | exact r10_Room.mono _ _ _
   | exact r10_Share.mono _ _ _
   | exact r10_Tight.mono _ _ _
   | exact r1_Texts.mono _ _ _
   | exact room_Of.mono _ _ _
   | exact room_Share.mono _ _ _
   | exact room_Tight.mono _ _ _
   | exact LeO.none _
   | refine LeO.ite ?_ ?_
   | refine LeO.bind ?_ (fun _ => ?_)
set_option maxHeartbeats 8000000 in
set_option maxRecDepth 100000 in
theorem law13_RoomMade.calls (k : Nat) (A0 : Option Addr) (c0 : Nat) (l0 : List Int) (A1 : Option Addr) (c1 : Nat) (l1 : List Int) (a2 : Int) (r : Bool) (w : World) (hr0 : Kd.C (Kd.int .u8) w A0 l0.length l0) (hc0 : l0.length ≤ c0) (hr1 : Kd.C (Kd.int .u8) w A1 l1.length l1) (hc1 : l1.length ≤ c1) (h : law13_RoomMade.f k l0 l1 a2 = some r) :
  Calls Try.prog 20 #[.slice A0 l0.length c0, .slice A1 l1.length c1, .int .u8 a2] w fun e w' => e = .returned (.bool r) ∧ Below w.heap.size w w' := by
 have hu27 := Try.underlying27
 have HR0 := Aside0.mk hr0
 have HC0 := Aside0.mk hc0
 clear hr0 hc0
 have HR1 := Aside0.mk hr1
 have HC1 := Aside0.mk hc1
 clear hr1 hc1
 have HB := Aside0.mk (Below.refl w.heap.size w)
 have H : (if (l0.length : Int) > 90 then (law13_RoomMade.j0 k l0 l1 a2 true) else (law13_RoomMade.j0 k l0 l1 a2 (decide ((l1.length : Int) > 20)))) = some r := h
 clear h
 have HC4 := Aside0.mk H
 clear H
 go_enter Try.func20, Try.ntmps20
 go_upto_region 1 with (fail)
 go_cut [20] (fun v20 wc => ∃ (kq : Nat) (x20_3 : Bool), v20 = .bool x20_3 ∧ Aside0 (law13_RoomMade.j0 kq l0 l1 a2 x20_3 = some r) ∧ Aside0 (kq ≤ k) ∧ Aside0 (Below w.heap.size w wc))
 case first =>
  have H := HC4.out
  clear HC4
  by_cases c5 : (l0.length : Int) > 90
  ·rw [if_pos c5] at H
   have c5b0 : decide (90 < (l0.length : Int)) = true := decide_eq_true c5
   have c5b1 : decide (90 < l0.length) = true := decide_eq_true (by omega)
   clear c5
   (first | rw [c5b0] | (simp only [i64_w, i32_w]; rw [c5b0]) | skip)
   have H' := Aside0.mk H
   clear H
   go_wp2
   go_meet
   case rel => exact ⟨_, (true), (by first|rfl|(simp;done)|(simp [*];done)), H', ⟨by first|omega|exact Nat.le_refl _⟩, ⟨by repeat (first|(with_reducible first|exact HB.out|apply below_alloc|apply pw_below_drewN|apply below_drew1)|exact HB.out)⟩⟩
  ·rw [if_neg c5] at H
   have c5b0 : decide (90 < (l0.length : Int)) = false := decide_eq_false c5
   have c5b1 : decide (90 < l0.length) = false := decide_eq_false (by omega)
   clear c5
   (first | rw [c5b0] | (simp only [i64_w, i32_w]; rw [c5b0]) | skip)
   have H' := Aside0.mk H
   clear H
   go_wp2
   go_meet
   case rel => exact ⟨_, (decide ((l1.length : Int) > 20)), (by first|rfl|(simp;done)|(simp [*];done)), H', ⟨by first|omega|exact Nat.le_refl _⟩, ⟨by repeat (first|(with_reducible first|exact HB.out|apply below_alloc|apply pw_below_drewN|apply below_drew1)|exact HB.out)⟩⟩
 case rest =>
  clear HC4
  try clear c1
  try clear c2
  try clear p2
  try clear c5
  try clear c5b0
  try clear c5b1
  obtain ⟨kq, x20_3, rfl, HA, HJ3, HB⟩ := hcut
  cases kq with
  | zero => exact absurd HA.out (by simp [law13_RoomMade.j0])
  | succ kj3 =>
   have H := HA.out
   clear HA
   simp only [law13_RoomMade.j0] at H
   by_cases c6 : x20_3 = true
   ·subst c6
    have H1 : ((law13_awake.f kj3).bind fun t1 => (some t1)) = some r := by rw [if_pos rfl] at H; exact H
    clear H
    have H := H1
    clear H1
    replace H := Option.bind_eq_some_iff.mp H
    obtain ⟨t1, A70, H⟩ := H
    replace H : (some t1) = some r := H
    have A7 := Aside0.mk A70
    clear A70
    obtain rfl := Option.some.inj H
    go_wp2_with (first|((with_reducible refine gate_callee (f := 31) rfl ?_);refine goesL_ (some 21) rfl rfl Try.func31 (by kernel_rfl) rfl #[] rfl (by (try simp only [List.map_toArray, List.map_cons, List.map_nil]);first|done|rfl|(simp only [List.length_drop, List.length_take];rfl)) ?_;(with_reducible refine (law13_awake.calls kj3  t1 _ A7.out).mono ?_);rintro e w8 ⟨rfl, hb⟩;refine ⟨_, rfl, ?_⟩;have n0_ := Aside0.mk (below_step (by repeat (first|(with_reducible first|exact HB.out|apply below_alloc|apply pw_below_drewN|apply below_drew1)|exact HB.out)) hb);clear HB;have HB := n0_;clear n0_;(try clear hb);(try clear hb2);(try clear hk);(try clear hi)))
    go_ret
    exact ⟨by first|rfl|(simp [errW_none, errW_some] <;> rfl)|(simp [*, errW_none, errW_some] <;> rfl), by repeat (first|(with_reducible first|exact HB.out|apply below_alloc|apply pw_below_drewN|apply below_drew1)|exact HB.out)⟩
   ·replace c6 := Bool.eq_false_iff.mpr c6
    subst c6
    have H1 : ((law12_Make.f kj3 l0).bind fun t2 => ((some (([(97 + (Int.tmod a2 25)) % 256] : List Int) : List Int)).bind fun y5 => ((room_Of.f kj3 t2 (strOfNums y5)).bind fun bt8 => ((r10_Room.f kj3 t2 (strOfNums y5)).bind fun bt13 => (if (bt8.1 == bt13.1 && (bt8.2.1 == bt13.2.1 && (bt8.2.2.1 == bt13.2.2.1))) = true then (if (bt8.2.2.2 == bt13.2.2.2) = true then ((room_Tight.f kj3 t2 (strOfNums y5)).bind fun t18 => ((r10_Tight.f kj3 t2 (strOfNums y5)).bind fun t21 => ((r1_Texts.f kj3 t18 t21).bind fun t24 => (if t24 = true then ((law13_names.f kj3 l1).bind fun t25 => ((room_Share.f kj3 t2 t25).bind fun bt28 => ((law13_names.f kj3 l1).bind fun t31 => ((r10_Share.f kj3 t2 t31).bind fun bt34 => (if (bt28.1 == bt34.1 && (bt28.2.1 == bt34.2.1 && (bt28.2.2 == bt34.2.2))) = true then ((law13_awake.f kj3).bind fun t37 => (some t37)) else (some false)))))) else (some false))))) else (some false)) else (some false)))))) = some r := by rw [if_neg (show ¬ (false = true) by decide)] at H; exact H
    clear H
    have H := H1
    clear H1
    replace H := Option.bind_eq_some_iff.mp H
    obtain ⟨t2, A90, H⟩ := H
    replace H : ((some (([(97 + (Int.tmod a2 25)) % 256] : List Int) : List Int)).bind fun y5 => ((room_Of.f kj3 t2 (strOfNums y5)).bind fun bt8 => ((r10_Room.f kj3 t2 (strOfNums y5)).bind fun bt13 => (if (bt8.1 == bt13.1 && (bt8.2.1 == bt13.2.1 && (bt8.2.2.1 == bt13.2.2.1))) = true then (if (bt8.2.2.2 == bt13.2.2.2) = true then ((room_Tight.f kj3 t2 (strOfNums y5)).bind fun t18 => ((r10_Tight.f kj3 t2 (strOfNums y5)).bind fun t21 => ((r1_Texts.f kj3 t18 t21).bind fun t24 => (if t24 = true then ((law13_names.f kj3 l1).bind fun t25 => ((room_Share.f kj3 t2 t25).bind fun bt28 => ((law13_names.f kj3 l1).bind fun t31 => ((r10_Share.f kj3 t2 t31).bind fun bt34 => (if (bt28.1 == bt34.1 && (bt28.2.1 == bt34.2.1 && (bt28.2.2 == bt34.2.2))) = true then ((law13_awake.f kj3).bind fun t37 => (some t37)) else (some false)))))) else (some false))))) else (some false)) else (some false))))) = some r := H
    have A9 := Aside0.mk A90
    clear A90
    obtain ⟨y5, hy5⟩ : ∃ y_ : List Int, y_ = (([(97 + (Int.tmod a2 25)) % 256] : List Int)) := ⟨_, rfl⟩
    replace H : ((room_Of.f kj3 t2 (strOfNums y5)).bind fun bt8 => ((r10_Room.f kj3 t2 (strOfNums y5)).bind fun bt13 => (if (bt8.1 == bt13.1 && (bt8.2.1 == bt13.2.1 && (bt8.2.2.1 == bt13.2.2.1))) = true then (if (bt8.2.2.2 == bt13.2.2.2) = true then ((room_Tight.f kj3 t2 (strOfNums y5)).bind fun t18 => ((r10_Tight.f kj3 t2 (strOfNums y5)).bind fun t21 => ((r1_Texts.f kj3 t18 t21).bind fun t24 => (if t24 = true then ((law13_names.f kj3 l1).bind fun t25 => ((room_Share.f kj3 t2 t25).bind fun bt28 => ((law13_names.f kj3 l1).bind fun t31 => ((r10_Share.f kj3 t2 t31).bind fun bt34 => (if (bt28.1 == bt34.1 && (bt28.2.1 == bt34.2.1 && (bt28.2.2 == bt34.2.2))) = true then ((law13_awake.f kj3).bind fun t37 => (some t37)) else (some false)))))) else (some false))))) else (some false)) else (some false)))) = some r := by first|(rw [hy5];with_reducible exact H)|(have H2_ := (Option.bind_some _ _).symm.trans H;rw [hy5];with_reducible exact H2_)|(have H2_ := (Option.bind_some _ _).symm.trans H;with_reducible exact H2_)|with_reducible exact H|(rw [hy5];exact H)|exact H
    have Ny5 := Aside0.mk hy5
    clear hy5
    replace H := Option.bind_eq_some_iff.mp H
    obtain ⟨⟨t8, t9, t10, t11⟩, A100, H⟩ := H
    replace H : ((r10_Room.f kj3 t2 (strOfNums y5)).bind fun bt13 => (if (t8 == bt13.1 && (t9 == bt13.2.1 && (t10 == bt13.2.2.1))) = true then (if (t11 == bt13.2.2.2) = true then ((room_Tight.f kj3 t2 (strOfNums y5)).bind fun t18 => ((r10_Tight.f kj3 t2 (strOfNums y5)).bind fun t21 => ((r1_Texts.f kj3 t18 t21).bind fun t24 => (if t24 = true then ((law13_names.f kj3 l1).bind fun t25 => ((room_Share.f kj3 t2 t25).bind fun bt28 => ((law13_names.f kj3 l1).bind fun t31 => ((r10_Share.f kj3 t2 t31).bind fun bt34 => (if (bt28.1 == bt34.1 && (bt28.2.1 == bt34.2.1 && (bt28.2.2 == bt34.2.2))) = true then ((law13_awake.f kj3).bind fun t37 => (some t37)) else (some false)))))) else (some false))))) else (some false)) else (some false))) = some r := H
    have A10 := Aside0.mk A100
    clear A100
    replace H := Option.bind_eq_some_iff.mp H
    obtain ⟨⟨t13, t14, t15, t16⟩, A110, H⟩ := H
    replace H : (if (t8 == t13 && (t9 == t14 && (t10 == t15))) = true then (if (t11 == t16) = true then ((room_Tight.f kj3 t2 (strOfNums y5)).bind fun t18 => ((r10_Tight.f kj3 t2 (strOfNums y5)).bind fun t21 => ((r1_Texts.f kj3 t18 t21).bind fun t24 => (if t24 = true then ((law13_names.f kj3 l1).bind fun t25 => ((room_Share.f kj3 t2 t25).bind fun bt28 => ((law13_names.f kj3 l1).bind fun t31 => ((r10_Share.f kj3 t2 t31).bind fun bt34 => (if (bt28.1 == bt34.1 && (bt28.2.1 == bt34.2.1 && (bt28.2.2 == bt34.2.2))) = true then ((law13_awake.f kj3).bind fun t37 => (some t37)) else (some false)))))) else (some false))))) else (some false)) else (some false)) = some r := H
    have A11 := Aside0.mk A110
    clear A110
    by_cases c12 : (t8 == t13 && (t9 == t14 && (t10 == t15))) = true
    ·rw [if_pos c12] at H
     have c12b0 : (t8 == t13 && (t9 == t14 && (t10 == t15))) = true := c12
     (try (have c12b1 : decide (t8 = t13 && (t9 == t14 && (t10 == t15))) = true := by simpa using c12))
     (try (have c12b2 : (t8 == t13 && (t9 == t14 && (t10 == t15))) = true := by simpa using c12))
     clear c12
     by_cases c13 : (t11 == t16) = true
     ·rw [if_pos c13] at H
      have c13b0 : (t11 == t16) = true := c13
      (try (have c13b1 : decide (t11 = t16) = true := by simpa using c13))
      (try (have c13b2 : (t11 == t16) = true := by simpa using c13))
      clear c13
      replace H := Option.bind_eq_some_iff.mp H
      obtain ⟨t18, A140, H⟩ := H
      replace H : ((r10_Tight.f kj3 t2 (strOfNums y5)).bind fun t21 => ((r1_Texts.f kj3 t18 t21).bind fun t24 => (if t24 = true then ((law13_names.f kj3 l1).bind fun t25 => ((room_Share.f kj3 t2 t25).bind fun bt28 => ((law13_names.f kj3 l1).bind fun t31 => ((r10_Share.f kj3 t2 t31).bind fun bt34 => (if (bt28.1 == bt34.1 && (bt28.2.1 == bt34.2.1 && (bt28.2.2 == bt34.2.2))) = true then ((law13_awake.f kj3).bind fun t37 => (some t37)) else (some false)))))) else (some false)))) = some r := H
      have A14 := Aside0.mk A140
      clear A140
      replace H := Option.bind_eq_some_iff.mp H
      obtain ⟨t21, A150, H⟩ := H
      replace H : ((r1_Texts.f kj3 t18 t21).bind fun t24 => (if t24 = true then ((law13_names.f kj3 l1).bind fun t25 => ((room_Share.f kj3 t2 t25).bind fun bt28 => ((law13_names.f kj3 l1).bind fun t31 => ((r10_Share.f kj3 t2 t31).bind fun bt34 => (if (bt28.1 == bt34.1 && (bt28.2.1 == bt34.2.1 && (bt28.2.2 == bt34.2.2))) = true then ((law13_awake.f kj3).bind fun t37 => (some t37)) else (some false)))))) else (some false))) = some r := H
      have A15 := Aside0.mk A150
      clear A150
      replace H := Option.bind_eq_some_iff.mp H
      obtain ⟨t24, A160, H⟩ := H
      replace H : (if t24 = true then ((law13_names.f kj3 l1).bind fun t25 => ((room_Share.f kj3 t2 t25).bind fun bt28 => ((law13_names.f kj3 l1).bind fun t31 => ((r10_Share.f kj3 t2 t31).bind fun bt34 => (if (bt28.1 == bt34.1 && (bt28.2.1 == bt34.2.1 && (bt28.2.2 == bt34.2.2))) = true then ((law13_awake.f kj3).bind fun t37 => (some t37)) else (some false)))))) else (some false)) = some r := H
      have A16 := Aside0.mk A160
      clear A160
      by_cases c17 : t24 = true
      ·subst c17
       have H1 : ((law13_names.f kj3 l1).bind fun t25 => ((room_Share.f kj3 t2 t25).bind fun bt28 => ((law13_names.f kj3 l1).bind fun t31 => ((r10_Share.f kj3 t2 t31).bind fun bt34 => (if (bt28.1 == bt34.1 && (bt28.2.1 == bt34.2.1 && (bt28.2.2 == bt34.2.2))) = true then ((law13_awake.f kj3).bind fun t37 => (some t37)) else (some false)))))) = some r := by rw [if_pos rfl] at H; exact H
       clear H
       have H := H1
       clear H1
       replace H := Option.bind_eq_some_iff.mp H
       obtain ⟨t25, A180, H⟩ := H
       replace H : ((room_Share.f kj3 t2 t25).bind fun bt28 => ((law13_names.f kj3 l1).bind fun t31 => ((r10_Share.f kj3 t2 t31).bind fun bt34 => (if (bt28.1 == bt34.1 && (bt28.2.1 == bt34.2.1 && (bt28.2.2 == bt34.2.2))) = true then ((law13_awake.f kj3).bind fun t37 => (some t37)) else (some false))))) = some r := H
       have A18 := Aside0.mk A180
       clear A180
       replace H := Option.bind_eq_some_iff.mp H
       obtain ⟨⟨t28, t29, t30⟩, A190, H⟩ := H
       replace H : ((law13_names.f kj3 l1).bind fun t31 => ((r10_Share.f kj3 t2 t31).bind fun bt34 => (if (t28 == bt34.1 && (t29 == bt34.2.1 && (t30 == bt34.2.2))) = true then ((law13_awake.f kj3).bind fun t37 => (some t37)) else (some false)))) = some r := H
       have A19 := Aside0.mk A190
       clear A190
       replace H := Option.bind_eq_some_iff.mp H
       obtain ⟨t31, A200, H⟩ := H
       replace H : ((r10_Share.f kj3 t2 t31).bind fun bt34 => (if (t28 == bt34.1 && (t29 == bt34.2.1 && (t30 == bt34.2.2))) = true then ((law13_awake.f kj3).bind fun t37 => (some t37)) else (some false))) = some r := H
       have A20 := Aside0.mk A200
       clear A200
       obtain rfl : t25 = t31 := Option.some.inj (A18.out.symm.trans A20.out)
       replace H := Option.bind_eq_some_iff.mp H
       obtain ⟨⟨t34, t35, t36⟩, A210, H⟩ := H
       replace H : (if (t28 == t34 && (t29 == t35 && (t30 == t36))) = true then ((law13_awake.f kj3).bind fun t37 => (some t37)) else (some false)) = some r := H
       have A21 := Aside0.mk A210
       clear A210
       by_cases c22 : (t28 == t34 && (t29 == t35 && (t30 == t36))) = true
       ·rw [if_pos c22] at H
        have c22b0 : (t28 == t34 && (t29 == t35 && (t30 == t36))) = true := c22
        (try (have c22b1 : decide (t28 = t34 && (t29 == t35 && (t30 == t36))) = true := by simpa using c22))
        (try (have c22b2 : (t28 == t34 && (t29 == t35 && (t30 == t36))) = true := by simpa using c22))
        clear c22
        replace H := Option.bind_eq_some_iff.mp H
        obtain ⟨t37, A230, H⟩ := H
        replace H : (some t37) = some r := H
        have A23 := Aside0.mk A230
        clear A230
        obtain rfl := Option.some.inj H
        go_wp2_with (first|((with_reducible refine gate_callee (f := 32) rfl ?_);refine goesL_ (some 23) rfl rfl Try.func32 (by kernel_rfl) rfl #[.slice A0 l0.length c0] rfl (by (try simp only [List.map_toArray, List.map_cons, List.map_nil]);first|done|rfl|(simp only [List.length_drop, List.length_take];rfl)) ?_;(with_reducible refine (law12_Make.calls kj3 _ _ l0 t2 _ ?side1 ?side2 A9.out).mono ?_);(case side1 => repeat (first|exact (Kd.C_below HR0.out HB.out)|(with_reducible refine Kd.C_alloc ?_ _)|(with_reducible refine Kd.C_drewN ?_ _)|(with_reducible refine Kd.C_drew ?_)));(case side2 => exact HC0.out);rintro e w24 ⟨v3, rfl, ho0, hb⟩;refine ⟨_, rfl, ?_⟩;have n0_ := Aside0.mk (Kd.R_lower ho0 (below_size (by repeat (first|(with_reducible first|exact HB.out|apply below_alloc|apply pw_below_drewN|apply below_drew1)|exact HB.out))));have n1_ := Aside0.mk (below_step (by repeat (first|(with_reducible first|exact HB.out|apply below_alloc|apply pw_below_drewN|apply below_drew1)|exact HB.out)) hb);clear HB;have HO4 := n0_;have HB := n1_;clear n0_ n1_;(try clear hb);(try clear hb2);(try clear hk);(try clear hi);(try clear ho0))|((with_reducible refine gate_dst (N := 27) rfl ?_);(try (refine gate_guard (by rfl) ?_;dsimp only));refine Kd.R_lit (Kd.int .u8) _ 5 ?hg (N := 27) ?hd (xs := ([(97 + (Int.tmod a2 25)) % 256] : List Int)) (inner := [.int .u8 ((97 + (Int.tmod a2 25)) % 256)]) (ok := fun _ => True) (okp := fun _ => True) ?hr ?hp (fun _ hk => hk) trivial (Below.refl _ _) (Nat.le_refl _) (by simp) ?_;(case hd => rfl);(case hg => rfl);(case hr => first|(go_simp;done)|(go_simp;rfl));(case hp => exact (Reps.one (show Kd.M (Kd.int .u8) _ _ _ ((97 + (Int.tmod a2 25)) % 256) [.int .u8 ((97 + (Int.tmod a2 25)) % 256)] from rfl) (Reps.none _ _)));intro v6 w25 ho26 hb hg_ hnew_;clear hg_ hnew_;(first|rw [← Ny5.out] at ho26|(simp only [Int.reduceToNat] at ho26;rw [← Ny5.out] at ho26));have n0_ := Aside0.mk (Kd.R_below (by (with_reducible repeat (first|apply Kd.R_alloc|apply Kd.R_drewN|apply Kd.R_drew));exact HO4.out) hb);have n1_ := Aside0.mk (Kd.R_lower ho26 (below_size (by repeat (first|(with_reducible first|exact HB.out|apply below_alloc|apply pw_below_drewN|apply below_drew1)|exact HB.out))));have n2_ := Aside0.mk (below_step (by repeat (first|(with_reducible first|exact HB.out|apply below_alloc|apply pw_below_drewN|apply below_drew1)|exact HB.out)) hb);clear HO4;clear HB;have HO4 := n0_;have HO7 := n1_;have HB := n2_;clear n0_ n1_ n2_;clear hb ho26;have hcv27 := own_string (P := Try.prog) Try.underlying22 Try.underlying5 Try.underlying9 (Kd.own_of_R HO7.out);obtain ⟨Ao28, co28, eo28⟩ := Kd.R_slice HO4.out;subst eo28)|((with_reducible refine gate_callee (f := 33) rfl ?_);refine goesL_ (some 32) rfl rfl Try.func33 (by kernel_rfl) rfl #[.slice Ao28 t2.length co28, .string (strOfNums y5)] rfl (by (try simp only [List.map_toArray, List.map_cons, List.map_nil]);first|done|rfl|(simp only [List.length_drop, List.length_take];rfl)) ?_;(with_reducible refine (room_Of.calls kj3 _ _ t2 (strOfNums y5) t8 t9 t10 t11 _ ?side1 ?side2 A10.out).mono ?_);(case side1 => repeat (first|exact (Kd.R_reads' HO4.out).2.2|(with_reducible refine Kd.C_alloc ?_ _)|(with_reducible refine Kd.C_drewN ?_ _)|(with_reducible refine Kd.C_drew ?_)));(case side2 => exact (Kd.R_reads' HO4.out).2.1);rintro e w29 ⟨rfl, hb⟩;refine ⟨_, rfl, ?_⟩;have n0_ := Aside0.mk (Kd.R_below (by (with_reducible repeat (first|apply Kd.R_alloc|apply Kd.R_drewN|apply Kd.R_drew));exact HO4.out) hb);have n1_ := Aside0.mk (Kd.R_below (by (with_reducible repeat (first|apply Kd.R_alloc|apply Kd.R_drewN|apply Kd.R_drew));exact HO7.out) hb);have n2_ := Aside0.mk (below_step (by repeat (first|(with_reducible first|exact HB.out|apply below_alloc|apply pw_below_drewN|apply below_drew1)|exact HB.out)) hb);clear HO4;clear HO7;clear HB;have HO4 := n0_;have HO7 := n1_;have HB := n2_;clear n0_ n1_ n2_;(try clear hb);(try clear hb2);(try clear hk);(try clear hi))|((with_reducible refine gate_dst (N := 9) rfl ?_);(try (refine gate_guard (by rfl) ?_;dsimp only));refine box_event ?hg (N := 9) ?hd (cs := #[.int .i64 0, .int .i64 0, .int .i64 0]) (t := 27) ?hr ?_;(case hd => rfl);(case hg => rfl);(case hr => first|(go_simp;done)|(go_simp;rfl));intro gb12 hg w30 hbox hb;have n0_ := Aside0.mk (Kd.R_below (by (with_reducible repeat (first|apply Kd.R_alloc|apply Kd.R_drewN|apply Kd.R_drew));exact HO4.out) hb);have n1_ := Aside0.mk (Kd.R_below (by (with_reducible repeat (first|apply Kd.R_alloc|apply Kd.R_drewN|apply Kd.R_drew));exact HO7.out) hb);have n2_ := Aside0.mk (below_step (by repeat (first|(with_reducible first|exact HB.out|apply below_alloc|apply pw_below_drewN|apply below_drew1)|exact HB.out)) hb);have n3_ := Aside0.mk (hbox);have n4_ := Aside0.mk ((by rw [hg];exact (below_size (by repeat (first|(with_reducible first|exact HB.out|apply below_alloc|apply pw_below_drewN|apply below_drew1)|exact HB.out))) : w.heap.size ≤ gb12));have n5_ := Aside0.mk ((by rw [hg];exact (below_size (by repeat (first|(with_reducible first|exact HB.out|apply below_alloc|apply pw_below_drewN|apply below_drew1)|exact HB.out))) : w.heap.size ≤ gb12));clear HO4;clear HO7;clear HB;have HO4 := n0_;have HO7 := n1_;have HB := n2_;have BK12 := n3_;have GW12 := n4_;have GE12 := n5_;clear n0_ n1_ n2_ n3_ n4_ n5_;clear hb hbox hg;have hcz31_0 : w30.cell? ⟨gb12, 0, none⟩ = some (.int .i64 0) := (blk_cell BK12.out 0).trans rfl;have hcz31_1 : w30.cell? ⟨gb12, 1, none⟩ = some (.int .i64 0) := (blk_cell BK12.out 1).trans rfl;have hcz31_2 : w30.cell? ⟨gb12, 2, none⟩ = some (.int .i64 0) := (blk_cell BK12.out 2).trans rfl;have hfz31_0 := blk_frozen BK12.out 0;have hfz31_1 := blk_frozen BK12.out 1;have hfz31_2 := blk_frozen BK12.out 2)|((with_reducible refine gate_callee (f := 78) rfl ?_);refine goesL_ (some 38) rfl rfl Try.func78 (by kernel_rfl) rfl #[.slice Ao28 t2.length co28, .string (strOfNums y5)] rfl (by (try simp only [List.map_toArray, List.map_cons, List.map_nil]);first|done|rfl|(simp only [List.length_drop, List.length_take];rfl)) ?_;(with_reducible refine (r10_Room.calls kj3 _ _ t2 (strOfNums y5) t13 t14 t15 t16 _ ?side1 ?side2 A11.out).mono ?_);(case side1 => refine (Kd.R_reads' (e := 31) (base := w.heap.size) (ok := fun k_ => True) (n := t2.length) (c := co28) ?_).2.2;exact (by (with_reducible repeat (first|apply Kd.R_alloc|apply Kd.R_drewN|apply Kd.R_drew));exact (Kd.R_mono (Kd.R_far (p := ⟨gb12, 2, none⟩) (Kd.R_far (p := ⟨gb12, 1, none⟩) (Kd.R_far (p := ⟨gb12, 0, none⟩) (Kd.R_types HO4.out BK12.out (by decide)) (fun _ hk => hk.2) (.int .i64 t8)) (fun _ hk => hk.2) (.int .i64 t9)) (fun _ hk => hk.2) (.int .i64 t10)) (fun _ h_ => h_.1))));(case side2 => exact (Kd.R_reads' HO4.out).2.1);rintro e w32 ⟨rfl, hb⟩;refine ⟨_, rfl, ?_⟩;have n0_ := Aside0.mk (Kd.R_below (by (with_reducible repeat (first|apply Kd.R_alloc|apply Kd.R_drewN|apply Kd.R_drew));exact (Kd.R_mono (Kd.R_far (p := ⟨gb12, 2, none⟩) (Kd.R_far (p := ⟨gb12, 1, none⟩) (Kd.R_far (p := ⟨gb12, 0, none⟩) (Kd.R_types HO4.out BK12.out (by decide)) (fun _ hk => hk.2) (.int .i64 t8)) (fun _ hk => hk.2) (.int .i64 t9)) (fun _ hk => hk.2) (.int .i64 t10)) (fun _ h_ => h_.1))) hb);have n1_ := Aside0.mk (Kd.R_below (by (with_reducible repeat (first|apply Kd.R_alloc|apply Kd.R_drewN|apply Kd.R_drew));exact (Kd.R_mono (Kd.R_far (p := ⟨gb12, 2, none⟩) (Kd.R_far (p := ⟨gb12, 1, none⟩) (Kd.R_far (p := ⟨gb12, 0, none⟩) (Kd.R_types HO7.out BK12.out (by decide)) (fun _ hk => hk.2) (.int .i64 t8)) (fun _ hk => hk.2) (.int .i64 t9)) (fun _ hk => hk.2) (.int .i64 t10)) (fun _ h_ => h_.1))) hb);have n2_ := Aside0.mk (blk_below (g := gb12) (o := .cells #[.int .i64 t8, .int .i64 t9, .int .i64 t10] 27 (0, 0)) (by (with_reducible repeat (first|refine blk_drewN ?_ _|refine blk_drew ?_|refine blk_alloc ?_ _));refine blk_put (cs := #[.int .i64 t8, .int .i64 t9, .int .i64 0]) ?_ 2 _ rfl;(with_reducible repeat (first|refine blk_drewN ?_ _|refine blk_drew ?_|refine blk_alloc ?_ _));refine blk_put (cs := #[.int .i64 t8, .int .i64 0, .int .i64 0]) ?_ 1 _ rfl;(with_reducible repeat (first|refine blk_drewN ?_ _|refine blk_drew ?_|refine blk_alloc ?_ _));refine blk_put (cs := #[.int .i64 0, .int .i64 0, .int .i64 0]) ?_ 0 _ rfl;(with_reducible repeat (first|refine blk_drewN ?_ _|refine blk_drew ?_|refine blk_alloc ?_ _));exact BK12.out) hb);have n3_ := Aside0.mk (below_step (by repeat (first|(with_reducible first|exact HB.out|apply below_alloc|apply pw_below_drewN|apply below_drew1|refine below_set ?_ GE12.out)|exact HB.out)) hb);clear HO4;clear HO7;clear BK12;clear HB;have HO4 := n0_;have HO7 := n1_;have BK12 := n2_;have HB := n3_;clear n0_ n1_ n2_ n3_;(try clear hb);(try clear hb2);(try clear hk);(try clear hi))|((with_reducible refine gate_dst (N := 11) rfl ?_);(try (refine gate_guard (by rfl) ?_;dsimp only));refine box_event ?hg (N := 11) ?hd (cs := #[.int .i64 0, .int .i64 0, .int .i64 0]) (t := 27) ?hr ?_;(case hd => rfl);(case hg => rfl);(case hr => first|(go_simp;done)|(go_simp;rfl));intro gb17 hg w33 hbox hb;have n0_ := Aside0.mk (Kd.R_below (by (with_reducible repeat (first|apply Kd.R_alloc|apply Kd.R_drewN|apply Kd.R_drew));exact HO4.out) hb);have n1_ := Aside0.mk (Kd.R_below (by (with_reducible repeat (first|apply Kd.R_alloc|apply Kd.R_drewN|apply Kd.R_drew));exact HO7.out) hb);have n2_ := Aside0.mk (blk_below (g := gb12) (o := .cells #[.int .i64 t8, .int .i64 t9, .int .i64 t10] 27 (0, 0)) (by (with_reducible repeat (first|refine blk_drewN ?_ _|refine blk_drew ?_|refine blk_alloc ?_ _));exact BK12.out) hb);have n3_ := Aside0.mk (below_step (by repeat (first|(with_reducible first|exact HB.out|apply below_alloc|apply pw_below_drewN|apply below_drew1|refine below_set ?_ GE12.out)|exact HB.out)) hb);have n4_ := Aside0.mk (hbox);have n5_ := Aside0.mk ((by rw [hg];exact (below_size (by repeat (first|(with_reducible first|exact HB.out|apply below_alloc|apply pw_below_drewN|apply below_drew1|refine below_set ?_ GE12.out)|exact HB.out))) : w.heap.size ≤ gb17));have n6_ := Aside0.mk ((by rw [hg];exact (below_size (by repeat (first|(with_reducible first|exact HB.out|apply below_alloc|apply pw_below_drewN|apply below_drew1|refine below_set ?_ GE12.out)|exact HB.out))) : w.heap.size ≤ gb17));have n7_ := Aside0.mk ((by rw [hg];exact Nat.ne_of_lt (blk_lt (g := gb12) (o := .cells #[.int .i64 t8, .int .i64 t9, .int .i64 t10] 27 (0, 0)) (by (with_reducible repeat (first|refine blk_drewN ?_ _|refine blk_drew ?_|refine blk_alloc ?_ _));exact BK12.out)) : gb12 ≠ gb17));have n8_ := Aside0.mk ((by rw [hg];exact Nat.ne_of_gt (blk_lt (g := gb12) (o := .cells #[.int .i64 t8, .int .i64 t9, .int .i64 t10] 27 (0, 0)) (by (with_reducible repeat (first|refine blk_drewN ?_ _|refine blk_drew ?_|refine blk_alloc ?_ _));exact BK12.out)) : gb17 ≠ gb12));clear HO4;clear HO7;clear BK12;clear HB;have HO4 := n0_;have HO7 := n1_;have BK12 := n2_;have HB := n3_;have BK17 := n4_;have GW17 := n5_;have GE17 := n6_;have NB12_17 := n7_;have NB17_12 := n8_;clear n0_ n1_ n2_ n3_ n4_ n5_ n6_ n7_ n8_;clear hb hbox hg;have hnb34 := NB17_12.out;have hnc34 := NB12_17.out;have hcz35_0 : w33.cell? ⟨gb17, 0, none⟩ = some (.int .i64 0) := (blk_cell BK17.out 0).trans rfl;have hcz35_1 : w33.cell? ⟨gb17, 1, none⟩ = some (.int .i64 0) := (blk_cell BK17.out 1).trans rfl;have hcz35_2 : w33.cell? ⟨gb17, 2, none⟩ = some (.int .i64 0) := (blk_cell BK17.out 2).trans rfl;have hfz35_0 := blk_frozen BK17.out 0;have hfz35_1 := blk_frozen BK17.out 1;have hfz35_2 := blk_frozen BK17.out 2;have hcz36_0 : w33.cell? ⟨gb12, 0, none⟩ = some (.int .i64 t8) := (blk_cell BK12.out 0).trans rfl;have hcz36_1 : w33.cell? ⟨gb12, 1, none⟩ = some (.int .i64 t9) := (blk_cell BK12.out 1).trans rfl;have hcz36_2 : w33.cell? ⟨gb12, 2, none⟩ = some (.int .i64 t10) := (blk_cell BK12.out 2).trans rfl;have hfz36_0 := blk_frozen BK12.out 0;have hfz36_1 := blk_frozen BK12.out 1;have hfz36_2 := blk_frozen BK12.out 2)|(go_at_call 64;(with_reducible refine (room_Tight.calls kj3 _ _ t2 (strOfNums y5) t18 _ ?side1 ?side2 A14.out).mono ?_);(case side1 => refine (Kd.R_reads' (e := 31) (base := w.heap.size) (ok := fun k_ => True) (n := t2.length) (c := co28) ?_).2.2;exact (by (with_reducible repeat (first|apply Kd.R_alloc|apply Kd.R_drewN|apply Kd.R_drew));exact (Kd.R_mono (Kd.R_far (p := ⟨gb17, 2, none⟩) (Kd.R_far (p := ⟨gb17, 1, none⟩) (Kd.R_far (p := ⟨gb17, 0, none⟩) (Kd.R_types HO4.out BK17.out (by decide)) (fun _ hk => hk.2) (.int .i64 t13)) (fun _ hk => hk.2) (.int .i64 t14)) (fun _ hk => hk.2) (.int .i64 t15)) (fun _ h_ => h_.1))));(case side2 => exact (Kd.R_reads' HO4.out).2.1);rintro e w37 ⟨v19, rfl, ho0, hb⟩;have n0_ := Aside0.mk (Kd.R_below (by (with_reducible repeat (first|apply Kd.R_alloc|apply Kd.R_drewN|apply Kd.R_drew));exact (Kd.R_mono (Kd.R_far (p := ⟨gb17, 2, none⟩) (Kd.R_far (p := ⟨gb17, 1, none⟩) (Kd.R_far (p := ⟨gb17, 0, none⟩) (Kd.R_types HO4.out BK17.out (by decide)) (fun _ hk => hk.2) (.int .i64 t13)) (fun _ hk => hk.2) (.int .i64 t14)) (fun _ hk => hk.2) (.int .i64 t15)) (fun _ h_ => h_.1))) hb);have n1_ := Aside0.mk (Kd.R_below (by (with_reducible repeat (first|apply Kd.R_alloc|apply Kd.R_drewN|apply Kd.R_drew));exact (Kd.R_mono (Kd.R_far (p := ⟨gb17, 2, none⟩) (Kd.R_far (p := ⟨gb17, 1, none⟩) (Kd.R_far (p := ⟨gb17, 0, none⟩) (Kd.R_types HO7.out BK17.out (by decide)) (fun _ hk => hk.2) (.int .i64 t13)) (fun _ hk => hk.2) (.int .i64 t14)) (fun _ hk => hk.2) (.int .i64 t15)) (fun _ h_ => h_.1))) hb);have n2_ := Aside0.mk (Kd.R_lower ho0 (below_size (by repeat (first|(with_reducible first|exact HB.out|apply below_alloc|apply pw_below_drewN|apply below_drew1|refine below_set ?_ GE12.out|refine below_set ?_ GE17.out)|exact HB.out))));have n3_ := Aside0.mk (blk_below (g := gb12) (o := .cells #[.int .i64 t8, .int .i64 t9, .int .i64 t10] 27 (0, 0)) (by (with_reducible repeat (first|refine blk_drewN ?_ _|refine blk_drew ?_|refine blk_alloc ?_ _));refine blk_far ?_ NB12_17.out _;(with_reducible repeat (first|refine blk_drewN ?_ _|refine blk_drew ?_|refine blk_alloc ?_ _));refine blk_far ?_ NB12_17.out _;(with_reducible repeat (first|refine blk_drewN ?_ _|refine blk_drew ?_|refine blk_alloc ?_ _));refine blk_far ?_ NB12_17.out _;(with_reducible repeat (first|refine blk_drewN ?_ _|refine blk_drew ?_|refine blk_alloc ?_ _));exact BK12.out) hb);have n4_ := Aside0.mk (blk_below (g := gb17) (o := .cells #[.int .i64 t13, .int .i64 t14, .int .i64 t15] 27 (0, 0)) (by (with_reducible repeat (first|refine blk_drewN ?_ _|refine blk_drew ?_|refine blk_alloc ?_ _));refine blk_put (cs := #[.int .i64 t13, .int .i64 t14, .int .i64 0]) ?_ 2 _ rfl;(with_reducible repeat (first|refine blk_drewN ?_ _|refine blk_drew ?_|refine blk_alloc ?_ _));refine blk_put (cs := #[.int .i64 t13, .int .i64 0, .int .i64 0]) ?_ 1 _ rfl;(with_reducible repeat (first|refine blk_drewN ?_ _|refine blk_drew ?_|refine blk_alloc ?_ _));refine blk_put (cs := #[.int .i64 0, .int .i64 0, .int .i64 0]) ?_ 0 _ rfl;(with_reducible repeat (first|refine blk_drewN ?_ _|refine blk_drew ?_|refine blk_alloc ?_ _));exact BK17.out) hb);have n5_ := Aside0.mk (below_step (by repeat (first|(with_reducible first|exact HB.out|apply below_alloc|apply pw_below_drewN|apply below_drew1|refine below_set ?_ GE12.out|refine below_set ?_ GE17.out)|exact HB.out)) hb);clear HO4;clear HO7;clear BK12;clear BK17;clear HB;have HO4 := n0_;have HO7 := n1_;have HO20 := n2_;have BK12 := n3_;have BK17 := n4_;have HB := n5_;clear n0_ n1_ n2_ n3_ n4_ n5_;(try clear hb);(try clear hb2);(try clear hk);(try clear hi);(try clear ho0))|(go_at_call 80;(with_reducible refine (r10_Tight.calls kj3 _ _ t2 (strOfNums y5) t21 _ ?side1 ?side2 A15.out).mono ?_);(case side1 => repeat (first|exact (Kd.R_reads' HO4.out).2.2|(with_reducible refine Kd.C_alloc ?_ _)|(with_reducible refine Kd.C_drewN ?_ _)|(with_reducible refine Kd.C_drew ?_)));(case side2 => exact (Kd.R_reads' HO4.out).2.1);rintro e w38 ⟨v22, rfl, ho0, hb⟩;have n0_ := Aside0.mk (Kd.R_below (by (with_reducible repeat (first|apply Kd.R_alloc|apply Kd.R_drewN|apply Kd.R_drew));exact HO4.out) hb);have n1_ := Aside0.mk (Kd.R_below (by (with_reducible repeat (first|apply Kd.R_alloc|apply Kd.R_drewN|apply Kd.R_drew));exact HO7.out) hb);have n2_ := Aside0.mk (Kd.R_elder' (by (with_reducible repeat (first|apply Kd.R_alloc|apply Kd.R_drewN|apply Kd.R_drew));exact HO20.out) (Kd.R_base ho0) hb);have n3_ := Aside0.mk (Kd.R_lower (Kd.R_new' ho0 (Kd.R_lt (by (with_reducible repeat (first|apply Kd.R_alloc|apply Kd.R_drewN|apply Kd.R_drew));exact HO20.out))) (below_size (by repeat (first|(with_reducible first|exact HB.out|apply below_alloc|apply pw_below_drewN|apply below_drew1|refine below_set ?_ GE12.out|refine below_set ?_ GE17.out)|exact HB.out))));have n4_ := Aside0.mk (blk_below (g := gb12) (o := .cells #[.int .i64 t8, .int .i64 t9, .int .i64 t10] 27 (0, 0)) (by (with_reducible repeat (first|refine blk_drewN ?_ _|refine blk_drew ?_|refine blk_alloc ?_ _));exact BK12.out) hb);have n5_ := Aside0.mk (blk_below (g := gb17) (o := .cells #[.int .i64 t13, .int .i64 t14, .int .i64 t15] 27 (0, 0)) (by (with_reducible repeat (first|refine blk_drewN ?_ _|refine blk_drew ?_|refine blk_alloc ?_ _));exact BK17.out) hb);have n6_ := Aside0.mk (below_step (by repeat (first|(with_reducible first|exact HB.out|apply below_alloc|apply pw_below_drewN|apply below_drew1|refine below_set ?_ GE12.out|refine below_set ?_ GE17.out)|exact HB.out)) hb);clear HO4;clear HO7;clear HO20;clear BK12;clear BK17;clear HB;have HO4 := n0_;have HO7 := n1_;have HO20 := n2_;have HO23 := n3_;have BK12 := n4_;have BK17 := n5_;have HB := n6_;clear n0_ n1_ n2_ n3_ n4_ n5_ n6_;(try clear hb);(try clear hb2);(try clear hk);(try clear hi);(try clear ho0);obtain ⟨Ao39, co39, eo39⟩ := Kd.R_slice HO20.out;subst eo39;obtain ⟨Ao40, co40, eo40⟩ := Kd.R_slice HO23.out;subst eo40)|(go_at_call 79;(with_reducible refine (r1_Texts.calls kj3 _ _ t18 _ _ t21 true _ ?side1 ?side2 ?side3 ?side4 A16.out).mono ?_);(case side1 => repeat (first|exact (Kd.R_reads' HO20.out).2.2|(with_reducible refine Kd.C_alloc ?_ _)|(with_reducible refine Kd.C_drewN ?_ _)|(with_reducible refine Kd.C_drew ?_)));(case side2 => exact (Kd.R_reads' HO20.out).2.1);(case side3 => repeat (first|exact (Kd.R_reads' HO23.out).2.2|(with_reducible refine Kd.C_alloc ?_ _)|(with_reducible refine Kd.C_drewN ?_ _)|(with_reducible refine Kd.C_drew ?_)));(case side4 => exact (Kd.R_reads' HO23.out).2.1);rintro e w' ⟨rfl, ⟨nd, rfl⟩⟩)|(have hg_ := HO27.out;clear hg_;go_at_call 82;(with_reducible refine (law13_names.calls kj3 _ _ l1 t25 _ ?side1 ?side2 A20.out).mono ?_);(case side1 => repeat (first|exact (Kd.C_below HR1.out HB.out)|(with_reducible refine Kd.C_alloc ?_ _)|(with_reducible refine Kd.C_drewN ?_ _)|(with_reducible refine Kd.C_drew ?_)));(case side2 => exact HC1.out);rintro e w44 ⟨v32, rfl, ho0, hb⟩;have n0_ := Aside0.mk (Kd.R_below (by (with_reducible repeat (first|apply Kd.R_alloc|apply Kd.R_drewN|apply Kd.R_drew));exact HO4.out) hb);have n1_ := Aside0.mk (Kd.R_below (by (with_reducible repeat (first|apply Kd.R_alloc|apply Kd.R_drewN|apply Kd.R_drew));exact HO7.out) hb);have n2_ := Aside0.mk (Kd.R_elder' (by (with_reducible repeat (first|apply Kd.R_alloc|apply Kd.R_drewN|apply Kd.R_drew));exact HO20.out) (Kd.R_base ho0) hb);have n3_ := Aside0.mk (Kd.R_elder' (by (with_reducible repeat (first|apply Kd.R_alloc|apply Kd.R_drewN|apply Kd.R_drew));exact HO23.out) (Kd.R_base ho0) hb);have n4_ := Aside0.mk (Kd.R_elder' (by (with_reducible repeat (first|apply Kd.R_alloc|apply Kd.R_drewN|apply Kd.R_drew));exact HO27.out) (Kd.R_base ho0) hb);have n5_ := Aside0.mk (Kd.R_lower (Kd.R_new' (Kd.R_new' (Kd.R_new' ho0 (Kd.R_lt (by (with_reducible repeat (first|apply Kd.R_alloc|apply Kd.R_drewN|apply Kd.R_drew));exact HO20.out))) (Kd.R_lt (by (with_reducible repeat (first|apply Kd.R_alloc|apply Kd.R_drewN|apply Kd.R_drew));exact HO23.out))) (Kd.R_lt (by (with_reducible repeat (first|apply Kd.R_alloc|apply Kd.R_drewN|apply Kd.R_drew));exact HO27.out))) (below_size (by repeat (first|(with_reducible first|exact HB.out|apply below_alloc|apply pw_below_drewN|apply below_drew1|refine below_set ?_ GE12.out|refine below_set ?_ GE17.out)|exact HB.out))));have n6_ := Aside0.mk (blk_below (g := gb12) (o := .cells #[.int .i64 t8, .int .i64 t9, .int .i64 t10] 27 (0, 0)) (by (with_reducible repeat (first|refine blk_drewN ?_ _|refine blk_drew ?_|refine blk_alloc ?_ _));exact BK12.out) hb);have n7_ := Aside0.mk (blk_below (g := gb17) (o := .cells #[.int .i64 t13, .int .i64 t14, .int .i64 t15] 27 (0, 0)) (by (with_reducible repeat (first|refine blk_drewN ?_ _|refine blk_drew ?_|refine blk_alloc ?_ _));exact BK17.out) hb);have n8_ := Aside0.mk (below_step (by repeat (first|(with_reducible first|exact HB.out|apply below_alloc|apply pw_below_drewN|apply below_drew1|refine below_set ?_ GE12.out|refine below_set ?_ GE17.out)|exact HB.out)) hb);clear HO4;clear HO7;clear HO20;clear HO23;clear HO27;clear BK12;clear BK17;clear HB;have HO4 := n0_;have HO7 := n1_;have HO20 := n2_;have HO23 := n3_;have HO27 := n4_;have HO33 := n5_;have BK12 := n6_;have BK17 := n7_;have HB := n8_;clear n0_ n1_ n2_ n3_ n4_ n5_ n6_ n7_ n8_;(try clear hb);(try clear hb2);(try clear hk);(try clear hi);(try clear ho0);obtain ⟨Ao45, co45, eo45⟩ := Kd.R_slice HO33.out;subst eo45)|(go_at_call 82;(with_reducible refine (law13_names.calls kj3 _ _ l1 t25 _ ?side1 ?side2 A18.out).mono ?_);(case side1 => repeat (first|exact (Kd.C_below HR1.out (by repeat (first|(with_reducible first|exact HB.out|apply below_alloc|apply pw_below_drewN|apply below_drew1|refine below_set ?_ GE12.out|refine below_set ?_ GE17.out)|exact HB.out)))|(with_reducible refine Kd.C_alloc ?_ _)|(with_reducible refine Kd.C_drewN ?_ _)|(with_reducible refine Kd.C_drew ?_)));(case side2 => exact HC1.out);rintro e w41 ⟨v26, rfl, ho0, hb⟩;have n0_ := Aside0.mk (Kd.R_below (by (with_reducible repeat (first|apply Kd.R_alloc|apply Kd.R_drewN|apply Kd.R_drew));exact HO4.out) hb);have n1_ := Aside0.mk (Kd.R_below (by (with_reducible repeat (first|apply Kd.R_alloc|apply Kd.R_drewN|apply Kd.R_drew));exact HO7.out) hb);have n2_ := Aside0.mk (Kd.R_elder' (by (with_reducible repeat (first|apply Kd.R_alloc|apply Kd.R_drewN|apply Kd.R_drew));exact HO20.out) (Kd.R_base ho0) hb);have n3_ := Aside0.mk (Kd.R_elder' (by (with_reducible repeat (first|apply Kd.R_alloc|apply Kd.R_drewN|apply Kd.R_drew));exact HO23.out) (Kd.R_base ho0) hb);have n4_ := Aside0.mk (Kd.R_lower (Kd.R_new' (Kd.R_new' ho0 (Kd.R_lt (by (with_reducible repeat (first|apply Kd.R_alloc|apply Kd.R_drewN|apply Kd.R_drew));exact HO20.out))) (Kd.R_lt (by (with_reducible repeat (first|apply Kd.R_alloc|apply Kd.R_drewN|apply Kd.R_drew));exact HO23.out))) (below_size (by repeat (first|(with_reducible first|exact HB.out|apply below_alloc|apply pw_below_drewN|apply below_drew1|refine below_set ?_ GE12.out|refine below_set ?_ GE17.out)|exact HB.out))));have n5_ := Aside0.mk (blk_below (g := gb12) (o := .cells #[.int .i64 t8, .int .i64 t9, .int .i64 t10] 27 (0, 0)) (by (with_reducible repeat (first|refine blk_drewN ?_ _|refine blk_drew ?_|refine blk_alloc ?_ _));exact BK12.out) hb);have n6_ := Aside0.mk (blk_below (g := gb17) (o := .cells #[.int .i64 t13, .int .i64 t14, .int .i64 t15] 27 (0, 0)) (by (with_reducible repeat (first|refine blk_drewN ?_ _|refine blk_drew ?_|refine blk_alloc ?_ _));exact BK17.out) hb);have n7_ := Aside0.mk (below_step (by repeat (first|(with_reducible first|exact HB.out|apply below_alloc|apply pw_below_drewN|apply below_drew1|refine below_set ?_ GE12.out|refine below_set ?_ GE17.out)|exact HB.out)) hb);clear HO4;clear HO7;clear HO20;clear HO23;clear BK12;clear BK17;clear HB;have HO4 := n0_;have HO7 := n1_;have HO20 := n2_;have HO23 := n3_;have HO27 := n4_;have BK12 := n5_;have BK17 := n6_;have HB := n7_;clear n0_ n1_ n2_ n3_ n4_ n5_ n6_ n7_;(try clear hb);(try clear hb2);(try clear hk);(try clear hi);(try clear ho0);obtain ⟨Ao42, co42, eo42⟩ := Kd.R_slice HO27.out;subst eo42)|(go_at_call 74;(with_reducible refine (room_Share.calls kj3 _ _ t2 _ _ t25 t28 t29 t30 _ ?side1 ?side2 ?side3 ?side4 A19.out).mono ?_);(case side1 => repeat (first|exact (Kd.R_reads' HO4.out).2.2|(with_reducible refine Kd.C_alloc ?_ _)|(with_reducible refine Kd.C_drewN ?_ _)|(with_reducible refine Kd.C_drew ?_)));(case side2 => exact (Kd.R_reads' HO4.out).2.1);(case side3 => repeat (first|exact (Kd.R_reads' HO27.out).2.2|(with_reducible refine Kd.C_alloc ?_ _)|(with_reducible refine Kd.C_drewN ?_ _)|(with_reducible refine Kd.C_drew ?_)));(case side4 => exact (Kd.R_reads' HO27.out).2.1);rintro e w43 ⟨rfl, hb⟩;have n0_ := Aside0.mk (Kd.R_below (by (with_reducible repeat (first|apply Kd.R_alloc|apply Kd.R_drewN|apply Kd.R_drew));exact HO4.out) hb);have n1_ := Aside0.mk (Kd.R_below (by (with_reducible repeat (first|apply Kd.R_alloc|apply Kd.R_drewN|apply Kd.R_drew));exact HO7.out) hb);have n2_ := Aside0.mk (Kd.R_below (by (with_reducible repeat (first|apply Kd.R_alloc|apply Kd.R_drewN|apply Kd.R_drew));exact HO20.out) hb);have n3_ := Aside0.mk (Kd.R_below (by (with_reducible repeat (first|apply Kd.R_alloc|apply Kd.R_drewN|apply Kd.R_drew));exact HO23.out) hb);have n4_ := Aside0.mk (Kd.R_below (by (with_reducible repeat (first|apply Kd.R_alloc|apply Kd.R_drewN|apply Kd.R_drew));exact HO27.out) hb);have n5_ := Aside0.mk (blk_below (g := gb12) (o := .cells #[.int .i64 t8, .int .i64 t9, .int .i64 t10] 27 (0, 0)) (by (with_reducible repeat (first|refine blk_drewN ?_ _|refine blk_drew ?_|refine blk_alloc ?_ _));exact BK12.out) hb);have n6_ := Aside0.mk (blk_below (g := gb17) (o := .cells #[.int .i64 t13, .int .i64 t14, .int .i64 t15] 27 (0, 0)) (by (with_reducible repeat (first|refine blk_drewN ?_ _|refine blk_drew ?_|refine blk_alloc ?_ _));exact BK17.out) hb);have n7_ := Aside0.mk (below_step (by repeat (first|(with_reducible first|exact HB.out|apply below_alloc|apply pw_below_drewN|apply below_drew1|refine below_set ?_ GE12.out|refine below_set ?_ GE17.out)|exact HB.out)) hb);clear HO4;clear HO7;clear HO20;clear HO23;clear HO27;clear BK12;clear BK17;clear HB;have HO4 := n0_;have HO7 := n1_;have HO20 := n2_;have HO23 := n3_;have HO27 := n4_;have BK12 := n5_;have BK17 := n6_;have HB := n7_;clear n0_ n1_ n2_ n3_ n4_ n5_ n6_ n7_;(try clear hb);(try clear hb2);(try clear hk);(try clear hi))|(go_at_call 81;(with_reducible refine (r10_Share.calls kj3 _ _ t2 _ _ t25 t34 t35 t36 _ ?side1 ?side2 ?side3 ?side4 A21.out).mono ?_);(case side1 => repeat (first|exact (Kd.R_reads' HO4.out).2.2|(with_reducible refine Kd.C_alloc ?_ _)|(with_reducible refine Kd.C_drewN ?_ _)|(with_reducible refine Kd.C_drew ?_)));(case side2 => exact (Kd.R_reads' HO4.out).2.1);(case side3 => repeat (first|exact (Kd.R_reads' HO33.out).2.2|(with_reducible refine Kd.C_alloc ?_ _)|(with_reducible refine Kd.C_drewN ?_ _)|(with_reducible refine Kd.C_drew ?_)));(case side4 => exact (Kd.R_reads' HO33.out).2.1);rintro e w46 ⟨rfl, hb⟩;have n0_ := Aside0.mk (Kd.R_below (by (with_reducible repeat (first|apply Kd.R_alloc|apply Kd.R_drewN|apply Kd.R_drew));exact HO4.out) hb);have n1_ := Aside0.mk (Kd.R_below (by (with_reducible repeat (first|apply Kd.R_alloc|apply Kd.R_drewN|apply Kd.R_drew));exact HO7.out) hb);have n2_ := Aside0.mk (Kd.R_below (by (with_reducible repeat (first|apply Kd.R_alloc|apply Kd.R_drewN|apply Kd.R_drew));exact HO20.out) hb);have n3_ := Aside0.mk (Kd.R_below (by (with_reducible repeat (first|apply Kd.R_alloc|apply Kd.R_drewN|apply Kd.R_drew));exact HO23.out) hb);have n4_ := Aside0.mk (Kd.R_below (by (with_reducible repeat (first|apply Kd.R_alloc|apply Kd.R_drewN|apply Kd.R_drew));exact HO27.out) hb);have n5_ := Aside0.mk (Kd.R_below (by (with_reducible repeat (first|apply Kd.R_alloc|apply Kd.R_drewN|apply Kd.R_drew));exact HO33.out) hb);have n6_ := Aside0.mk (blk_below (g := gb12) (o := .cells #[.int .i64 t8, .int .i64 t9, .int .i64 t10] 27 (0, 0)) (by (with_reducible repeat (first|refine blk_drewN ?_ _|refine blk_drew ?_|refine blk_alloc ?_ _));exact BK12.out) hb);have n7_ := Aside0.mk (blk_below (g := gb17) (o := .cells #[.int .i64 t13, .int .i64 t14, .int .i64 t15] 27 (0, 0)) (by (with_reducible repeat (first|refine blk_drewN ?_ _|refine blk_drew ?_|refine blk_alloc ?_ _));exact BK17.out) hb);have n8_ := Aside0.mk (below_step (by repeat (first|(with_reducible first|exact HB.out|apply below_alloc|apply pw_below_drewN|apply below_drew1|refine below_set ?_ GE12.out|refine below_set ?_ GE17.out)|exact HB.out)) hb);clear HO4;clear HO7;clear HO20;clear HO23;clear HO27;clear HO33;clear BK12;clear BK17;clear HB;have HO4 := n0_;have HO7 := n1_;have HO20 := n2_;have HO23 := n3_;have HO27 := n4_;have HO33 := n5_;have BK12 := n6_;have BK17 := n7_;have HB := n8_;clear n0_ n1_ n2_ n3_ n4_ n5_ n6_ n7_ n8_;(try clear hb);(try clear hb2);(try clear hk);(try clear hi))|(go_at_call 31;(with_reducible refine (law13_awake.calls kj3  t37 _ A23.out).mono ?_);rintro e w47 ⟨rfl, hb⟩;have n0_ := Aside0.mk (Kd.R_below (by (with_reducible repeat (first|apply Kd.R_alloc|apply Kd.R_drewN|apply Kd.R_drew));exact HO4.out) hb);have n1_ := Aside0.mk (Kd.R_below (by (with_reducible repeat (first|apply Kd.R_alloc|apply Kd.R_drewN|apply Kd.R_drew));exact HO7.out) hb);have n2_ := Aside0.mk (Kd.R_below (by (with_reducible repeat (first|apply Kd.R_alloc|apply Kd.R_drewN|apply Kd.R_drew));exact HO20.out) hb);have n3_ := Aside0.mk (Kd.R_below (by (with_reducible repeat (first|apply Kd.R_alloc|apply Kd.R_drewN|apply Kd.R_drew));exact HO23.out) hb);have n4_ := Aside0.mk (Kd.R_below (by (with_reducible repeat (first|apply Kd.R_alloc|apply Kd.R_drewN|apply Kd.R_drew));exact HO27.out) hb);have n5_ := Aside0.mk (Kd.R_below (by (with_reducible repeat (first|apply Kd.R_alloc|apply Kd.R_drewN|apply Kd.R_drew));exact HO33.out) hb);have n6_ := Aside0.mk (blk_below (g := gb12) (o := .cells #[.int .i64 t8, .int .i64 t9, .int .i64 t10] 27 (0, 0)) (by (with_reducible repeat (first|refine blk_drewN ?_ _|refine blk_drew ?_|refine blk_alloc ?_ _));exact BK12.out) hb);have n7_ := Aside0.mk (blk_below (g := gb17) (o := .cells #[.int .i64 t13, .int .i64 t14, .int .i64 t15] 27 (0, 0)) (by (with_reducible repeat (first|refine blk_drewN ?_ _|refine blk_drew ?_|refine blk_alloc ?_ _));exact BK17.out) hb);have n8_ := Aside0.mk (below_step (by repeat (first|(with_reducible first|exact HB.out|apply below_alloc|apply pw_below_drewN|apply below_drew1|refine below_set ?_ GE12.out|refine below_set ?_ GE17.out)|exact HB.out)) hb);clear HO4;clear HO7;clear HO20;clear HO23;clear HO27;clear HO33;clear BK12;clear BK17;clear HB;have HO4 := n0_;have HO7 := n1_;have HO20 := n2_;have HO23 := n3_;have HO27 := n4_;have HO33 := n5_;have BK12 := n6_;have BK17 := n7_;have HB := n8_;clear n0_ n1_ n2_ n3_ n4_ n5_ n6_ n7_ n8_;(try clear hb);(try clear hb2);(try clear hk);(try clear hi)))
        go_ret
        exact ⟨by first|rfl|(simp [errW_none, errW_some] <;> rfl)|(simp [*, errW_none, errW_some] <;> rfl), by repeat (first|(with_reducible first|exact HB.out|apply below_alloc|apply pw_below_drewN|apply below_drew1|refine below_set ?_ GE12.out|refine below_set ?_ GE17.out)|exact HB.out)⟩
       ·rw [if_neg c22] at H
        have c22b0 : (t28 == t34 && (t29 == t35 && (t30 == t36))) = false := by simpa using c22
        (try (have c22b1 : decide (t28 = t34 && (t29 == t35 && (t30 == t36))) = false := by simpa using c22))
        (try (have c22b2 : (t28 == t34 && (t29 == t35 && (t30 == t36))) = false := by simpa using c22))
        (try (have c22b3 : ¬ (t28 = t34 && (t29 == t35 && (t30 == t36))) := by simpa using c22))
        clear c22
        obtain rfl := Option.some.inj H
        go_wp2_with (first|((with_reducible refine gate_callee (f := 32) rfl ?_);refine goesL_ (some 23) rfl rfl Try.func32 (by kernel_rfl) rfl #[.slice A0 l0.length c0] rfl (by (try simp only [List.map_toArray, List.map_cons, List.map_nil]);first|done|rfl|(simp only [List.length_drop, List.length_take];rfl)) ?_;(with_reducible refine (law12_Make.calls kj3 _ _ l0 t2 _ ?side1 ?side2 A9.out).mono ?_);(case side1 => repeat (first|exact (Kd.C_below HR0.out HB.out)|(with_reducible refine Kd.C_alloc ?_ _)|(with_reducible refine Kd.C_drewN ?_ _)|(with_reducible refine Kd.C_drew ?_)));(case side2 => exact HC0.out);rintro e w48 ⟨v3, rfl, ho0, hb⟩;refine ⟨_, rfl, ?_⟩;have n0_ := Aside0.mk (Kd.R_lower ho0 (below_size (by repeat (first|(with_reducible first|exact HB.out|apply below_alloc|apply pw_below_drewN|apply below_drew1)|exact HB.out))));have n1_ := Aside0.mk (below_step (by repeat (first|(with_reducible first|exact HB.out|apply below_alloc|apply pw_below_drewN|apply below_drew1)|exact HB.out)) hb);clear HB;have HO4 := n0_;have HB := n1_;clear n0_ n1_;(try clear hb);(try clear hb2);(try clear hk);(try clear hi);(try clear ho0))|((with_reducible refine gate_dst (N := 27) rfl ?_);(try (refine gate_guard (by rfl) ?_;dsimp only));refine Kd.R_lit (Kd.int .u8) _ 5 ?hg (N := 27) ?hd (xs := ([(97 + (Int.tmod a2 25)) % 256] : List Int)) (inner := [.int .u8 ((97 + (Int.tmod a2 25)) % 256)]) (ok := fun _ => True) (okp := fun _ => True) ?hr ?hp (fun _ hk => hk) trivial (Below.refl _ _) (Nat.le_refl _) (by simp) ?_;(case hd => rfl);(case hg => rfl);(case hr => first|(go_simp;done)|(go_simp;rfl));(case hp => exact (Reps.one (show Kd.M (Kd.int .u8) _ _ _ ((97 + (Int.tmod a2 25)) % 256) [.int .u8 ((97 + (Int.tmod a2 25)) % 256)] from rfl) (Reps.none _ _)));intro v6 w49 ho50 hb hg_ hnew_;clear hg_ hnew_;(first|rw [← Ny5.out] at ho50|(simp only [Int.reduceToNat] at ho50;rw [← Ny5.out] at ho50));have n0_ := Aside0.mk (Kd.R_below (by (with_reducible repeat (first|apply Kd.R_alloc|apply Kd.R_drewN|apply Kd.R_drew));exact HO4.out) hb);have n1_ := Aside0.mk (Kd.R_lower ho50 (below_size (by repeat (first|(with_reducible first|exact HB.out|apply below_alloc|apply pw_below_drewN|apply below_drew1)|exact HB.out))));have n2_ := Aside0.mk (below_step (by repeat (first|(with_reducible first|exact HB.out|apply below_alloc|apply pw_below_drewN|apply below_drew1)|exact HB.out)) hb);clear HO4;clear HB;have HO4 := n0_;have HO7 := n1_;have HB := n2_;clear n0_ n1_ n2_;clear hb ho50;have hcv51 := own_string (P := Try.prog) Try.underlying22 Try.underlying5 Try.underlying9 (Kd.own_of_R HO7.out);obtain ⟨Ao52, co52, eo52⟩ := Kd.R_slice HO4.out;subst eo52)|((with_reducible refine gate_callee (f := 33) rfl ?_);refine goesL_ (some 32) rfl rfl Try.func33 (by kernel_rfl) rfl #[.slice Ao52 t2.length co52, .string (strOfNums y5)] rfl (by (try simp only [List.map_toArray, List.map_cons, List.map_nil]);first|done|rfl|(simp only [List.length_drop, List.length_take];rfl)) ?_;(with_reducible refine (room_Of.calls kj3 _ _ t2 (strOfNums y5) t8 t9 t10 t11 _ ?side1 ?side2 A10.out).mono ?_);(case side1 => repeat (first|exact (Kd.R_reads' HO4.out).2.2|(with_reducible refine Kd.C_alloc ?_ _)|(with_reducible refine Kd.C_drewN ?_ _)|(with_reducible refine Kd.C_drew ?_)));(case side2 => exact (Kd.R_reads' HO4.out).2.1);rintro e w53 ⟨rfl, hb⟩;refine ⟨_, rfl, ?_⟩;have n0_ := Aside0.mk (Kd.R_below (by (with_reducible repeat (first|apply Kd.R_alloc|apply Kd.R_drewN|apply Kd.R_drew));exact HO4.out) hb);have n1_ := Aside0.mk (Kd.R_below (by (with_reducible repeat (first|apply Kd.R_alloc|apply Kd.R_drewN|apply Kd.R_drew));exact HO7.out) hb);have n2_ := Aside0.mk (below_step (by repeat (first|(with_reducible first|exact HB.out|apply below_alloc|apply pw_below_drewN|apply below_drew1)|exact HB.out)) hb);clear HO4;clear HO7;clear HB;have HO4 := n0_;have HO7 := n1_;have HB := n2_;clear n0_ n1_ n2_;(try clear hb);(try clear hb2);(try clear hk);(try clear hi))|((with_reducible refine gate_dst (N := 9) rfl ?_);(try (refine gate_guard (by rfl) ?_;dsimp only));refine box_event ?hg (N := 9) ?hd (cs := #[.int .i64 0, .int .i64 0, .int .i64 0]) (t := 27) ?hr ?_;(case hd => rfl);(case hg => rfl);(case hr => first|(go_simp;done)|(go_simp;rfl));intro gb12 hg w54 hbox hb;have n0_ := Aside0.mk (Kd.R_below (by (with_reducible repeat (first|apply Kd.R_alloc|apply Kd.R_drewN|apply Kd.R_drew));exact HO4.out) hb);have n1_ := Aside0.mk (Kd.R_below (by (with_reducible repeat (first|apply Kd.R_alloc|apply Kd.R_drewN|apply Kd.R_drew));exact HO7.out) hb);have n2_ := Aside0.mk (below_step (by repeat (first|(with_reducible first|exact HB.out|apply below_alloc|apply pw_below_drewN|apply below_drew1)|exact HB.out)) hb);have n3_ := Aside0.mk (hbox);have n4_ := Aside0.mk ((by rw [hg];exact (below_size (by repeat (first|(with_reducible first|exact HB.out|apply below_alloc|apply pw_below_drewN|apply below_drew1)|exact HB.out))) : w.heap.size ≤ gb12));have n5_ := Aside0.mk ((by rw [hg];exact (below_size (by repeat (first|(with_reducible first|exact HB.out|apply below_alloc|apply pw_below_drewN|apply below_drew1)|exact HB.out))) : w.heap.size ≤ gb12));clear HO4;clear HO7;clear HB;have HO4 := n0_;have HO7 := n1_;have HB := n2_;have BK12 := n3_;have GW12 := n4_;have GE12 := n5_;clear n0_ n1_ n2_ n3_ n4_ n5_;clear hb hbox hg;have hcz55_0 : w54.cell? ⟨gb12, 0, none⟩ = some (.int .i64 0) := (blk_cell BK12.out 0).trans rfl;have hcz55_1 : w54.cell? ⟨gb12, 1, none⟩ = some (.int .i64 0) := (blk_cell BK12.out 1).trans rfl;have hcz55_2 : w54.cell? ⟨gb12, 2, none⟩ = some (.int .i64 0) := (blk_cell BK12.out 2).trans rfl;have hfz55_0 := blk_frozen BK12.out 0;have hfz55_1 := blk_frozen BK12.out 1;have hfz55_2 := blk_frozen BK12.out 2)|((with_reducible refine gate_callee (f := 78) rfl ?_);refine goesL_ (some 38) rfl rfl Try.func78 (by kernel_rfl) rfl #[.slice Ao52 t2.length co52, .string (strOfNums y5)] rfl (by (try simp only [List.map_toArray, List.map_cons, List.map_nil]);first|done|rfl|(simp only [List.length_drop, List.length_take];rfl)) ?_;(with_reducible refine (r10_Room.calls kj3 _ _ t2 (strOfNums y5) t13 t14 t15 t16 _ ?side1 ?side2 A11.out).mono ?_);(case side1 => refine (Kd.R_reads' (e := 31) (base := w.heap.size) (ok := fun k_ => True) (n := t2.length) (c := co52) ?_).2.2;exact (by (with_reducible repeat (first|apply Kd.R_alloc|apply Kd.R_drewN|apply Kd.R_drew));exact (Kd.R_mono (Kd.R_far (p := ⟨gb12, 2, none⟩) (Kd.R_far (p := ⟨gb12, 1, none⟩) (Kd.R_far (p := ⟨gb12, 0, none⟩) (Kd.R_types HO4.out BK12.out (by decide)) (fun _ hk => hk.2) (.int .i64 t8)) (fun _ hk => hk.2) (.int .i64 t9)) (fun _ hk => hk.2) (.int .i64 t10)) (fun _ h_ => h_.1))));(case side2 => exact (Kd.R_reads' HO4.out).2.1);rintro e w56 ⟨rfl, hb⟩;refine ⟨_, rfl, ?_⟩;have n0_ := Aside0.mk (Kd.R_below (by (with_reducible repeat (first|apply Kd.R_alloc|apply Kd.R_drewN|apply Kd.R_drew));exact (Kd.R_mono (Kd.R_far (p := ⟨gb12, 2, none⟩) (Kd.R_far (p := ⟨gb12, 1, none⟩) (Kd.R_far (p := ⟨gb12, 0, none⟩) (Kd.R_types HO4.out BK12.out (by decide)) (fun _ hk => hk.2) (.int .i64 t8)) (fun _ hk => hk.2) (.int .i64 t9)) (fun _ hk => hk.2) (.int .i64 t10)) (fun _ h_ => h_.1))) hb);have n1_ := Aside0.mk (Kd.R_below (by (with_reducible repeat (first|apply Kd.R_alloc|apply Kd.R_drewN|apply Kd.R_drew));exact (Kd.R_mono (Kd.R_far (p := ⟨gb12, 2, none⟩) (Kd.R_far (p := ⟨gb12, 1, none⟩) (Kd.R_far (p := ⟨gb12, 0, none⟩) (Kd.R_types HO7.out BK12.out (by decide)) (fun _ hk => hk.2) (.int .i64 t8)) (fun _ hk => hk.2) (.int .i64 t9)) (fun _ hk => hk.2) (.int .i64 t10)) (fun _ h_ => h_.1))) hb);have n2_ := Aside0.mk (blk_below (g := gb12) (o := .cells #[.int .i64 t8, .int .i64 t9, .int .i64 t10] 27 (0, 0)) (by (with_reducible repeat (first|refine blk_drewN ?_ _|refine blk_drew ?_|refine blk_alloc ?_ _));refine blk_put (cs := #[.int .i64 t8, .int .i64 t9, .int .i64 0]) ?_ 2 _ rfl;(with_reducible repeat (first|refine blk_drewN ?_ _|refine blk_drew ?_|refine blk_alloc ?_ _));refine blk_put (cs := #[.int .i64 t8, .int .i64 0, .int .i64 0]) ?_ 1 _ rfl;(with_reducible repeat (first|refine blk_drewN ?_ _|refine blk_drew ?_|refine blk_alloc ?_ _));refine blk_put (cs := #[.int .i64 0, .int .i64 0, .int .i64 0]) ?_ 0 _ rfl;(with_reducible repeat (first|refine blk_drewN ?_ _|refine blk_drew ?_|refine blk_alloc ?_ _));exact BK12.out) hb);have n3_ := Aside0.mk (below_step (by repeat (first|(with_reducible first|exact HB.out|apply below_alloc|apply pw_below_drewN|apply below_drew1|refine below_set ?_ GE12.out)|exact HB.out)) hb);clear HO4;clear HO7;clear BK12;clear HB;have HO4 := n0_;have HO7 := n1_;have BK12 := n2_;have HB := n3_;clear n0_ n1_ n2_ n3_;(try clear hb);(try clear hb2);(try clear hk);(try clear hi))|((with_reducible refine gate_dst (N := 11) rfl ?_);(try (refine gate_guard (by rfl) ?_;dsimp only));refine box_event ?hg (N := 11) ?hd (cs := #[.int .i64 0, .int .i64 0, .int .i64 0]) (t := 27) ?hr ?_;(case hd => rfl);(case hg => rfl);(case hr => first|(go_simp;done)|(go_simp;rfl));intro gb17 hg w57 hbox hb;have n0_ := Aside0.mk (Kd.R_below (by (with_reducible repeat (first|apply Kd.R_alloc|apply Kd.R_drewN|apply Kd.R_drew));exact HO4.out) hb);have n1_ := Aside0.mk (Kd.R_below (by (with_reducible repeat (first|apply Kd.R_alloc|apply Kd.R_drewN|apply Kd.R_drew));exact HO7.out) hb);have n2_ := Aside0.mk (blk_below (g := gb12) (o := .cells #[.int .i64 t8, .int .i64 t9, .int .i64 t10] 27 (0, 0)) (by (with_reducible repeat (first|refine blk_drewN ?_ _|refine blk_drew ?_|refine blk_alloc ?_ _));exact BK12.out) hb);have n3_ := Aside0.mk (below_step (by repeat (first|(with_reducible first|exact HB.out|apply below_alloc|apply pw_below_drewN|apply below_drew1|refine below_set ?_ GE12.out)|exact HB.out)) hb);have n4_ := Aside0.mk (hbox);have n5_ := Aside0.mk ((by rw [hg];exact (below_size (by repeat (first|(with_reducible first|exact HB.out|apply below_alloc|apply pw_below_drewN|apply below_drew1|refine below_set ?_ GE12.out)|exact HB.out))) : w.heap.size ≤ gb17));have n6_ := Aside0.mk ((by rw [hg];exact (below_size (by repeat (first|(with_reducible first|exact HB.out|apply below_alloc|apply pw_below_drewN|apply below_drew1|refine below_set ?_ GE12.out)|exact HB.out))) : w.heap.size ≤ gb17));have n7_ := Aside0.mk ((by rw [hg];exact Nat.ne_of_lt (blk_lt (g := gb12) (o := .cells #[.int .i64 t8, .int .i64 t9, .int .i64 t10] 27 (0, 0)) (by (with_reducible repeat (first|refine blk_drewN ?_ _|refine blk_drew ?_|refine blk_alloc ?_ _));exact BK12.out)) : gb12 ≠ gb17));have n8_ := Aside0.mk ((by rw [hg];exact Nat.ne_of_gt (blk_lt (g := gb12) (o := .cells #[.int .i64 t8, .int .i64 t9, .int .i64 t10] 27 (0, 0)) (by (with_reducible repeat (first|refine blk_drewN ?_ _|refine blk_drew ?_|refine blk_alloc ?_ _));exact BK12.out)) : gb17 ≠ gb12));clear HO4;clear HO7;clear BK12;clear HB;have HO4 := n0_;have HO7 := n1_;have BK12 := n2_;have HB := n3_;have BK17 := n4_;have GW17 := n5_;have GE17 := n6_;have NB12_17 := n7_;have NB17_12 := n8_;clear n0_ n1_ n2_ n3_ n4_ n5_ n6_ n7_ n8_;clear hb hbox hg;have hnb58 := NB17_12.out;have hnc58 := NB12_17.out;have hcz59_0 : w57.cell? ⟨gb17, 0, none⟩ = some (.int .i64 0) := (blk_cell BK17.out 0).trans rfl;have hcz59_1 : w57.cell? ⟨gb17, 1, none⟩ = some (.int .i64 0) := (blk_cell BK17.out 1).trans rfl;have hcz59_2 : w57.cell? ⟨gb17, 2, none⟩ = some (.int .i64 0) := (blk_cell BK17.out 2).trans rfl;have hfz59_0 := blk_frozen BK17.out 0;have hfz59_1 := blk_frozen BK17.out 1;have hfz59_2 := blk_frozen BK17.out 2;have hcz60_0 : w57.cell? ⟨gb12, 0, none⟩ = some (.int .i64 t8) := (blk_cell BK12.out 0).trans rfl;have hcz60_1 : w57.cell? ⟨gb12, 1, none⟩ = some (.int .i64 t9) := (blk_cell BK12.out 1).trans rfl;have hcz60_2 : w57.cell? ⟨gb12, 2, none⟩ = some (.int .i64 t10) := (blk_cell BK12.out 2).trans rfl;have hfz60_0 := blk_frozen BK12.out 0;have hfz60_1 := blk_frozen BK12.out 1;have hfz60_2 := blk_frozen BK12.out 2)|(go_at_call 64;(with_reducible refine (room_Tight.calls kj3 _ _ t2 (strOfNums y5) t18 _ ?side1 ?side2 A14.out).mono ?_);(case side1 => refine (Kd.R_reads' (e := 31) (base := w.heap.size) (ok := fun k_ => True) (n := t2.length) (c := co52) ?_).2.2;exact (by (with_reducible repeat (first|apply Kd.R_alloc|apply Kd.R_drewN|apply Kd.R_drew));exact (Kd.R_mono (Kd.R_far (p := ⟨gb17, 2, none⟩) (Kd.R_far (p := ⟨gb17, 1, none⟩) (Kd.R_far (p := ⟨gb17, 0, none⟩) (Kd.R_types HO4.out BK17.out (by decide)) (fun _ hk => hk.2) (.int .i64 t13)) (fun _ hk => hk.2) (.int .i64 t14)) (fun _ hk => hk.2) (.int .i64 t15)) (fun _ h_ => h_.1))));(case side2 => exact (Kd.R_reads' HO4.out).2.1);rintro e w61 ⟨v19, rfl, ho0, hb⟩;have n0_ := Aside0.mk (Kd.R_below (by (with_reducible repeat (first|apply Kd.R_alloc|apply Kd.R_drewN|apply Kd.R_drew));exact (Kd.R_mono (Kd.R_far (p := ⟨gb17, 2, none⟩) (Kd.R_far (p := ⟨gb17, 1, none⟩) (Kd.R_far (p := ⟨gb17, 0, none⟩) (Kd.R_types HO4.out BK17.out (by decide)) (fun _ hk => hk.2) (.int .i64 t13)) (fun _ hk => hk.2) (.int .i64 t14)) (fun _ hk => hk.2) (.int .i64 t15)) (fun _ h_ => h_.1))) hb);have n1_ := Aside0.mk (Kd.R_below (by (with_reducible repeat (first|apply Kd.R_alloc|apply Kd.R_drewN|apply Kd.R_drew));exact (Kd.R_mono (Kd.R_far (p := ⟨gb17, 2, none⟩) (Kd.R_far (p := ⟨gb17, 1, none⟩) (Kd.R_far (p := ⟨gb17, 0, none⟩) (Kd.R_types HO7.out BK17.out (by decide)) (fun _ hk => hk.2) (.int .i64 t13)) (fun _ hk => hk.2) (.int .i64 t14)) (fun _ hk => hk.2) (.int .i64 t15)) (fun _ h_ => h_.1))) hb);have n2_ := Aside0.mk (Kd.R_lower ho0 (below_size (by repeat (first|(with_reducible first|exact HB.out|apply below_alloc|apply pw_below_drewN|apply below_drew1|refine below_set ?_ GE12.out|refine below_set ?_ GE17.out)|exact HB.out))));have n3_ := Aside0.mk (blk_below (g := gb12) (o := .cells #[.int .i64 t8, .int .i64 t9, .int .i64 t10] 27 (0, 0)) (by (with_reducible repeat (first|refine blk_drewN ?_ _|refine blk_drew ?_|refine blk_alloc ?_ _));refine blk_far ?_ NB12_17.out _;(with_reducible repeat (first|refine blk_drewN ?_ _|refine blk_drew ?_|refine blk_alloc ?_ _));refine blk_far ?_ NB12_17.out _;(with_reducible repeat (first|refine blk_drewN ?_ _|refine blk_drew ?_|refine blk_alloc ?_ _));refine blk_far ?_ NB12_17.out _;(with_reducible repeat (first|refine blk_drewN ?_ _|refine blk_drew ?_|refine blk_alloc ?_ _));exact BK12.out) hb);have n4_ := Aside0.mk (blk_below (g := gb17) (o := .cells #[.int .i64 t13, .int .i64 t14, .int .i64 t15] 27 (0, 0)) (by (with_reducible repeat (first|refine blk_drewN ?_ _|refine blk_drew ?_|refine blk_alloc ?_ _));refine blk_put (cs := #[.int .i64 t13, .int .i64 t14, .int .i64 0]) ?_ 2 _ rfl;(with_reducible repeat (first|refine blk_drewN ?_ _|refine blk_drew ?_|refine blk_alloc ?_ _));refine blk_put (cs := #[.int .i64 t13, .int .i64 0, .int .i64 0]) ?_ 1 _ rfl;(with_reducible repeat (first|refine blk_drewN ?_ _|refine blk_drew ?_|refine blk_alloc ?_ _));refine blk_put (cs := #[.int .i64 0, .int .i64 0, .int .i64 0]) ?_ 0 _ rfl;(with_reducible repeat (first|refine blk_drewN ?_ _|refine blk_drew ?_|refine blk_alloc ?_ _));exact BK17.out) hb);have n5_ := Aside0.mk (below_step (by repeat (first|(with_reducible first|exact HB.out|apply below_alloc|apply pw_below_drewN|apply below_drew1|refine below_set ?_ GE12.out|refine below_set ?_ GE17.out)|exact HB.out)) hb);clear HO4;clear HO7;clear BK12;clear BK17;clear HB;have HO4 := n0_;have HO7 := n1_;have HO20 := n2_;have BK12 := n3_;have BK17 := n4_;have HB := n5_;clear n0_ n1_ n2_ n3_ n4_ n5_;(try clear hb);(try clear hb2);(try clear hk);(try clear hi);(try clear ho0))|(go_at_call 80;(with_reducible refine (r10_Tight.calls kj3 _ _ t2 (strOfNums y5) t21 _ ?side1 ?side2 A15.out).mono ?_);(case side1 => repeat (first|exact (Kd.R_reads' HO4.out).2.2|(with_reducible refine Kd.C_alloc ?_ _)|(with_reducible refine Kd.C_drewN ?_ _)|(with_reducible refine Kd.C_drew ?_)));(case side2 => exact (Kd.R_reads' HO4.out).2.1);rintro e w62 ⟨v22, rfl, ho0, hb⟩;have n0_ := Aside0.mk (Kd.R_below (by (with_reducible repeat (first|apply Kd.R_alloc|apply Kd.R_drewN|apply Kd.R_drew));exact HO4.out) hb);have n1_ := Aside0.mk (Kd.R_below (by (with_reducible repeat (first|apply Kd.R_alloc|apply Kd.R_drewN|apply Kd.R_drew));exact HO7.out) hb);have n2_ := Aside0.mk (Kd.R_elder' (by (with_reducible repeat (first|apply Kd.R_alloc|apply Kd.R_drewN|apply Kd.R_drew));exact HO20.out) (Kd.R_base ho0) hb);have n3_ := Aside0.mk (Kd.R_lower (Kd.R_new' ho0 (Kd.R_lt (by (with_reducible repeat (first|apply Kd.R_alloc|apply Kd.R_drewN|apply Kd.R_drew));exact HO20.out))) (below_size (by repeat (first|(with_reducible first|exact HB.out|apply below_alloc|apply pw_below_drewN|apply below_drew1|refine below_set ?_ GE12.out|refine below_set ?_ GE17.out)|exact HB.out))));have n4_ := Aside0.mk (blk_below (g := gb12) (o := .cells #[.int .i64 t8, .int .i64 t9, .int .i64 t10] 27 (0, 0)) (by (with_reducible repeat (first|refine blk_drewN ?_ _|refine blk_drew ?_|refine blk_alloc ?_ _));exact BK12.out) hb);have n5_ := Aside0.mk (blk_below (g := gb17) (o := .cells #[.int .i64 t13, .int .i64 t14, .int .i64 t15] 27 (0, 0)) (by (with_reducible repeat (first|refine blk_drewN ?_ _|refine blk_drew ?_|refine blk_alloc ?_ _));exact BK17.out) hb);have n6_ := Aside0.mk (below_step (by repeat (first|(with_reducible first|exact HB.out|apply below_alloc|apply pw_below_drewN|apply below_drew1|refine below_set ?_ GE12.out|refine below_set ?_ GE17.out)|exact HB.out)) hb);clear HO4;clear HO7;clear HO20;clear BK12;clear BK17;clear HB;have HO4 := n0_;have HO7 := n1_;have HO20 := n2_;have HO23 := n3_;have BK12 := n4_;have BK17 := n5_;have HB := n6_;clear n0_ n1_ n2_ n3_ n4_ n5_ n6_;(try clear hb);(try clear hb2);(try clear hk);(try clear hi);(try clear ho0);obtain ⟨Ao63, co63, eo63⟩ := Kd.R_slice HO20.out;subst eo63;obtain ⟨Ao64, co64, eo64⟩ := Kd.R_slice HO23.out;subst eo64)|(go_at_call 79;(with_reducible refine (r1_Texts.calls kj3 _ _ t18 _ _ t21 true _ ?side1 ?side2 ?side3 ?side4 A16.out).mono ?_);(case side1 => repeat (first|exact (Kd.R_reads' HO20.out).2.2|(with_reducible refine Kd.C_alloc ?_ _)|(with_reducible refine Kd.C_drewN ?_ _)|(with_reducible refine Kd.C_drew ?_)));(case side2 => exact (Kd.R_reads' HO20.out).2.1);(case side3 => repeat (first|exact (Kd.R_reads' HO23.out).2.2|(with_reducible refine Kd.C_alloc ?_ _)|(with_reducible refine Kd.C_drewN ?_ _)|(with_reducible refine Kd.C_drew ?_)));(case side4 => exact (Kd.R_reads' HO23.out).2.1);rintro e w' ⟨rfl, ⟨nd, rfl⟩⟩)|(have hg_ := HO27.out;clear hg_;go_at_call 82;(with_reducible refine (law13_names.calls kj3 _ _ l1 t25 _ ?side1 ?side2 A20.out).mono ?_);(case side1 => repeat (first|exact (Kd.C_below HR1.out HB.out)|(with_reducible refine Kd.C_alloc ?_ _)|(with_reducible refine Kd.C_drewN ?_ _)|(with_reducible refine Kd.C_drew ?_)));(case side2 => exact HC1.out);rintro e w68 ⟨v32, rfl, ho0, hb⟩;have n0_ := Aside0.mk (Kd.R_below (by (with_reducible repeat (first|apply Kd.R_alloc|apply Kd.R_drewN|apply Kd.R_drew));exact HO4.out) hb);have n1_ := Aside0.mk (Kd.R_below (by (with_reducible repeat (first|apply Kd.R_alloc|apply Kd.R_drewN|apply Kd.R_drew));exact HO7.out) hb);have n2_ := Aside0.mk (Kd.R_elder' (by (with_reducible repeat (first|apply Kd.R_alloc|apply Kd.R_drewN|apply Kd.R_drew));exact HO20.out) (Kd.R_base ho0) hb);have n3_ := Aside0.mk (Kd.R_elder' (by (with_reducible repeat (first|apply Kd.R_alloc|apply Kd.R_drewN|apply Kd.R_drew));exact HO23.out) (Kd.R_base ho0) hb);have n4_ := Aside0.mk (Kd.R_elder' (by (with_reducible repeat (first|apply Kd.R_alloc|apply Kd.R_drewN|apply Kd.R_drew));exact HO27.out) (Kd.R_base ho0) hb);have n5_ := Aside0.mk (Kd.R_lower (Kd.R_new' (Kd.R_new' (Kd.R_new' ho0 (Kd.R_lt (by (with_reducible repeat (first|apply Kd.R_alloc|apply Kd.R_drewN|apply Kd.R_drew));exact HO20.out))) (Kd.R_lt (by (with_reducible repeat (first|apply Kd.R_alloc|apply Kd.R_drewN|apply Kd.R_drew));exact HO23.out))) (Kd.R_lt (by (with_reducible repeat (first|apply Kd.R_alloc|apply Kd.R_drewN|apply Kd.R_drew));exact HO27.out))) (below_size (by repeat (first|(with_reducible first|exact HB.out|apply below_alloc|apply pw_below_drewN|apply below_drew1|refine below_set ?_ GE12.out|refine below_set ?_ GE17.out)|exact HB.out))));have n6_ := Aside0.mk (blk_below (g := gb12) (o := .cells #[.int .i64 t8, .int .i64 t9, .int .i64 t10] 27 (0, 0)) (by (with_reducible repeat (first|refine blk_drewN ?_ _|refine blk_drew ?_|refine blk_alloc ?_ _));exact BK12.out) hb);have n7_ := Aside0.mk (blk_below (g := gb17) (o := .cells #[.int .i64 t13, .int .i64 t14, .int .i64 t15] 27 (0, 0)) (by (with_reducible repeat (first|refine blk_drewN ?_ _|refine blk_drew ?_|refine blk_alloc ?_ _));exact BK17.out) hb);have n8_ := Aside0.mk (below_step (by repeat (first|(with_reducible first|exact HB.out|apply below_alloc|apply pw_below_drewN|apply below_drew1|refine below_set ?_ GE12.out|refine below_set ?_ GE17.out)|exact HB.out)) hb);clear HO4;clear HO7;clear HO20;clear HO23;clear HO27;clear BK12;clear BK17;clear HB;have HO4 := n0_;have HO7 := n1_;have HO20 := n2_;have HO23 := n3_;have HO27 := n4_;have HO33 := n5_;have BK12 := n6_;have BK17 := n7_;have HB := n8_;clear n0_ n1_ n2_ n3_ n4_ n5_ n6_ n7_ n8_;(try clear hb);(try clear hb2);(try clear hk);(try clear hi);(try clear ho0);obtain ⟨Ao69, co69, eo69⟩ := Kd.R_slice HO33.out;subst eo69)|(go_at_call 82;(with_reducible refine (law13_names.calls kj3 _ _ l1 t25 _ ?side1 ?side2 A18.out).mono ?_);(case side1 => repeat (first|exact (Kd.C_below HR1.out (by repeat (first|(with_reducible first|exact HB.out|apply below_alloc|apply pw_below_drewN|apply below_drew1|refine below_set ?_ GE12.out|refine below_set ?_ GE17.out)|exact HB.out)))|(with_reducible refine Kd.C_alloc ?_ _)|(with_reducible refine Kd.C_drewN ?_ _)|(with_reducible refine Kd.C_drew ?_)));(case side2 => exact HC1.out);rintro e w65 ⟨v26, rfl, ho0, hb⟩;have n0_ := Aside0.mk (Kd.R_below (by (with_reducible repeat (first|apply Kd.R_alloc|apply Kd.R_drewN|apply Kd.R_drew));exact HO4.out) hb);have n1_ := Aside0.mk (Kd.R_below (by (with_reducible repeat (first|apply Kd.R_alloc|apply Kd.R_drewN|apply Kd.R_drew));exact HO7.out) hb);have n2_ := Aside0.mk (Kd.R_elder' (by (with_reducible repeat (first|apply Kd.R_alloc|apply Kd.R_drewN|apply Kd.R_drew));exact HO20.out) (Kd.R_base ho0) hb);have n3_ := Aside0.mk (Kd.R_elder' (by (with_reducible repeat (first|apply Kd.R_alloc|apply Kd.R_drewN|apply Kd.R_drew));exact HO23.out) (Kd.R_base ho0) hb);have n4_ := Aside0.mk (Kd.R_lower (Kd.R_new' (Kd.R_new' ho0 (Kd.R_lt (by (with_reducible repeat (first|apply Kd.R_alloc|apply Kd.R_drewN|apply Kd.R_drew));exact HO20.out))) (Kd.R_lt (by (with_reducible repeat (first|apply Kd.R_alloc|apply Kd.R_drewN|apply Kd.R_drew));exact HO23.out))) (below_size (by repeat (first|(with_reducible first|exact HB.out|apply below_alloc|apply pw_below_drewN|apply below_drew1|refine below_set ?_ GE12.out|refine below_set ?_ GE17.out)|exact HB.out))));have n5_ := Aside0.mk (blk_below (g := gb12) (o := .cells #[.int .i64 t8, .int .i64 t9, .int .i64 t10] 27 (0, 0)) (by (with_reducible repeat (first|refine blk_drewN ?_ _|refine blk_drew ?_|refine blk_alloc ?_ _));exact BK12.out) hb);have n6_ := Aside0.mk (blk_below (g := gb17) (o := .cells #[.int .i64 t13, .int .i64 t14, .int .i64 t15] 27 (0, 0)) (by (with_reducible repeat (first|refine blk_drewN ?_ _|refine blk_drew ?_|refine blk_alloc ?_ _));exact BK17.out) hb);have n7_ := Aside0.mk (below_step (by repeat (first|(with_reducible first|exact HB.out|apply below_alloc|apply pw_below_drewN|apply below_drew1|refine below_set ?_ GE12.out|refine below_set ?_ GE17.out)|exact HB.out)) hb);clear HO4;clear HO7;clear HO20;clear HO23;clear BK12;clear BK17;clear HB;have HO4 := n0_;have HO7 := n1_;have HO20 := n2_;have HO23 := n3_;have HO27 := n4_;have BK12 := n5_;have BK17 := n6_;have HB := n7_;clear n0_ n1_ n2_ n3_ n4_ n5_ n6_ n7_;(try clear hb);(try clear hb2);(try clear hk);(try clear hi);(try clear ho0);obtain ⟨Ao66, co66, eo66⟩ := Kd.R_slice HO27.out;subst eo66)|(go_at_call 74;(with_reducible refine (room_Share.calls kj3 _ _ t2 _ _ t25 t28 t29 t30 _ ?side1 ?side2 ?side3 ?side4 A19.out).mono ?_);(case side1 => repeat (first|exact (Kd.R_reads' HO4.out).2.2|(with_reducible refine Kd.C_alloc ?_ _)|(with_reducible refine Kd.C_drewN ?_ _)|(with_reducible refine Kd.C_drew ?_)));(case side2 => exact (Kd.R_reads' HO4.out).2.1);(case side3 => repeat (first|exact (Kd.R_reads' HO27.out).2.2|(with_reducible refine Kd.C_alloc ?_ _)|(with_reducible refine Kd.C_drewN ?_ _)|(with_reducible refine Kd.C_drew ?_)));(case side4 => exact (Kd.R_reads' HO27.out).2.1);rintro e w67 ⟨rfl, hb⟩;have n0_ := Aside0.mk (Kd.R_below (by (with_reducible repeat (first|apply Kd.R_alloc|apply Kd.R_drewN|apply Kd.R_drew));exact HO4.out) hb);have n1_ := Aside0.mk (Kd.R_below (by (with_reducible repeat (first|apply Kd.R_alloc|apply Kd.R_drewN|apply Kd.R_drew));exact HO7.out) hb);have n2_ := Aside0.mk (Kd.R_below (by (with_reducible repeat (first|apply Kd.R_alloc|apply Kd.R_drewN|apply Kd.R_drew));exact HO20.out) hb);have n3_ := Aside0.mk (Kd.R_below (by (with_reducible repeat (first|apply Kd.R_alloc|apply Kd.R_drewN|apply Kd.R_drew));exact HO23.out) hb);have n4_ := Aside0.mk (Kd.R_below (by (with_reducible repeat (first|apply Kd.R_alloc|apply Kd.R_drewN|apply Kd.R_drew));exact HO27.out) hb);have n5_ := Aside0.mk (blk_below (g := gb12) (o := .cells #[.int .i64 t8, .int .i64 t9, .int .i64 t10] 27 (0, 0)) (by (with_reducible repeat (first|refine blk_drewN ?_ _|refine blk_drew ?_|refine blk_alloc ?_ _));exact BK12.out) hb);have n6_ := Aside0.mk (blk_below (g := gb17) (o := .cells #[.int .i64 t13, .int .i64 t14, .int .i64 t15] 27 (0, 0)) (by (with_reducible repeat (first|refine blk_drewN ?_ _|refine blk_drew ?_|refine blk_alloc ?_ _));exact BK17.out) hb);have n7_ := Aside0.mk (below_step (by repeat (first|(with_reducible first|exact HB.out|apply below_alloc|apply pw_below_drewN|apply below_drew1|refine below_set ?_ GE12.out|refine below_set ?_ GE17.out)|exact HB.out)) hb);clear HO4;clear HO7;clear HO20;clear HO23;clear HO27;clear BK12;clear BK17;clear HB;have HO4 := n0_;have HO7 := n1_;have HO20 := n2_;have HO23 := n3_;have HO27 := n4_;have BK12 := n5_;have BK17 := n6_;have HB := n7_;clear n0_ n1_ n2_ n3_ n4_ n5_ n6_ n7_;(try clear hb);(try clear hb2);(try clear hk);(try clear hi))|(go_at_call 81;(with_reducible refine (r10_Share.calls kj3 _ _ t2 _ _ t25 t34 t35 t36 _ ?side1 ?side2 ?side3 ?side4 A21.out).mono ?_);(case side1 => repeat (first|exact (Kd.R_reads' HO4.out).2.2|(with_reducible refine Kd.C_alloc ?_ _)|(with_reducible refine Kd.C_drewN ?_ _)|(with_reducible refine Kd.C_drew ?_)));(case side2 => exact (Kd.R_reads' HO4.out).2.1);(case side3 => repeat (first|exact (Kd.R_reads' HO33.out).2.2|(with_reducible refine Kd.C_alloc ?_ _)|(with_reducible refine Kd.C_drewN ?_ _)|(with_reducible refine Kd.C_drew ?_)));(case side4 => exact (Kd.R_reads' HO33.out).2.1);rintro e w70 ⟨rfl, hb⟩;have n0_ := Aside0.mk (Kd.R_below (by (with_reducible repeat (first|apply Kd.R_alloc|apply Kd.R_drewN|apply Kd.R_drew));exact HO4.out) hb);have n1_ := Aside0.mk (Kd.R_below (by (with_reducible repeat (first|apply Kd.R_alloc|apply Kd.R_drewN|apply Kd.R_drew));exact HO7.out) hb);have n2_ := Aside0.mk (Kd.R_below (by (with_reducible repeat (first|apply Kd.R_alloc|apply Kd.R_drewN|apply Kd.R_drew));exact HO20.out) hb);have n3_ := Aside0.mk (Kd.R_below (by (with_reducible repeat (first|apply Kd.R_alloc|apply Kd.R_drewN|apply Kd.R_drew));exact HO23.out) hb);have n4_ := Aside0.mk (Kd.R_below (by (with_reducible repeat (first|apply Kd.R_alloc|apply Kd.R_drewN|apply Kd.R_drew));exact HO27.out) hb);have n5_ := Aside0.mk (Kd.R_below (by (with_reducible repeat (first|apply Kd.R_alloc|apply Kd.R_drewN|apply Kd.R_drew));exact HO33.out) hb);have n6_ := Aside0.mk (blk_below (g := gb12) (o := .cells #[.int .i64 t8, .int .i64 t9, .int .i64 t10] 27 (0, 0)) (by (with_reducible repeat (first|refine blk_drewN ?_ _|refine blk_drew ?_|refine blk_alloc ?_ _));exact BK12.out) hb);have n7_ := Aside0.mk (blk_below (g := gb17) (o := .cells #[.int .i64 t13, .int .i64 t14, .int .i64 t15] 27 (0, 0)) (by (with_reducible repeat (first|refine blk_drewN ?_ _|refine blk_drew ?_|refine blk_alloc ?_ _));exact BK17.out) hb);have n8_ := Aside0.mk (below_step (by repeat (first|(with_reducible first|exact HB.out|apply below_alloc|apply pw_below_drewN|apply below_drew1|refine below_set ?_ GE12.out|refine below_set ?_ GE17.out)|exact HB.out)) hb);clear HO4;clear HO7;clear HO20;clear HO23;clear HO27;clear HO33;clear BK12;clear BK17;clear HB;have HO4 := n0_;have HO7 := n1_;have HO20 := n2_;have HO23 := n3_;have HO27 := n4_;have HO33 := n5_;have BK12 := n6_;have BK17 := n7_;have HB := n8_;clear n0_ n1_ n2_ n3_ n4_ n5_ n6_ n7_ n8_;(try clear hb);(try clear hb2);(try clear hk);(try clear hi)))
        go_ret
        exact ⟨by first|rfl|(simp [errW_none, errW_some] <;> rfl)|(simp [*, errW_none, errW_some] <;> rfl), by repeat (first|(with_reducible first|exact HB.out|apply below_alloc|apply pw_below_drewN|apply below_drew1|refine below_set ?_ GE12.out|refine below_set ?_ GE17.out)|exact HB.out)⟩
      ·replace c17 := Bool.eq_false_iff.mpr c17
       subst c17
       have H1 : (some false) = some r := by rw [if_neg (show ¬ (false = true) by decide)] at H; exact H
       clear H
       have H := H1
       clear H1
       obtain rfl := Option.some.inj H
       go_wp2_with (first|((with_reducible refine gate_callee (f := 32) rfl ?_);refine goesL_ (some 23) rfl rfl Try.func32 (by kernel_rfl) rfl #[.slice A0 l0.length c0] rfl (by (try simp only [List.map_toArray, List.map_cons, List.map_nil]);first|done|rfl|(simp only [List.length_drop, List.length_take];rfl)) ?_;(with_reducible refine (law12_Make.calls kj3 _ _ l0 t2 _ ?side1 ?side2 A9.out).mono ?_);(case side1 => repeat (first|exact (Kd.C_below HR0.out HB.out)|(with_reducible refine Kd.C_alloc ?_ _)|(with_reducible refine Kd.C_drewN ?_ _)|(with_reducible refine Kd.C_drew ?_)));(case side2 => exact HC0.out);rintro e w71 ⟨v3, rfl, ho0, hb⟩;refine ⟨_, rfl, ?_⟩;have n0_ := Aside0.mk (Kd.R_lower ho0 (below_size (by repeat (first|(with_reducible first|exact HB.out|apply below_alloc|apply pw_below_drewN|apply below_drew1)|exact HB.out))));have n1_ := Aside0.mk (below_step (by repeat (first|(with_reducible first|exact HB.out|apply below_alloc|apply pw_below_drewN|apply below_drew1)|exact HB.out)) hb);clear HB;have HO4 := n0_;have HB := n1_;clear n0_ n1_;(try clear hb);(try clear hb2);(try clear hk);(try clear hi);(try clear ho0))|((with_reducible refine gate_dst (N := 27) rfl ?_);(try (refine gate_guard (by rfl) ?_;dsimp only));refine Kd.R_lit (Kd.int .u8) _ 5 ?hg (N := 27) ?hd (xs := ([(97 + (Int.tmod a2 25)) % 256] : List Int)) (inner := [.int .u8 ((97 + (Int.tmod a2 25)) % 256)]) (ok := fun _ => True) (okp := fun _ => True) ?hr ?hp (fun _ hk => hk) trivial (Below.refl _ _) (Nat.le_refl _) (by simp) ?_;(case hd => rfl);(case hg => rfl);(case hr => first|(go_simp;done)|(go_simp;rfl));(case hp => exact (Reps.one (show Kd.M (Kd.int .u8) _ _ _ ((97 + (Int.tmod a2 25)) % 256) [.int .u8 ((97 + (Int.tmod a2 25)) % 256)] from rfl) (Reps.none _ _)));intro v6 w72 ho73 hb hg_ hnew_;clear hg_ hnew_;(first|rw [← Ny5.out] at ho73|(simp only [Int.reduceToNat] at ho73;rw [← Ny5.out] at ho73));have n0_ := Aside0.mk (Kd.R_below (by (with_reducible repeat (first|apply Kd.R_alloc|apply Kd.R_drewN|apply Kd.R_drew));exact HO4.out) hb);have n1_ := Aside0.mk (Kd.R_lower ho73 (below_size (by repeat (first|(with_reducible first|exact HB.out|apply below_alloc|apply pw_below_drewN|apply below_drew1)|exact HB.out))));have n2_ := Aside0.mk (below_step (by repeat (first|(with_reducible first|exact HB.out|apply below_alloc|apply pw_below_drewN|apply below_drew1)|exact HB.out)) hb);clear HO4;clear HB;have HO4 := n0_;have HO7 := n1_;have HB := n2_;clear n0_ n1_ n2_;clear hb ho73;have hcv74 := own_string (P := Try.prog) Try.underlying22 Try.underlying5 Try.underlying9 (Kd.own_of_R HO7.out);obtain ⟨Ao75, co75, eo75⟩ := Kd.R_slice HO4.out;subst eo75)|((with_reducible refine gate_callee (f := 33) rfl ?_);refine goesL_ (some 32) rfl rfl Try.func33 (by kernel_rfl) rfl #[.slice Ao75 t2.length co75, .string (strOfNums y5)] rfl (by (try simp only [List.map_toArray, List.map_cons, List.map_nil]);first|done|rfl|(simp only [List.length_drop, List.length_take];rfl)) ?_;(with_reducible refine (room_Of.calls kj3 _ _ t2 (strOfNums y5) t8 t9 t10 t11 _ ?side1 ?side2 A10.out).mono ?_);(case side1 => repeat (first|exact (Kd.R_reads' HO4.out).2.2|(with_reducible refine Kd.C_alloc ?_ _)|(with_reducible refine Kd.C_drewN ?_ _)|(with_reducible refine Kd.C_drew ?_)));(case side2 => exact (Kd.R_reads' HO4.out).2.1);rintro e w76 ⟨rfl, hb⟩;refine ⟨_, rfl, ?_⟩;have n0_ := Aside0.mk (Kd.R_below (by (with_reducible repeat (first|apply Kd.R_alloc|apply Kd.R_drewN|apply Kd.R_drew));exact HO4.out) hb);have n1_ := Aside0.mk (Kd.R_below (by (with_reducible repeat (first|apply Kd.R_alloc|apply Kd.R_drewN|apply Kd.R_drew));exact HO7.out) hb);have n2_ := Aside0.mk (below_step (by repeat (first|(with_reducible first|exact HB.out|apply below_alloc|apply pw_below_drewN|apply below_drew1)|exact HB.out)) hb);clear HO4;clear HO7;clear HB;have HO4 := n0_;have HO7 := n1_;have HB := n2_;clear n0_ n1_ n2_;(try clear hb);(try clear hb2);(try clear hk);(try clear hi))|((with_reducible refine gate_dst (N := 9) rfl ?_);(try (refine gate_guard (by rfl) ?_;dsimp only));refine box_event ?hg (N := 9) ?hd (cs := #[.int .i64 0, .int .i64 0, .int .i64 0]) (t := 27) ?hr ?_;(case hd => rfl);(case hg => rfl);(case hr => first|(go_simp;done)|(go_simp;rfl));intro gb12 hg w77 hbox hb;have n0_ := Aside0.mk (Kd.R_below (by (with_reducible repeat (first|apply Kd.R_alloc|apply Kd.R_drewN|apply Kd.R_drew));exact HO4.out) hb);have n1_ := Aside0.mk (Kd.R_below (by (with_reducible repeat (first|apply Kd.R_alloc|apply Kd.R_drewN|apply Kd.R_drew));exact HO7.out) hb);have n2_ := Aside0.mk (below_step (by repeat (first|(with_reducible first|exact HB.out|apply below_alloc|apply pw_below_drewN|apply below_drew1)|exact HB.out)) hb);have n3_ := Aside0.mk (hbox);have n4_ := Aside0.mk ((by rw [hg];exact (below_size (by repeat (first|(with_reducible first|exact HB.out|apply below_alloc|apply pw_below_drewN|apply below_drew1)|exact HB.out))) : w.heap.size ≤ gb12));have n5_ := Aside0.mk ((by rw [hg];exact (below_size (by repeat (first|(with_reducible first|exact HB.out|apply below_alloc|apply pw_below_drewN|apply below_drew1)|exact HB.out))) : w.heap.size ≤ gb12));clear HO4;clear HO7;clear HB;have HO4 := n0_;have HO7 := n1_;have HB := n2_;have BK12 := n3_;have GW12 := n4_;have GE12 := n5_;clear n0_ n1_ n2_ n3_ n4_ n5_;clear hb hbox hg;have hcz78_0 : w77.cell? ⟨gb12, 0, none⟩ = some (.int .i64 0) := (blk_cell BK12.out 0).trans rfl;have hcz78_1 : w77.cell? ⟨gb12, 1, none⟩ = some (.int .i64 0) := (blk_cell BK12.out 1).trans rfl;have hcz78_2 : w77.cell? ⟨gb12, 2, none⟩ = some (.int .i64 0) := (blk_cell BK12.out 2).trans rfl;have hfz78_0 := blk_frozen BK12.out 0;have hfz78_1 := blk_frozen BK12.out 1;have hfz78_2 := blk_frozen BK12.out 2)|((with_reducible refine gate_callee (f := 78) rfl ?_);refine goesL_ (some 38) rfl rfl Try.func78 (by kernel_rfl) rfl #[.slice Ao75 t2.length co75, .string (strOfNums y5)] rfl (by (try simp only [List.map_toArray, List.map_cons, List.map_nil]);first|done|rfl|(simp only [List.length_drop, List.length_take];rfl)) ?_;(with_reducible refine (r10_Room.calls kj3 _ _ t2 (strOfNums y5) t13 t14 t15 t16 _ ?side1 ?side2 A11.out).mono ?_);(case side1 => refine (Kd.R_reads' (e := 31) (base := w.heap.size) (ok := fun k_ => True) (n := t2.length) (c := co75) ?_).2.2;exact (by (with_reducible repeat (first|apply Kd.R_alloc|apply Kd.R_drewN|apply Kd.R_drew));exact (Kd.R_mono (Kd.R_far (p := ⟨gb12, 2, none⟩) (Kd.R_far (p := ⟨gb12, 1, none⟩) (Kd.R_far (p := ⟨gb12, 0, none⟩) (Kd.R_types HO4.out BK12.out (by decide)) (fun _ hk => hk.2) (.int .i64 t8)) (fun _ hk => hk.2) (.int .i64 t9)) (fun _ hk => hk.2) (.int .i64 t10)) (fun _ h_ => h_.1))));(case side2 => exact (Kd.R_reads' HO4.out).2.1);rintro e w79 ⟨rfl, hb⟩;refine ⟨_, rfl, ?_⟩;have n0_ := Aside0.mk (Kd.R_below (by (with_reducible repeat (first|apply Kd.R_alloc|apply Kd.R_drewN|apply Kd.R_drew));exact (Kd.R_mono (Kd.R_far (p := ⟨gb12, 2, none⟩) (Kd.R_far (p := ⟨gb12, 1, none⟩) (Kd.R_far (p := ⟨gb12, 0, none⟩) (Kd.R_types HO4.out BK12.out (by decide)) (fun _ hk => hk.2) (.int .i64 t8)) (fun _ hk => hk.2) (.int .i64 t9)) (fun _ hk => hk.2) (.int .i64 t10)) (fun _ h_ => h_.1))) hb);have n1_ := Aside0.mk (Kd.R_below (by (with_reducible repeat (first|apply Kd.R_alloc|apply Kd.R_drewN|apply Kd.R_drew));exact (Kd.R_mono (Kd.R_far (p := ⟨gb12, 2, none⟩) (Kd.R_far (p := ⟨gb12, 1, none⟩) (Kd.R_far (p := ⟨gb12, 0, none⟩) (Kd.R_types HO7.out BK12.out (by decide)) (fun _ hk => hk.2) (.int .i64 t8)) (fun _ hk => hk.2) (.int .i64 t9)) (fun _ hk => hk.2) (.int .i64 t10)) (fun _ h_ => h_.1))) hb);have n2_ := Aside0.mk (blk_below (g := gb12) (o := .cells #[.int .i64 t8, .int .i64 t9, .int .i64 t10] 27 (0, 0)) (by (with_reducible repeat (first|refine blk_drewN ?_ _|refine blk_drew ?_|refine blk_alloc ?_ _));refine blk_put (cs := #[.int .i64 t8, .int .i64 t9, .int .i64 0]) ?_ 2 _ rfl;(with_reducible repeat (first|refine blk_drewN ?_ _|refine blk_drew ?_|refine blk_alloc ?_ _));refine blk_put (cs := #[.int .i64 t8, .int .i64 0, .int .i64 0]) ?_ 1 _ rfl;(with_reducible repeat (first|refine blk_drewN ?_ _|refine blk_drew ?_|refine blk_alloc ?_ _));refine blk_put (cs := #[.int .i64 0, .int .i64 0, .int .i64 0]) ?_ 0 _ rfl;(with_reducible repeat (first|refine blk_drewN ?_ _|refine blk_drew ?_|refine blk_alloc ?_ _));exact BK12.out) hb);have n3_ := Aside0.mk (below_step (by repeat (first|(with_reducible first|exact HB.out|apply below_alloc|apply pw_below_drewN|apply below_drew1|refine below_set ?_ GE12.out)|exact HB.out)) hb);clear HO4;clear HO7;clear BK12;clear HB;have HO4 := n0_;have HO7 := n1_;have BK12 := n2_;have HB := n3_;clear n0_ n1_ n2_ n3_;(try clear hb);(try clear hb2);(try clear hk);(try clear hi))|((with_reducible refine gate_dst (N := 11) rfl ?_);(try (refine gate_guard (by rfl) ?_;dsimp only));refine box_event ?hg (N := 11) ?hd (cs := #[.int .i64 0, .int .i64 0, .int .i64 0]) (t := 27) ?hr ?_;(case hd => rfl);(case hg => rfl);(case hr => first|(go_simp;done)|(go_simp;rfl));intro gb17 hg w80 hbox hb;have n0_ := Aside0.mk (Kd.R_below (by (with_reducible repeat (first|apply Kd.R_alloc|apply Kd.R_drewN|apply Kd.R_drew));exact HO4.out) hb);have n1_ := Aside0.mk (Kd.R_below (by (with_reducible repeat (first|apply Kd.R_alloc|apply Kd.R_drewN|apply Kd.R_drew));exact HO7.out) hb);have n2_ := Aside0.mk (blk_below (g := gb12) (o := .cells #[.int .i64 t8, .int .i64 t9, .int .i64 t10] 27 (0, 0)) (by (with_reducible repeat (first|refine blk_drewN ?_ _|refine blk_drew ?_|refine blk_alloc ?_ _));exact BK12.out) hb);have n3_ := Aside0.mk (below_step (by repeat (first|(with_reducible first|exact HB.out|apply below_alloc|apply pw_below_drewN|apply below_drew1|refine below_set ?_ GE12.out)|exact HB.out)) hb);have n4_ := Aside0.mk (hbox);have n5_ := Aside0.mk ((by rw [hg];exact (below_size (by repeat (first|(with_reducible first|exact HB.out|apply below_alloc|apply pw_below_drewN|apply below_drew1|refine below_set ?_ GE12.out)|exact HB.out))) : w.heap.size ≤ gb17));have n6_ := Aside0.mk ((by rw [hg];exact (below_size (by repeat (first|(with_reducible first|exact HB.out|apply below_alloc|apply pw_below_drewN|apply below_drew1|refine below_set ?_ GE12.out)|exact HB.out))) : w.heap.size ≤ gb17));have n7_ := Aside0.mk ((by rw [hg];exact Nat.ne_of_lt (blk_lt (g := gb12) (o := .cells #[.int .i64 t8, .int .i64 t9, .int .i64 t10] 27 (0, 0)) (by (with_reducible repeat (first|refine blk_drewN ?_ _|refine blk_drew ?_|refine blk_alloc ?_ _));exact BK12.out)) : gb12 ≠ gb17));have n8_ := Aside0.mk ((by rw [hg];exact Nat.ne_of_gt (blk_lt (g := gb12) (o := .cells #[.int .i64 t8, .int .i64 t9, .int .i64 t10] 27 (0, 0)) (by (with_reducible repeat (first|refine blk_drewN ?_ _|refine blk_drew ?_|refine blk_alloc ?_ _));exact BK12.out)) : gb17 ≠ gb12));clear HO4;clear HO7;clear BK12;clear HB;have HO4 := n0_;have HO7 := n1_;have BK12 := n2_;have HB := n3_;have BK17 := n4_;have GW17 := n5_;have GE17 := n6_;have NB12_17 := n7_;have NB17_12 := n8_;clear n0_ n1_ n2_ n3_ n4_ n5_ n6_ n7_ n8_;clear hb hbox hg;have hnb81 := NB17_12.out;have hnc81 := NB12_17.out;have hcz82_0 : w80.cell? ⟨gb17, 0, none⟩ = some (.int .i64 0) := (blk_cell BK17.out 0).trans rfl;have hcz82_1 : w80.cell? ⟨gb17, 1, none⟩ = some (.int .i64 0) := (blk_cell BK17.out 1).trans rfl;have hcz82_2 : w80.cell? ⟨gb17, 2, none⟩ = some (.int .i64 0) := (blk_cell BK17.out 2).trans rfl;have hfz82_0 := blk_frozen BK17.out 0;have hfz82_1 := blk_frozen BK17.out 1;have hfz82_2 := blk_frozen BK17.out 2;have hcz83_0 : w80.cell? ⟨gb12, 0, none⟩ = some (.int .i64 t8) := (blk_cell BK12.out 0).trans rfl;have hcz83_1 : w80.cell? ⟨gb12, 1, none⟩ = some (.int .i64 t9) := (blk_cell BK12.out 1).trans rfl;have hcz83_2 : w80.cell? ⟨gb12, 2, none⟩ = some (.int .i64 t10) := (blk_cell BK12.out 2).trans rfl;have hfz83_0 := blk_frozen BK12.out 0;have hfz83_1 := blk_frozen BK12.out 1;have hfz83_2 := blk_frozen BK12.out 2)|(go_at_call 64;(with_reducible refine (room_Tight.calls kj3 _ _ t2 (strOfNums y5) t18 _ ?side1 ?side2 A14.out).mono ?_);(case side1 => refine (Kd.R_reads' (e := 31) (base := w.heap.size) (ok := fun k_ => True) (n := t2.length) (c := co75) ?_).2.2;exact (by (with_reducible repeat (first|apply Kd.R_alloc|apply Kd.R_drewN|apply Kd.R_drew));exact (Kd.R_mono (Kd.R_far (p := ⟨gb17, 2, none⟩) (Kd.R_far (p := ⟨gb17, 1, none⟩) (Kd.R_far (p := ⟨gb17, 0, none⟩) (Kd.R_types HO4.out BK17.out (by decide)) (fun _ hk => hk.2) (.int .i64 t13)) (fun _ hk => hk.2) (.int .i64 t14)) (fun _ hk => hk.2) (.int .i64 t15)) (fun _ h_ => h_.1))));(case side2 => exact (Kd.R_reads' HO4.out).2.1);rintro e w84 ⟨v19, rfl, ho0, hb⟩;have n0_ := Aside0.mk (Kd.R_below (by (with_reducible repeat (first|apply Kd.R_alloc|apply Kd.R_drewN|apply Kd.R_drew));exact (Kd.R_mono (Kd.R_far (p := ⟨gb17, 2, none⟩) (Kd.R_far (p := ⟨gb17, 1, none⟩) (Kd.R_far (p := ⟨gb17, 0, none⟩) (Kd.R_types HO4.out BK17.out (by decide)) (fun _ hk => hk.2) (.int .i64 t13)) (fun _ hk => hk.2) (.int .i64 t14)) (fun _ hk => hk.2) (.int .i64 t15)) (fun _ h_ => h_.1))) hb);have n1_ := Aside0.mk (Kd.R_below (by (with_reducible repeat (first|apply Kd.R_alloc|apply Kd.R_drewN|apply Kd.R_drew));exact (Kd.R_mono (Kd.R_far (p := ⟨gb17, 2, none⟩) (Kd.R_far (p := ⟨gb17, 1, none⟩) (Kd.R_far (p := ⟨gb17, 0, none⟩) (Kd.R_types HO7.out BK17.out (by decide)) (fun _ hk => hk.2) (.int .i64 t13)) (fun _ hk => hk.2) (.int .i64 t14)) (fun _ hk => hk.2) (.int .i64 t15)) (fun _ h_ => h_.1))) hb);have n2_ := Aside0.mk (Kd.R_lower ho0 (below_size (by repeat (first|(with_reducible first|exact HB.out|apply below_alloc|apply pw_below_drewN|apply below_drew1|refine below_set ?_ GE12.out|refine below_set ?_ GE17.out)|exact HB.out))));have n3_ := Aside0.mk (blk_below (g := gb12) (o := .cells #[.int .i64 t8, .int .i64 t9, .int .i64 t10] 27 (0, 0)) (by (with_reducible repeat (first|refine blk_drewN ?_ _|refine blk_drew ?_|refine blk_alloc ?_ _));refine blk_far ?_ NB12_17.out _;(with_reducible repeat (first|refine blk_drewN ?_ _|refine blk_drew ?_|refine blk_alloc ?_ _));refine blk_far ?_ NB12_17.out _;(with_reducible repeat (first|refine blk_drewN ?_ _|refine blk_drew ?_|refine blk_alloc ?_ _));refine blk_far ?_ NB12_17.out _;(with_reducible repeat (first|refine blk_drewN ?_ _|refine blk_drew ?_|refine blk_alloc ?_ _));exact BK12.out) hb);have n4_ := Aside0.mk (blk_below (g := gb17) (o := .cells #[.int .i64 t13, .int .i64 t14, .int .i64 t15] 27 (0, 0)) (by (with_reducible repeat (first|refine blk_drewN ?_ _|refine blk_drew ?_|refine blk_alloc ?_ _));refine blk_put (cs := #[.int .i64 t13, .int .i64 t14, .int .i64 0]) ?_ 2 _ rfl;(with_reducible repeat (first|refine blk_drewN ?_ _|refine blk_drew ?_|refine blk_alloc ?_ _));refine blk_put (cs := #[.int .i64 t13, .int .i64 0, .int .i64 0]) ?_ 1 _ rfl;(with_reducible repeat (first|refine blk_drewN ?_ _|refine blk_drew ?_|refine blk_alloc ?_ _));refine blk_put (cs := #[.int .i64 0, .int .i64 0, .int .i64 0]) ?_ 0 _ rfl;(with_reducible repeat (first|refine blk_drewN ?_ _|refine blk_drew ?_|refine blk_alloc ?_ _));exact BK17.out) hb);have n5_ := Aside0.mk (below_step (by repeat (first|(with_reducible first|exact HB.out|apply below_alloc|apply pw_below_drewN|apply below_drew1|refine below_set ?_ GE12.out|refine below_set ?_ GE17.out)|exact HB.out)) hb);clear HO4;clear HO7;clear BK12;clear BK17;clear HB;have HO4 := n0_;have HO7 := n1_;have HO20 := n2_;have BK12 := n3_;have BK17 := n4_;have HB := n5_;clear n0_ n1_ n2_ n3_ n4_ n5_;(try clear hb);(try clear hb2);(try clear hk);(try clear hi);(try clear ho0))|(go_at_call 80;(with_reducible refine (r10_Tight.calls kj3 _ _ t2 (strOfNums y5) t21 _ ?side1 ?side2 A15.out).mono ?_);(case side1 => repeat (first|exact (Kd.R_reads' HO4.out).2.2|(with_reducible refine Kd.C_alloc ?_ _)|(with_reducible refine Kd.C_drewN ?_ _)|(with_reducible refine Kd.C_drew ?_)));(case side2 => exact (Kd.R_reads' HO4.out).2.1);rintro e w85 ⟨v22, rfl, ho0, hb⟩;have n0_ := Aside0.mk (Kd.R_below (by (with_reducible repeat (first|apply Kd.R_alloc|apply Kd.R_drewN|apply Kd.R_drew));exact HO4.out) hb);have n1_ := Aside0.mk (Kd.R_below (by (with_reducible repeat (first|apply Kd.R_alloc|apply Kd.R_drewN|apply Kd.R_drew));exact HO7.out) hb);have n2_ := Aside0.mk (Kd.R_elder' (by (with_reducible repeat (first|apply Kd.R_alloc|apply Kd.R_drewN|apply Kd.R_drew));exact HO20.out) (Kd.R_base ho0) hb);have n3_ := Aside0.mk (Kd.R_lower (Kd.R_new' ho0 (Kd.R_lt (by (with_reducible repeat (first|apply Kd.R_alloc|apply Kd.R_drewN|apply Kd.R_drew));exact HO20.out))) (below_size (by repeat (first|(with_reducible first|exact HB.out|apply below_alloc|apply pw_below_drewN|apply below_drew1|refine below_set ?_ GE12.out|refine below_set ?_ GE17.out)|exact HB.out))));have n4_ := Aside0.mk (blk_below (g := gb12) (o := .cells #[.int .i64 t8, .int .i64 t9, .int .i64 t10] 27 (0, 0)) (by (with_reducible repeat (first|refine blk_drewN ?_ _|refine blk_drew ?_|refine blk_alloc ?_ _));exact BK12.out) hb);have n5_ := Aside0.mk (blk_below (g := gb17) (o := .cells #[.int .i64 t13, .int .i64 t14, .int .i64 t15] 27 (0, 0)) (by (with_reducible repeat (first|refine blk_drewN ?_ _|refine blk_drew ?_|refine blk_alloc ?_ _));exact BK17.out) hb);have n6_ := Aside0.mk (below_step (by repeat (first|(with_reducible first|exact HB.out|apply below_alloc|apply pw_below_drewN|apply below_drew1|refine below_set ?_ GE12.out|refine below_set ?_ GE17.out)|exact HB.out)) hb);clear HO4;clear HO7;clear HO20;clear BK12;clear BK17;clear HB;have HO4 := n0_;have HO7 := n1_;have HO20 := n2_;have HO23 := n3_;have BK12 := n4_;have BK17 := n5_;have HB := n6_;clear n0_ n1_ n2_ n3_ n4_ n5_ n6_;(try clear hb);(try clear hb2);(try clear hk);(try clear hi);(try clear ho0);obtain ⟨Ao86, co86, eo86⟩ := Kd.R_slice HO20.out;subst eo86;obtain ⟨Ao87, co87, eo87⟩ := Kd.R_slice HO23.out;subst eo87)|(go_at_call 79;(with_reducible refine (r1_Texts.calls kj3 _ _ t18 _ _ t21 false _ ?side1 ?side2 ?side3 ?side4 A16.out).mono ?_);(case side1 => repeat (first|exact (Kd.R_reads' HO20.out).2.2|(with_reducible refine Kd.C_alloc ?_ _)|(with_reducible refine Kd.C_drewN ?_ _)|(with_reducible refine Kd.C_drew ?_)));(case side2 => exact (Kd.R_reads' HO20.out).2.1);(case side3 => repeat (first|exact (Kd.R_reads' HO23.out).2.2|(with_reducible refine Kd.C_alloc ?_ _)|(with_reducible refine Kd.C_drewN ?_ _)|(with_reducible refine Kd.C_drew ?_)));(case side4 => exact (Kd.R_reads' HO23.out).2.1);rintro e w' ⟨rfl, ⟨nd, rfl⟩⟩))
       go_ret
       exact ⟨by first|rfl|(simp [errW_none, errW_some] <;> rfl)|(simp [*, errW_none, errW_some] <;> rfl), by repeat (first|(with_reducible first|exact HB.out|apply below_alloc|apply pw_below_drewN|apply below_drew1|refine below_set ?_ GE12.out|refine below_set ?_ GE17.out)|exact HB.out)⟩
     ·rw [if_neg c13] at H
      have c13b0 : (t11 == t16) = false := by simpa using c13
      (try (have c13b1 : decide (t11 = t16) = false := by simpa using c13))
      (try (have c13b2 : (t11 == t16) = false := by simpa using c13))
      (try (have c13b3 : ¬ (t11 = t16) := by simpa using c13))
      clear c13
      obtain rfl := Option.some.inj H
      go_wp2_with (first|((with_reducible refine gate_callee (f := 32) rfl ?_);refine goesL_ (some 23) rfl rfl Try.func32 (by kernel_rfl) rfl #[.slice A0 l0.length c0] rfl (by (try simp only [List.map_toArray, List.map_cons, List.map_nil]);first|done|rfl|(simp only [List.length_drop, List.length_take];rfl)) ?_;(with_reducible refine (law12_Make.calls kj3 _ _ l0 t2 _ ?side1 ?side2 A9.out).mono ?_);(case side1 => repeat (first|exact (Kd.C_below HR0.out HB.out)|(with_reducible refine Kd.C_alloc ?_ _)|(with_reducible refine Kd.C_drewN ?_ _)|(with_reducible refine Kd.C_drew ?_)));(case side2 => exact HC0.out);rintro e w88 ⟨v3, rfl, ho0, hb⟩;refine ⟨_, rfl, ?_⟩;have n0_ := Aside0.mk (Kd.R_lower ho0 (below_size (by repeat (first|(with_reducible first|exact HB.out|apply below_alloc|apply pw_below_drewN|apply below_drew1)|exact HB.out))));have n1_ := Aside0.mk (below_step (by repeat (first|(with_reducible first|exact HB.out|apply below_alloc|apply pw_below_drewN|apply below_drew1)|exact HB.out)) hb);clear HB;have HO4 := n0_;have HB := n1_;clear n0_ n1_;(try clear hb);(try clear hb2);(try clear hk);(try clear hi);(try clear ho0))|((with_reducible refine gate_dst (N := 27) rfl ?_);(try (refine gate_guard (by rfl) ?_;dsimp only));refine Kd.R_lit (Kd.int .u8) _ 5 ?hg (N := 27) ?hd (xs := ([(97 + (Int.tmod a2 25)) % 256] : List Int)) (inner := [.int .u8 ((97 + (Int.tmod a2 25)) % 256)]) (ok := fun _ => True) (okp := fun _ => True) ?hr ?hp (fun _ hk => hk) trivial (Below.refl _ _) (Nat.le_refl _) (by simp) ?_;(case hd => rfl);(case hg => rfl);(case hr => first|(go_simp;done)|(go_simp;rfl));(case hp => exact (Reps.one (show Kd.M (Kd.int .u8) _ _ _ ((97 + (Int.tmod a2 25)) % 256) [.int .u8 ((97 + (Int.tmod a2 25)) % 256)] from rfl) (Reps.none _ _)));intro v6 w89 ho90 hb hg_ hnew_;clear hg_ hnew_;(first|rw [← Ny5.out] at ho90|(simp only [Int.reduceToNat] at ho90;rw [← Ny5.out] at ho90));have n0_ := Aside0.mk (Kd.R_below (by (with_reducible repeat (first|apply Kd.R_alloc|apply Kd.R_drewN|apply Kd.R_drew));exact HO4.out) hb);have n1_ := Aside0.mk (Kd.R_lower ho90 (below_size (by repeat (first|(with_reducible first|exact HB.out|apply below_alloc|apply pw_below_drewN|apply below_drew1)|exact HB.out))));have n2_ := Aside0.mk (below_step (by repeat (first|(with_reducible first|exact HB.out|apply below_alloc|apply pw_below_drewN|apply below_drew1)|exact HB.out)) hb);clear HO4;clear HB;have HO4 := n0_;have HO7 := n1_;have HB := n2_;clear n0_ n1_ n2_;clear hb ho90;have hcv91 := own_string (P := Try.prog) Try.underlying22 Try.underlying5 Try.underlying9 (Kd.own_of_R HO7.out);obtain ⟨Ao92, co92, eo92⟩ := Kd.R_slice HO4.out;subst eo92)|((with_reducible refine gate_callee (f := 33) rfl ?_);refine goesL_ (some 32) rfl rfl Try.func33 (by kernel_rfl) rfl #[.slice Ao92 t2.length co92, .string (strOfNums y5)] rfl (by (try simp only [List.map_toArray, List.map_cons, List.map_nil]);first|done|rfl|(simp only [List.length_drop, List.length_take];rfl)) ?_;(with_reducible refine (room_Of.calls kj3 _ _ t2 (strOfNums y5) t8 t9 t10 t11 _ ?side1 ?side2 A10.out).mono ?_);(case side1 => repeat (first|exact (Kd.R_reads' HO4.out).2.2|(with_reducible refine Kd.C_alloc ?_ _)|(with_reducible refine Kd.C_drewN ?_ _)|(with_reducible refine Kd.C_drew ?_)));(case side2 => exact (Kd.R_reads' HO4.out).2.1);rintro e w93 ⟨rfl, hb⟩;refine ⟨_, rfl, ?_⟩;have n0_ := Aside0.mk (Kd.R_below (by (with_reducible repeat (first|apply Kd.R_alloc|apply Kd.R_drewN|apply Kd.R_drew));exact HO4.out) hb);have n1_ := Aside0.mk (Kd.R_below (by (with_reducible repeat (first|apply Kd.R_alloc|apply Kd.R_drewN|apply Kd.R_drew));exact HO7.out) hb);have n2_ := Aside0.mk (below_step (by repeat (first|(with_reducible first|exact HB.out|apply below_alloc|apply pw_below_drewN|apply below_drew1)|exact HB.out)) hb);clear HO4;clear HO7;clear HB;have HO4 := n0_;have HO7 := n1_;have HB := n2_;clear n0_ n1_ n2_;(try clear hb);(try clear hb2);(try clear hk);(try clear hi))|((with_reducible refine gate_dst (N := 9) rfl ?_);(try (refine gate_guard (by rfl) ?_;dsimp only));refine box_event ?hg (N := 9) ?hd (cs := #[.int .i64 0, .int .i64 0, .int .i64 0]) (t := 27) ?hr ?_;(case hd => rfl);(case hg => rfl);(case hr => first|(go_simp;done)|(go_simp;rfl));intro gb12 hg w94 hbox hb;have n0_ := Aside0.mk (Kd.R_below (by (with_reducible repeat (first|apply Kd.R_alloc|apply Kd.R_drewN|apply Kd.R_drew));exact HO4.out) hb);have n1_ := Aside0.mk (Kd.R_below (by (with_reducible repeat (first|apply Kd.R_alloc|apply Kd.R_drewN|apply Kd.R_drew));exact HO7.out) hb);have n2_ := Aside0.mk (below_step (by repeat (first|(with_reducible first|exact HB.out|apply below_alloc|apply pw_below_drewN|apply below_drew1)|exact HB.out)) hb);have n3_ := Aside0.mk (hbox);have n4_ := Aside0.mk ((by rw [hg];exact (below_size (by repeat (first|(with_reducible first|exact HB.out|apply below_alloc|apply pw_below_drewN|apply below_drew1)|exact HB.out))) : w.heap.size ≤ gb12));have n5_ := Aside0.mk ((by rw [hg];exact (below_size (by repeat (first|(with_reducible first|exact HB.out|apply below_alloc|apply pw_below_drewN|apply below_drew1)|exact HB.out))) : w.heap.size ≤ gb12));clear HO4;clear HO7;clear HB;have HO4 := n0_;have HO7 := n1_;have HB := n2_;have BK12 := n3_;have GW12 := n4_;have GE12 := n5_;clear n0_ n1_ n2_ n3_ n4_ n5_;clear hb hbox hg;have hcz95_0 : w94.cell? ⟨gb12, 0, none⟩ = some (.int .i64 0) := (blk_cell BK12.out 0).trans rfl;have hcz95_1 : w94.cell? ⟨gb12, 1, none⟩ = some (.int .i64 0) := (blk_cell BK12.out 1).trans rfl;have hcz95_2 : w94.cell? ⟨gb12, 2, none⟩ = some (.int .i64 0) := (blk_cell BK12.out 2).trans rfl;have hfz95_0 := blk_frozen BK12.out 0;have hfz95_1 := blk_frozen BK12.out 1;have hfz95_2 := blk_frozen BK12.out 2)|((with_reducible refine gate_callee (f := 78) rfl ?_);refine goesL_ (some 38) rfl rfl Try.func78 (by kernel_rfl) rfl #[.slice Ao92 t2.length co92, .string (strOfNums y5)] rfl (by (try simp only [List.map_toArray, List.map_cons, List.map_nil]);first|done|rfl|(simp only [List.length_drop, List.length_take];rfl)) ?_;(with_reducible refine (r10_Room.calls kj3 _ _ t2 (strOfNums y5) t13 t14 t15 t16 _ ?side1 ?side2 A11.out).mono ?_);(case side1 => refine (Kd.R_reads' (e := 31) (base := w.heap.size) (ok := fun k_ => True) (n := t2.length) (c := co92) ?_).2.2;exact (by (with_reducible repeat (first|apply Kd.R_alloc|apply Kd.R_drewN|apply Kd.R_drew));exact (Kd.R_mono (Kd.R_far (p := ⟨gb12, 2, none⟩) (Kd.R_far (p := ⟨gb12, 1, none⟩) (Kd.R_far (p := ⟨gb12, 0, none⟩) (Kd.R_types HO4.out BK12.out (by decide)) (fun _ hk => hk.2) (.int .i64 t8)) (fun _ hk => hk.2) (.int .i64 t9)) (fun _ hk => hk.2) (.int .i64 t10)) (fun _ h_ => h_.1))));(case side2 => exact (Kd.R_reads' HO4.out).2.1);rintro e w96 ⟨rfl, hb⟩;refine ⟨_, rfl, ?_⟩;have n0_ := Aside0.mk (Kd.R_below (by (with_reducible repeat (first|apply Kd.R_alloc|apply Kd.R_drewN|apply Kd.R_drew));exact (Kd.R_mono (Kd.R_far (p := ⟨gb12, 2, none⟩) (Kd.R_far (p := ⟨gb12, 1, none⟩) (Kd.R_far (p := ⟨gb12, 0, none⟩) (Kd.R_types HO4.out BK12.out (by decide)) (fun _ hk => hk.2) (.int .i64 t8)) (fun _ hk => hk.2) (.int .i64 t9)) (fun _ hk => hk.2) (.int .i64 t10)) (fun _ h_ => h_.1))) hb);have n1_ := Aside0.mk (Kd.R_below (by (with_reducible repeat (first|apply Kd.R_alloc|apply Kd.R_drewN|apply Kd.R_drew));exact (Kd.R_mono (Kd.R_far (p := ⟨gb12, 2, none⟩) (Kd.R_far (p := ⟨gb12, 1, none⟩) (Kd.R_far (p := ⟨gb12, 0, none⟩) (Kd.R_types HO7.out BK12.out (by decide)) (fun _ hk => hk.2) (.int .i64 t8)) (fun _ hk => hk.2) (.int .i64 t9)) (fun _ hk => hk.2) (.int .i64 t10)) (fun _ h_ => h_.1))) hb);have n2_ := Aside0.mk (blk_below (g := gb12) (o := .cells #[.int .i64 t8, .int .i64 t9, .int .i64 t10] 27 (0, 0)) (by (with_reducible repeat (first|refine blk_drewN ?_ _|refine blk_drew ?_|refine blk_alloc ?_ _));refine blk_put (cs := #[.int .i64 t8, .int .i64 t9, .int .i64 0]) ?_ 2 _ rfl;(with_reducible repeat (first|refine blk_drewN ?_ _|refine blk_drew ?_|refine blk_alloc ?_ _));refine blk_put (cs := #[.int .i64 t8, .int .i64 0, .int .i64 0]) ?_ 1 _ rfl;(with_reducible repeat (first|refine blk_drewN ?_ _|refine blk_drew ?_|refine blk_alloc ?_ _));refine blk_put (cs := #[.int .i64 0, .int .i64 0, .int .i64 0]) ?_ 0 _ rfl;(with_reducible repeat (first|refine blk_drewN ?_ _|refine blk_drew ?_|refine blk_alloc ?_ _));exact BK12.out) hb);have n3_ := Aside0.mk (below_step (by repeat (first|(with_reducible first|exact HB.out|apply below_alloc|apply pw_below_drewN|apply below_drew1|refine below_set ?_ GE12.out)|exact HB.out)) hb);clear HO4;clear HO7;clear BK12;clear HB;have HO4 := n0_;have HO7 := n1_;have BK12 := n2_;have HB := n3_;clear n0_ n1_ n2_ n3_;(try clear hb);(try clear hb2);(try clear hk);(try clear hi))|((with_reducible refine gate_dst (N := 11) rfl ?_);(try (refine gate_guard (by rfl) ?_;dsimp only));refine box_event ?hg (N := 11) ?hd (cs := #[.int .i64 0, .int .i64 0, .int .i64 0]) (t := 27) ?hr ?_;(case hd => rfl);(case hg => rfl);(case hr => first|(go_simp;done)|(go_simp;rfl));intro gb17 hg w97 hbox hb;have n0_ := Aside0.mk (Kd.R_below (by (with_reducible repeat (first|apply Kd.R_alloc|apply Kd.R_drewN|apply Kd.R_drew));exact HO4.out) hb);have n1_ := Aside0.mk (Kd.R_below (by (with_reducible repeat (first|apply Kd.R_alloc|apply Kd.R_drewN|apply Kd.R_drew));exact HO7.out) hb);have n2_ := Aside0.mk (blk_below (g := gb12) (o := .cells #[.int .i64 t8, .int .i64 t9, .int .i64 t10] 27 (0, 0)) (by (with_reducible repeat (first|refine blk_drewN ?_ _|refine blk_drew ?_|refine blk_alloc ?_ _));exact BK12.out) hb);have n3_ := Aside0.mk (below_step (by repeat (first|(with_reducible first|exact HB.out|apply below_alloc|apply pw_below_drewN|apply below_drew1|refine below_set ?_ GE12.out)|exact HB.out)) hb);have n4_ := Aside0.mk (hbox);have n5_ := Aside0.mk ((by rw [hg];exact (below_size (by repeat (first|(with_reducible first|exact HB.out|apply below_alloc|apply pw_below_drewN|apply below_drew1|refine below_set ?_ GE12.out)|exact HB.out))) : w.heap.size ≤ gb17));have n6_ := Aside0.mk ((by rw [hg];exact (below_size (by repeat (first|(with_reducible first|exact HB.out|apply below_alloc|apply pw_below_drewN|apply below_drew1|refine below_set ?_ GE12.out)|exact HB.out))) : w.heap.size ≤ gb17));have n7_ := Aside0.mk ((by rw [hg];exact Nat.ne_of_lt (blk_lt (g := gb12) (o := .cells #[.int .i64 t8, .int .i64 t9, .int .i64 t10] 27 (0, 0)) (by (with_reducible repeat (first|refine blk_drewN ?_ _|refine blk_drew ?_|refine blk_alloc ?_ _));exact BK12.out)) : gb12 ≠ gb17));have n8_ := Aside0.mk ((by rw [hg];exact Nat.ne_of_gt (blk_lt (g := gb12) (o := .cells #[.int .i64 t8, .int .i64 t9, .int .i64 t10] 27 (0, 0)) (by (with_reducible repeat (first|refine blk_drewN ?_ _|refine blk_drew ?_|refine blk_alloc ?_ _));exact BK12.out)) : gb17 ≠ gb12));clear HO4;clear HO7;clear BK12;clear HB;have HO4 := n0_;have HO7 := n1_;have BK12 := n2_;have HB := n3_;have BK17 := n4_;have GW17 := n5_;have GE17 := n6_;have NB12_17 := n7_;have NB17_12 := n8_;clear n0_ n1_ n2_ n3_ n4_ n5_ n6_ n7_ n8_;clear hb hbox hg;have hnb98 := NB17_12.out;have hnc98 := NB12_17.out;have hcz99_0 : w97.cell? ⟨gb17, 0, none⟩ = some (.int .i64 0) := (blk_cell BK17.out 0).trans rfl;have hcz99_1 : w97.cell? ⟨gb17, 1, none⟩ = some (.int .i64 0) := (blk_cell BK17.out 1).trans rfl;have hcz99_2 : w97.cell? ⟨gb17, 2, none⟩ = some (.int .i64 0) := (blk_cell BK17.out 2).trans rfl;have hfz99_0 := blk_frozen BK17.out 0;have hfz99_1 := blk_frozen BK17.out 1;have hfz99_2 := blk_frozen BK17.out 2;have hcz100_0 : w97.cell? ⟨gb12, 0, none⟩ = some (.int .i64 t8) := (blk_cell BK12.out 0).trans rfl;have hcz100_1 : w97.cell? ⟨gb12, 1, none⟩ = some (.int .i64 t9) := (blk_cell BK12.out 1).trans rfl;have hcz100_2 : w97.cell? ⟨gb12, 2, none⟩ = some (.int .i64 t10) := (blk_cell BK12.out 2).trans rfl;have hfz100_0 := blk_frozen BK12.out 0;have hfz100_1 := blk_frozen BK12.out 1;have hfz100_2 := blk_frozen BK12.out 2))
      go_ret
      exact ⟨by first|rfl|(simp [errW_none, errW_some] <;> rfl)|(simp [*, errW_none, errW_some] <;> rfl), by repeat (first|(with_reducible first|exact HB.out|apply below_alloc|apply pw_below_drewN|apply below_drew1|refine below_set ?_ GE12.out|refine below_set ?_ GE17.out)|exact HB.out)⟩
    ·rw [if_neg c12] at H
     have c12b0 : (t8 == t13 && (t9 == t14 && (t10 == t15))) = false := by simpa using c12
     (try (have c12b1 : decide (t8 = t13 && (t9 == t14 && (t10 == t15))) = false := by simpa using c12))
     (try (have c12b2 : (t8 == t13 && (t9 == t14 && (t10 == t15))) = false := by simpa using c12))
     (try (have c12b3 : ¬ (t8 = t13 && (t9 == t14 && (t10 == t15))) := by simpa using c12))
     clear c12
     obtain rfl := Option.some.inj H
     go_wp2_with (first|((with_reducible refine gate_callee (f := 32) rfl ?_);refine goesL_ (some 23) rfl rfl Try.func32 (by kernel_rfl) rfl #[.slice A0 l0.length c0] rfl (by (try simp only [List.map_toArray, List.map_cons, List.map_nil]);first|done|rfl|(simp only [List.length_drop, List.length_take];rfl)) ?_;(with_reducible refine (law12_Make.calls kj3 _ _ l0 t2 _ ?side1 ?side2 A9.out).mono ?_);(case side1 => repeat (first|exact (Kd.C_below HR0.out HB.out)|(with_reducible refine Kd.C_alloc ?_ _)|(with_reducible refine Kd.C_drewN ?_ _)|(with_reducible refine Kd.C_drew ?_)));(case side2 => exact HC0.out);rintro e w101 ⟨v3, rfl, ho0, hb⟩;refine ⟨_, rfl, ?_⟩;have n0_ := Aside0.mk (Kd.R_lower ho0 (below_size (by repeat (first|(with_reducible first|exact HB.out|apply below_alloc|apply pw_below_drewN|apply below_drew1)|exact HB.out))));have n1_ := Aside0.mk (below_step (by repeat (first|(with_reducible first|exact HB.out|apply below_alloc|apply pw_below_drewN|apply below_drew1)|exact HB.out)) hb);clear HB;have HO4 := n0_;have HB := n1_;clear n0_ n1_;(try clear hb);(try clear hb2);(try clear hk);(try clear hi);(try clear ho0))|((with_reducible refine gate_dst (N := 27) rfl ?_);(try (refine gate_guard (by rfl) ?_;dsimp only));refine Kd.R_lit (Kd.int .u8) _ 5 ?hg (N := 27) ?hd (xs := ([(97 + (Int.tmod a2 25)) % 256] : List Int)) (inner := [.int .u8 ((97 + (Int.tmod a2 25)) % 256)]) (ok := fun _ => True) (okp := fun _ => True) ?hr ?hp (fun _ hk => hk) trivial (Below.refl _ _) (Nat.le_refl _) (by simp) ?_;(case hd => rfl);(case hg => rfl);(case hr => first|(go_simp;done)|(go_simp;rfl));(case hp => exact (Reps.one (show Kd.M (Kd.int .u8) _ _ _ ((97 + (Int.tmod a2 25)) % 256) [.int .u8 ((97 + (Int.tmod a2 25)) % 256)] from rfl) (Reps.none _ _)));intro v6 w102 ho103 hb hg_ hnew_;clear hg_ hnew_;(first|rw [← Ny5.out] at ho103|(simp only [Int.reduceToNat] at ho103;rw [← Ny5.out] at ho103));have n0_ := Aside0.mk (Kd.R_below (by (with_reducible repeat (first|apply Kd.R_alloc|apply Kd.R_drewN|apply Kd.R_drew));exact HO4.out) hb);have n1_ := Aside0.mk (Kd.R_lower ho103 (below_size (by repeat (first|(with_reducible first|exact HB.out|apply below_alloc|apply pw_below_drewN|apply below_drew1)|exact HB.out))));have n2_ := Aside0.mk (below_step (by repeat (first|(with_reducible first|exact HB.out|apply below_alloc|apply pw_below_drewN|apply below_drew1)|exact HB.out)) hb);clear HO4;clear HB;have HO4 := n0_;have HO7 := n1_;have HB := n2_;clear n0_ n1_ n2_;clear hb ho103;have hcv104 := own_string (P := Try.prog) Try.underlying22 Try.underlying5 Try.underlying9 (Kd.own_of_R HO7.out);obtain ⟨Ao105, co105, eo105⟩ := Kd.R_slice HO4.out;subst eo105)|((with_reducible refine gate_callee (f := 33) rfl ?_);refine goesL_ (some 32) rfl rfl Try.func33 (by kernel_rfl) rfl #[.slice Ao105 t2.length co105, .string (strOfNums y5)] rfl (by (try simp only [List.map_toArray, List.map_cons, List.map_nil]);first|done|rfl|(simp only [List.length_drop, List.length_take];rfl)) ?_;(with_reducible refine (room_Of.calls kj3 _ _ t2 (strOfNums y5) t8 t9 t10 t11 _ ?side1 ?side2 A10.out).mono ?_);(case side1 => repeat (first|exact (Kd.R_reads' HO4.out).2.2|(with_reducible refine Kd.C_alloc ?_ _)|(with_reducible refine Kd.C_drewN ?_ _)|(with_reducible refine Kd.C_drew ?_)));(case side2 => exact (Kd.R_reads' HO4.out).2.1);rintro e w106 ⟨rfl, hb⟩;refine ⟨_, rfl, ?_⟩;have n0_ := Aside0.mk (Kd.R_below (by (with_reducible repeat (first|apply Kd.R_alloc|apply Kd.R_drewN|apply Kd.R_drew));exact HO4.out) hb);have n1_ := Aside0.mk (Kd.R_below (by (with_reducible repeat (first|apply Kd.R_alloc|apply Kd.R_drewN|apply Kd.R_drew));exact HO7.out) hb);have n2_ := Aside0.mk (below_step (by repeat (first|(with_reducible first|exact HB.out|apply below_alloc|apply pw_below_drewN|apply below_drew1)|exact HB.out)) hb);clear HO4;clear HO7;clear HB;have HO4 := n0_;have HO7 := n1_;have HB := n2_;clear n0_ n1_ n2_;(try clear hb);(try clear hb2);(try clear hk);(try clear hi))|((with_reducible refine gate_dst (N := 9) rfl ?_);(try (refine gate_guard (by rfl) ?_;dsimp only));refine box_event ?hg (N := 9) ?hd (cs := #[.int .i64 0, .int .i64 0, .int .i64 0]) (t := 27) ?hr ?_;(case hd => rfl);(case hg => rfl);(case hr => first|(go_simp;done)|(go_simp;rfl));intro gb12 hg w107 hbox hb;have n0_ := Aside0.mk (Kd.R_below (by (with_reducible repeat (first|apply Kd.R_alloc|apply Kd.R_drewN|apply Kd.R_drew));exact HO4.out) hb);have n1_ := Aside0.mk (Kd.R_below (by (with_reducible repeat (first|apply Kd.R_alloc|apply Kd.R_drewN|apply Kd.R_drew));exact HO7.out) hb);have n2_ := Aside0.mk (below_step (by repeat (first|(with_reducible first|exact HB.out|apply below_alloc|apply pw_below_drewN|apply below_drew1)|exact HB.out)) hb);have n3_ := Aside0.mk (hbox);have n4_ := Aside0.mk ((by rw [hg];exact (below_size (by repeat (first|(with_reducible first|exact HB.out|apply below_alloc|apply pw_below_drewN|apply below_drew1)|exact HB.out))) : w.heap.size ≤ gb12));have n5_ := Aside0.mk ((by rw [hg];exact (below_size (by repeat (first|(with_reducible first|exact HB.out|apply below_alloc|apply pw_below_drewN|apply below_drew1)|exact HB.out))) : w.heap.size ≤ gb12));clear HO4;clear HO7;clear HB;have HO4 := n0_;have HO7 := n1_;have HB := n2_;have BK12 := n3_;have GW12 := n4_;have GE12 := n5_;clear n0_ n1_ n2_ n3_ n4_ n5_;clear hb hbox hg;have hcz108_0 : w107.cell? ⟨gb12, 0, none⟩ = some (.int .i64 0) := (blk_cell BK12.out 0).trans rfl;have hcz108_1 : w107.cell? ⟨gb12, 1, none⟩ = some (.int .i64 0) := (blk_cell BK12.out 1).trans rfl;have hcz108_2 : w107.cell? ⟨gb12, 2, none⟩ = some (.int .i64 0) := (blk_cell BK12.out 2).trans rfl;have hfz108_0 := blk_frozen BK12.out 0;have hfz108_1 := blk_frozen BK12.out 1;have hfz108_2 := blk_frozen BK12.out 2)|((with_reducible refine gate_callee (f := 78) rfl ?_);refine goesL_ (some 38) rfl rfl Try.func78 (by kernel_rfl) rfl #[.slice Ao105 t2.length co105, .string (strOfNums y5)] rfl (by (try simp only [List.map_toArray, List.map_cons, List.map_nil]);first|done|rfl|(simp only [List.length_drop, List.length_take];rfl)) ?_;(with_reducible refine (r10_Room.calls kj3 _ _ t2 (strOfNums y5) t13 t14 t15 t16 _ ?side1 ?side2 A11.out).mono ?_);(case side1 => refine (Kd.R_reads' (e := 31) (base := w.heap.size) (ok := fun k_ => True) (n := t2.length) (c := co105) ?_).2.2;exact (by (with_reducible repeat (first|apply Kd.R_alloc|apply Kd.R_drewN|apply Kd.R_drew));exact (Kd.R_mono (Kd.R_far (p := ⟨gb12, 2, none⟩) (Kd.R_far (p := ⟨gb12, 1, none⟩) (Kd.R_far (p := ⟨gb12, 0, none⟩) (Kd.R_types HO4.out BK12.out (by decide)) (fun _ hk => hk.2) (.int .i64 t8)) (fun _ hk => hk.2) (.int .i64 t9)) (fun _ hk => hk.2) (.int .i64 t10)) (fun _ h_ => h_.1))));(case side2 => exact (Kd.R_reads' HO4.out).2.1);rintro e w109 ⟨rfl, hb⟩;refine ⟨_, rfl, ?_⟩;have n0_ := Aside0.mk (Kd.R_below (by (with_reducible repeat (first|apply Kd.R_alloc|apply Kd.R_drewN|apply Kd.R_drew));exact (Kd.R_mono (Kd.R_far (p := ⟨gb12, 2, none⟩) (Kd.R_far (p := ⟨gb12, 1, none⟩) (Kd.R_far (p := ⟨gb12, 0, none⟩) (Kd.R_types HO4.out BK12.out (by decide)) (fun _ hk => hk.2) (.int .i64 t8)) (fun _ hk => hk.2) (.int .i64 t9)) (fun _ hk => hk.2) (.int .i64 t10)) (fun _ h_ => h_.1))) hb);have n1_ := Aside0.mk (Kd.R_below (by (with_reducible repeat (first|apply Kd.R_alloc|apply Kd.R_drewN|apply Kd.R_drew));exact (Kd.R_mono (Kd.R_far (p := ⟨gb12, 2, none⟩) (Kd.R_far (p := ⟨gb12, 1, none⟩) (Kd.R_far (p := ⟨gb12, 0, none⟩) (Kd.R_types HO7.out BK12.out (by decide)) (fun _ hk => hk.2) (.int .i64 t8)) (fun _ hk => hk.2) (.int .i64 t9)) (fun _ hk => hk.2) (.int .i64 t10)) (fun _ h_ => h_.1))) hb);have n2_ := Aside0.mk (blk_below (g := gb12) (o := .cells #[.int .i64 t8, .int .i64 t9, .int .i64 t10] 27 (0, 0)) (by (with_reducible repeat (first|refine blk_drewN ?_ _|refine blk_drew ?_|refine blk_alloc ?_ _));refine blk_put (cs := #[.int .i64 t8, .int .i64 t9, .int .i64 0]) ?_ 2 _ rfl;(with_reducible repeat (first|refine blk_drewN ?_ _|refine blk_drew ?_|refine blk_alloc ?_ _));refine blk_put (cs := #[.int .i64 t8, .int .i64 0, .int .i64 0]) ?_ 1 _ rfl;(with_reducible repeat (first|refine blk_drewN ?_ _|refine blk_drew ?_|refine blk_alloc ?_ _));refine blk_put (cs := #[.int .i64 0, .int .i64 0, .int .i64 0]) ?_ 0 _ rfl;(with_reducible repeat (first|refine blk_drewN ?_ _|refine blk_drew ?_|refine blk_alloc ?_ _));exact BK12.out) hb);have n3_ := Aside0.mk (below_step (by repeat (first|(with_reducible first|exact HB.out|apply below_alloc|apply pw_below_drewN|apply below_drew1|refine below_set ?_ GE12.out)|exact HB.out)) hb);clear HO4;clear HO7;clear BK12;clear HB;have HO4 := n0_;have HO7 := n1_;have BK12 := n2_;have HB := n3_;clear n0_ n1_ n2_ n3_;(try clear hb);(try clear hb2);(try clear hk);(try clear hi))|((with_reducible refine gate_dst (N := 11) rfl ?_);(try (refine gate_guard (by rfl) ?_;dsimp only));refine box_event ?hg (N := 11) ?hd (cs := #[.int .i64 0, .int .i64 0, .int .i64 0]) (t := 27) ?hr ?_;(case hd => rfl);(case hg => rfl);(case hr => first|(go_simp;done)|(go_simp;rfl));intro gb17 hg w110 hbox hb;have n0_ := Aside0.mk (Kd.R_below (by (with_reducible repeat (first|apply Kd.R_alloc|apply Kd.R_drewN|apply Kd.R_drew));exact HO4.out) hb);have n1_ := Aside0.mk (Kd.R_below (by (with_reducible repeat (first|apply Kd.R_alloc|apply Kd.R_drewN|apply Kd.R_drew));exact HO7.out) hb);have n2_ := Aside0.mk (blk_below (g := gb12) (o := .cells #[.int .i64 t8, .int .i64 t9, .int .i64 t10] 27 (0, 0)) (by (with_reducible repeat (first|refine blk_drewN ?_ _|refine blk_drew ?_|refine blk_alloc ?_ _));exact BK12.out) hb);have n3_ := Aside0.mk (below_step (by repeat (first|(with_reducible first|exact HB.out|apply below_alloc|apply pw_below_drewN|apply below_drew1|refine below_set ?_ GE12.out)|exact HB.out)) hb);have n4_ := Aside0.mk (hbox);have n5_ := Aside0.mk ((by rw [hg];exact (below_size (by repeat (first|(with_reducible first|exact HB.out|apply below_alloc|apply pw_below_drewN|apply below_drew1|refine below_set ?_ GE12.out)|exact HB.out))) : w.heap.size ≤ gb17));have n6_ := Aside0.mk ((by rw [hg];exact (below_size (by repeat (first|(with_reducible first|exact HB.out|apply below_alloc|apply pw_below_drewN|apply below_drew1|refine below_set ?_ GE12.out)|exact HB.out))) : w.heap.size ≤ gb17));have n7_ := Aside0.mk ((by rw [hg];exact Nat.ne_of_lt (blk_lt (g := gb12) (o := .cells #[.int .i64 t8, .int .i64 t9, .int .i64 t10] 27 (0, 0)) (by (with_reducible repeat (first|refine blk_drewN ?_ _|refine blk_drew ?_|refine blk_alloc ?_ _));exact BK12.out)) : gb12 ≠ gb17));have n8_ := Aside0.mk ((by rw [hg];exact Nat.ne_of_gt (blk_lt (g := gb12) (o := .cells #[.int .i64 t8, .int .i64 t9, .int .i64 t10] 27 (0, 0)) (by (with_reducible repeat (first|refine blk_drewN ?_ _|refine blk_drew ?_|refine blk_alloc ?_ _));exact BK12.out)) : gb17 ≠ gb12));clear HO4;clear HO7;clear BK12;clear HB;have HO4 := n0_;have HO7 := n1_;have BK12 := n2_;have HB := n3_;have BK17 := n4_;have GW17 := n5_;have GE17 := n6_;have NB12_17 := n7_;have NB17_12 := n8_;clear n0_ n1_ n2_ n3_ n4_ n5_ n6_ n7_ n8_;clear hb hbox hg;have hnb111 := NB17_12.out;have hnc111 := NB12_17.out;have hcz112_0 : w110.cell? ⟨gb17, 0, none⟩ = some (.int .i64 0) := (blk_cell BK17.out 0).trans rfl;have hcz112_1 : w110.cell? ⟨gb17, 1, none⟩ = some (.int .i64 0) := (blk_cell BK17.out 1).trans rfl;have hcz112_2 : w110.cell? ⟨gb17, 2, none⟩ = some (.int .i64 0) := (blk_cell BK17.out 2).trans rfl;have hfz112_0 := blk_frozen BK17.out 0;have hfz112_1 := blk_frozen BK17.out 1;have hfz112_2 := blk_frozen BK17.out 2;have hcz113_0 : w110.cell? ⟨gb12, 0, none⟩ = some (.int .i64 t8) := (blk_cell BK12.out 0).trans rfl;have hcz113_1 : w110.cell? ⟨gb12, 1, none⟩ = some (.int .i64 t9) := (blk_cell BK12.out 1).trans rfl;have hcz113_2 : w110.cell? ⟨gb12, 2, none⟩ = some (.int .i64 t10) := (blk_cell BK12.out 2).trans rfl;have hfz113_0 := blk_frozen BK12.out 0;have hfz113_1 := blk_frozen BK12.out 1;have hfz113_2 := blk_frozen BK12.out 2))
     go_ret
     exact ⟨by first|rfl|(simp [errW_none, errW_some] <;> rfl)|(simp [*, errW_none, errW_some] <;> rfl), by repeat (first|(with_reducible first|exact HB.out|apply below_alloc|apply pw_below_drewN|apply below_drew1|refine below_set ?_ GE12.out|refine below_set ?_ GE17.out)|exact HB.out)⟩
/-- THE ONE PURE STATEMENT of law13_RoomMade: yours. -/
def law13_RoomMade.Pure : Prop := ∀ (l0 : List Int) (l1 : List Int) (a2 : Int), l0.length ≤ maxLen → l0.length * 1 ≤ 140737488351232 → (∀ x ∈ l0, (Lit.int .u8 x).wf = true) → l1.length ≤ maxLen → l1.length * 1 ≤ 140737488351232 → (∀ x ∈ l1, (Lit.int .u8 x).wf = true) → (Lit.int .u8 a2).wf = true → ∃ k, law13_RoomMade.f k l0 l1 a2 = some true
theorem law13_RoomMade.walk (P : law13_RoomMade.Pure) (a0 : Option Addr) (len0 cap0 : Nat) (z0 : List Int) (a1 : Option Addr) (len1 cap1 : Nat) (z1 : List Int) (a2 : Int) (w : World) (w0 : (a0 = none ∧ len0 = 0 ∧ cap0 = 0 ∧ z0 = []) ∨ ∃ x, a0 = some x ∧ len0 ≤ cap0 ∧ cap0 ≤ maxLen ∧ z0.length = cap0 ∧ (∀ i, i < z0.length → w.cell? (x.add i) = some (.int .u8 (z0.getD i 0))) ∧ ∀ n ∈ z0, (Lit.int .u8 n).wf = true) (y0 : len0 * 1 ≤ 140737488351232) (w1 : (a1 = none ∧ len1 = 0 ∧ cap1 = 0 ∧ z1 = []) ∨ ∃ x, a1 = some x ∧ len1 ≤ cap1 ∧ cap1 ≤ maxLen ∧ z1.length = cap1 ∧ (∀ i, i < z1.length → w.cell? (x.add i) = some (.int .u8 (z1.getD i 0))) ∧ ∀ n ∈ z1, (Lit.int .u8 n).wf = true) (y1 : len1 * 1 ≤ 140737488351232) (w2 : (Lit.int .u8 a2).wf = true) :
  Calls Try.prog 20 #[.slice a0 len0 cap0, .slice a1 len1 cap1, .int .u8 a2] w fun e w' => e = .returned (.bool true) ∧ Below w.heap.size w w' := by
 obtain ⟨l0, rfl, hr0, hm0, hw0, hc0⟩ := ReadsInt.ofRowC w0
 obtain ⟨l1, rfl, hr1, hm1, hw1, hc1⟩ := ReadsInt.ofRowC w1
 obtain ⟨k, h⟩ := P l0 l1 a2 hm0 y0 hw0 hm1 y1 hw1 w2
 refine (law13_RoomMade.calls k _ _ l0 _ _ l1 a2 true w (Kd.C_of_reads (d := (0 : Int)) (h1 := fun _ => rfl) hr0) hc0 (Kd.C_of_reads (d := (0 : Int)) (h1 := fun _ => rfl) hr1) hc1 h).mono ?_
 rintro e w' ⟨rfl, hd⟩
 exact ⟨rfl, hd⟩
end Go.Proofs.Ytcgefpklljclgaa.Print

namespace Go.Proofs.Ytcgefpklljclgaa.Print
open Go.RowKit Go.Proofs.YtcgefpklljclgaaW.PrintWords Go.Proofs.YtcgefpklljclgaaW.PrintLast
set_option linter.unusedVariables false
set_option linter.unusedSimpArgs false
abbrev Item := S31
abbrev Vec := S27
abbrev zItem : Item := z31
theorem rd_item (l : List Item) (i : Int) : rd_T31 l i = l.getD i.toNat zItem := rfl
instance baLawful : LawfulBEq ByteArray where
  eq_of_beq {a b} h := by
    obtain ⟨a⟩ := a
    obtain ⟨b⟩ := b
    have : (a == b) = true := h
    rw [eq_of_beq this]
  rfl {a} := by
    obtain ⟨a⟩ := a
    show (a == a) = true
    exact beq_self_eq_true a
/-- a name is its bytes -/
theorem nm_inj {a b : ByteArray} : a.toList = b.toList ↔ a = b := by
  constructor
  · intro h
    rw [ByteArray.toList_eq, ByteArray.toList_eq] at h
    exact ByteArray.ext (Array.toList_inj.1 h)
  · rintro rfl; rfl
theorem nm_beq (a b : ByteArray) : (a.toList == b.toList) = decide (a = b) := by
  rw [Bool.eq_iff_iff, beq_iff_eq, nm_inj, decide_eq_true_iff]
theorem nm_empty {a : ByteArray} : a.toList = ([] : List UInt8) ↔ a = ⟨#[]⟩ := by
  rw [← nm_inj]; rw [show (ByteArray.mk #[]).toList = [] from by rw [ByteArray.toList_eq]]
theorem w64 {n : Int} (h0 : -9223372036854775808 ≤ n) (h1 : n ≤ 9223372036854775807) : wrap64 n = n := by unfold wrap64; omega
/-! the place of a name -/
def look (l : List Item) (n : ByteArray) : Option Item := l.find? (fun x => x.f0 = n)
def fnd (l : List Item) (n : ByteArray) : Int := fidx (fun x : Item => x.f0.toList == n.toList) l 0
theorem fidx_none {α : Type} {p : α → Bool} : ∀ {l : List α} {i : Int}, (∀ x ∈ l, p x = false) → fidx p l i = -1
  | [], _, _ => rfl
  | x :: l, i, h => by
    unfold fidx
    rw [if_neg (by rw [h x (by simp)]; simp)]
    exact fidx_none (fun y hy => h y (by simp [hy]))
theorem fidx_some {α : Type} {p : α → Bool} (z : α) : ∀ {l : List α} {i : Int} {x : α}, l.find? p = some x → ∃ j : Nat, j < l.length ∧ fidx p l i = i + j ∧ l.getD j z = x ∧ p x = true ∧ ∀ m, m < j → p (l.getD m z) = false
  | [], _, _, h => by simp at h
  | y :: l, i, x, h => by
    unfold fidx
    by_cases hy : p y = true
    · rw [if_pos hy]
      simp only [List.find?_cons, hy] at h
      obtain rfl := Option.some.inj h
      exact ⟨0, by simp, by simp, by simp, hy, fun m hm => by omega⟩
    · rw [if_neg hy]
      have hy' : p y = false := by simpa using hy
      simp only [List.find?_cons, hy'] at h
      obtain ⟨j, hj, h1, h2, h3, h4⟩ := fidx_some z (i := i + 1) h
      refine ⟨j + 1, by simp; omega, by rw [h1]; omega, by simpa using h2, h3, fun m hm => ?_⟩
      cases m with
      | zero => simpa using hy'
      | succ m => simpa using h4 m (by omega)
theorem look_pred (n : ByteArray) : (fun x : Item => x.f0.toList == n.toList) = (fun x : Item => decide (x.f0 = n)) := by
  funext x; exact nm_beq _ _
theorem look_mem {l : List Item} {n : ByteArray} {x : Item} (h : look l n = some x) : x ∈ l ∧ x.f0 = n := by
  unfold look at h
  exact ⟨List.mem_of_find?_eq_some h, by simpa using List.find?_some h⟩
theorem look_none {l : List Item} {n : ByteArray} : look l n = none ↔ ∀ x ∈ l, x.f0 ≠ n := by
  unfold look
  simp
theorem fnd_none {l : List Item} {n : ByteArray} (h : look l n = none) : fnd l n = -1 := by
  unfold fnd
  refine fidx_none fun x hx => ?_
  rw [nm_beq]
  simpa using look_none.1 h x hx
theorem fnd_some {l : List Item} {n : ByteArray} {x : Item} (h : look l n = some x) : ∃ j : Nat, j < l.length ∧ fnd l n = j ∧ l.getD j zItem = x ∧ x.f0 = n ∧ ∀ m, m < j → (l.getD m zItem).f0 ≠ n := by
  have h' : l.find? (fun x : Item => x.f0.toList == n.toList) = some x := by rw [look_pred]; exact h
  obtain ⟨j, h1, h2, h3, h4, h5⟩ := fidx_some zItem (i := 0) h'
  refine ⟨j, h1, by unfold fnd; rw [h2]; omega, h3, by simpa [nm_beq] using h4, fun m hm => ?_⟩
  simpa [nm_beq] using h5 m hm
theorem fnd_lt (l : List Item) (n : ByteArray) : fnd l n < l.length := by
  cases h : look l n with
  | none => rw [fnd_none h]; omega
  | some x => obtain ⟨j, h1, h2, _⟩ := fnd_some h; omega
theorem fnd_neg {l : List Item} {n : ByteArray} : fnd l n < 0 ↔ look l n = none := by
  cases h : look l n with
  | none => rw [fnd_none h]; simp
  | some x => obtain ⟨j, h1, h2, _⟩ := fnd_some h; simp; omega
theorem fnd_ge {l : List Item} {n : ByteArray} : 0 ≤ fnd l n ↔ ∃ x, look l n = some x := by
  cases h : look l n with
  | none => rw [fnd_none h]; simp
  | some x => obtain ⟨j, h1, h2, _⟩ := fnd_some h; simp; omega
theorem fnd_rd {l : List Item} {n : ByteArray} {x : Item} (h : look l n = some x) : rd_T31 l (fnd l n) = x := by
  obtain ⟨j, h1, h2, h3, _⟩ := fnd_some h
  rw [rd_item, h2, Int.toNat_natCast]; exact h3
theorem tree_Find_eq (l : List Item) (n : ByteArray) : tree_Find.f l n = some (fnd l n) := rfl
/-! the way up -/
inductive Chain (l : List Item) : ByteArray → List ByteArray → Prop where
  | nil {n : ByteArray} : look l n = none → Chain l n []
  | cons {n : ByteArray} {x : Item} {us : List ByteArray} : look l n = some x → Chain l x.f1 us → Chain l n (n :: us)
def upGo (l : List Item) : Nat → ByteArray → List ByteArray
  | 0, _ => []
  | m + 1, n => match look l n with
    | none => []
    | some x => n :: upGo l m x.f1
def up (l : List Item) (n : ByteArray) : List ByteArray := upGo l (l.length + 1) n
theorem upGo_len (l : List Item) : ∀ (m : Nat) (n : ByteArray), (upGo l m n).length ≤ m
  | 0, _ => by simp [upGo]
  | m + 1, n => by
    unfold upGo
    cases look l n with
    | none => simp
    | some x => have := upGo_len l m x.f1; simp; omega
theorem up_len (l : List Item) (n : ByteArray) : (up l n).length ≤ l.length + 1 := upGo_len l _ n
theorem upGo_none {l : List Item} {n : ByteArray} (h : look l n = none) (m : Nat) : upGo l m n = [] := by
  cases m with
  | zero => rfl
  | succ m => unfold upGo; rw [h]
theorem upGo_some {l : List Item} {n : ByteArray} {x : Item} (h : look l n = some x) (m : Nat) : upGo l (m + 1) n = n :: upGo l m x.f1 := by
  rw [upGo.eq_2, h]
theorem Chain.det {l : List Item} {n : ByteArray} {us : List ByteArray} (h : Chain l n us) : ∀ {vs : List ByteArray}, Chain l n vs → us = vs := by
  induction h with
  | nil h =>
    intro vs k
    cases k with
    | nil _ => rfl
    | cons k _ => rw [h] at k; cases k
  | cons h _ ih =>
    intro vs k
    cases k with
    | nil k => rw [h] at k; cases k
    | cons k k2 =>
      rw [h] at k
      cases k
      rw [ih k2]
theorem Chain.upGo {l : List Item} {n : ByteArray} {us : List ByteArray} (h : Chain l n us) : ∀ m, us.length ≤ m → upGo l m n = us := by
  induction h with
  | nil h => intro m _; exact upGo_none h m
  | cons h _ ih =>
    intro m hm
    cases m with
    | zero => simp at hm
    | succ m =>
      rw [upGo_some h, ih m (by simpa using hm)]
theorem Chain.suffix {l : List Item} {n : ByteArray} {us : List ByteArray} (h : Chain l n us) : ∀ {m : ByteArray}, m ∈ us → ∃ vs ws, us = ws ++ vs ∧ Chain l m vs ∧ ∃ vt, vs = m :: vt := by
  induction h with
  | nil _ => intro m hm; cases hm
  | @cons n x us h k ih =>
    intro m hm
    rcases List.mem_cons.1 hm with rfl | hm
    · exact ⟨_, [], rfl, .cons h k, _, rfl⟩
    · obtain ⟨vs, ws, e, hc, he⟩ := ih hm
      exact ⟨vs, n :: ws, by rw [e]; rfl, hc, he⟩
theorem Chain.mem_look {l : List Item} {n : ByteArray} {us : List ByteArray} (h : Chain l n us) {m : ByteArray} (hm : m ∈ us) : ∃ x, look l m = some x := by
  obtain ⟨vs, ws, _, hc, vt, rfl⟩ := h.suffix hm
  cases hc with
  | cons h _ => exact ⟨_, h⟩
theorem Chain.nodup {l : List Item} {n : ByteArray} {us : List ByteArray} (h : Chain l n us) : us.Nodup := by
  induction h with
  | nil _ => simp
  | @cons n x us h k ih =>
    rw [List.nodup_cons]
    refine ⟨fun hm => ?_, ih⟩
    obtain ⟨vs, ws, e, hc, _⟩ := k.suffix hm
    have := hc.det (.cons h k)
    rw [this] at e
    have := congrArg List.length e
    simp at this
    omega
theorem Chain.len {l : List Item} {n : ByteArray} {us : List ByteArray} (h : Chain l n us) : us.length ≤ l.length := by
  have := h.nodup.length_le_of_subset (l₂ := l.map (·.f0)) (fun m hm => by
    obtain ⟨x, hx⟩ := h.mem_look hm
    obtain ⟨h1, rfl⟩ := look_mem hx
    exact List.mem_map_of_mem h1)
  simpa using this
theorem Chain.up {l : List Item} {n : ByteArray} {us : List ByteArray} (h : Chain l n us) : up l n = us := h.upGo _ (by have := h.len; omega)
end Go.Proofs.Ytcgefpklljclgaa.Print

namespace Go.Proofs.Ytcgefpklljclgaa.Print
open Go.RowKit Go.Proofs.YtcgefpklljclgaaW.PrintWords Go.Proofs.YtcgefpklljclgaaW.PrintLast
set_option linter.unusedVariables false
set_option linter.unusedSimpArgs false
/-! names in order -/
def lt (a b : ByteArray) : Bool := Op.bytesLess a.toList b.toList
theorem bl_irrefl : ∀ a : List UInt8, Op.bytesLess a a = false
  | [] => rfl
  | x :: a => by unfold Op.bytesLess; simp [bl_irrefl a]
theorem bl_trans : ∀ {a b c : List UInt8}, Op.bytesLess a b = true → Op.bytesLess b c = true → Op.bytesLess a c = true
  | [], [], _, h, _ => by simp [Op.bytesLess] at h
  | [], _ :: _, [], _, k => by simp [Op.bytesLess] at k
  | [], _ :: _, _ :: _, _, _ => by simp [Op.bytesLess]
  | _ :: _, [], _, h, _ => by simp [Op.bytesLess] at h
  | _ :: _, _ :: _, [], _, k => by simp [Op.bytesLess] at k
  | x :: a, y :: b, z :: c, h, k => by
    simp only [Op.bytesLess, Bool.or_eq_true, Bool.and_eq_true, decide_eq_true_eq, beq_iff_eq] at h k ⊢
    rcases h with h | ⟨rfl, h⟩
    · rcases k with k | ⟨rfl, k⟩
      · exact .inl (UInt8.lt_trans h k)
      · exact .inl h
    · rcases k with k | ⟨rfl, k⟩
      · exact .inl k
      · exact .inr ⟨rfl, bl_trans h k⟩
theorem bl_total : ∀ {a b : List UInt8}, Op.bytesLess a b = false → a ≠ b → Op.bytesLess b a = true
  | [], [], _, h => absurd rfl h
  | [], _ :: _, h, _ => by simp [Op.bytesLess] at h
  | _ :: _, [], _, _ => by simp [Op.bytesLess]
  | x :: a, y :: b, h, k => by
    simp only [Op.bytesLess, Bool.or_eq_true, Bool.or_eq_false_iff, Bool.and_eq_false_iff, Bool.and_eq_true, decide_eq_true_eq, decide_eq_false_iff_not, beq_iff_eq, beq_eq_false_iff_ne] at h ⊢
    obtain ⟨h1, h2⟩ := h
    by_cases e : x = y
    · subst e
      rcases h2 with h2 | h2
      · exact absurd rfl h2
      · exact .inr ⟨rfl, bl_total h2 (fun e => k (by rw [e]))⟩
    · left
      have h3 : ¬ x.toNat < y.toNat := by rwa [← UInt8.lt_iff_toNat_lt]
      have h4 : x.toNat ≠ y.toNat := fun q => e (UInt8.toNat_inj.1 q)
      rw [UInt8.lt_iff_toNat_lt]; omega
theorem lt_irrefl (a : ByteArray) : lt a a = false := bl_irrefl _
theorem lt_trans {a b c : ByteArray} (h : lt a b = true) (k : lt b c = true) : lt a c = true := bl_trans h k
theorem lt_total {a b : ByteArray} (h : lt a b = false) (k : a ≠ b) : lt b a = true := bl_total h (fun e => k (nm_inj.1 e))
theorem lt_ne {a b : ByteArray} (h : lt a b = true) : a ≠ b := by rintro rfl; rw [lt_irrefl] at h; cases h
/-! amounts -/
inductive Comp where | cpu | mem | pods
def Comp.of : Comp → Vec → Int | .cpu, v => v.f0 | .mem, v => v.f1 | .pods, v => v.f2
theorem vec_ext {a b : Vec} (h : ∀ c : Comp, c.of a = c.of b) : a = b := by
  cases a; cases b
  have h0 := h .cpu; have h1 := h .mem; have h2 := h .pods
  simp [Comp.of] at h0 h1 h2
  simp [h0, h1, h2]
def vadd (a b : Vec) : Vec := ⟨a.f0 + b.f0, a.f1 + b.f1, a.f2 + b.f2⟩
def vsub (a b : Vec) : Vec := ⟨a.f0 - b.f0, a.f1 - b.f1, a.f2 - b.f2⟩
theorem of_vadd (c : Comp) (a b : Vec) : c.of (vadd a b) = c.of a + c.of b := by cases c <;> rfl
theorem of_vsub (c : Comp) (a b : Vec) : c.of (vsub a b) = c.of a - c.of b := by cases c <;> rfl
def MayP (v : Vec) : Prop := ∀ c : Comp, 0 ≤ c.of v ∧ c.of v ≤ 1099511627776
def LeP (a b : Vec) : Prop := ∀ c : Comp, c.of a ≤ c.of b
theorem comp_all {p : Comp → Prop} : (∀ c, p c) ↔ p .cpu ∧ p .mem ∧ p .pods :=
  ⟨fun h => ⟨h _, h _, h _⟩, fun ⟨a, b, d⟩ c => by cases c <;> assumption⟩
instance (v : Vec) : Decidable (MayP v) := decidable_of_iff _ comp_all.symm
instance (a b : Vec) : Decidable (LeP a b) := decidable_of_iff _ comp_all.symm
theorem mayP_iff {a b d : Int} : MayP ⟨a, b, d⟩ ↔ (0 ≤ a ∧ a ≤ 1099511627776) ∧ (0 ≤ b ∧ b ≤ 1099511627776) ∧ (0 ≤ d ∧ d ≤ 1099511627776) := comp_all
theorem leP_iff {a b d a' b' d' : Int} : LeP ⟨a, b, d⟩ ⟨a', b', d'⟩ ↔ a ≤ a' ∧ b ≤ b' ∧ d ≤ d' := comp_all
/-! sums over a tree -/
def sumBy (g : Item → Int) (l : List Item) : Int := (l.map g).sum
theorem sumBy_nil (g : Item → Int) : sumBy g [] = 0 := rfl
theorem sumBy_cons (g : Item → Int) (x : Item) (l : List Item) : sumBy g (x :: l) = g x + sumBy g l := by simp [sumBy]
theorem sumBy_append (g : Item → Int) (l m : List Item) : sumBy g (l ++ m) = sumBy g l + sumBy g m := by simp [sumBy]
theorem sumBy_congr {g h : Item → Int} : ∀ {l : List Item}, (∀ x ∈ l, g x = h x) → sumBy g l = sumBy h l
  | [], _ => rfl
  | x :: l, e => by rw [sumBy_cons, sumBy_cons, e x (by simp), sumBy_congr (fun y hy => e y (by simp [hy]))]
theorem sumBy_add (g h : Item → Int) : ∀ l : List Item, sumBy (fun x => g x + h x) l = sumBy g l + sumBy h l
  | [] => rfl
  | x :: l => by rw [sumBy_cons, sumBy_cons, sumBy_cons, sumBy_add g h l]; omega
theorem sumBy_map (g : Item → Int) (f : Item → Item) : ∀ l : List Item, sumBy g (l.map f) = sumBy (fun x => g (f x)) l
  | [] => rfl
  | x :: l => by rw [List.map_cons, sumBy_cons, sumBy_cons, sumBy_map g f l]
theorem sumBy_zero {g : Item → Int} : ∀ {l : List Item}, (∀ x ∈ l, g x = 0) → sumBy g l = 0
  | [], _ => rfl
  | x :: l, e => by rw [sumBy_cons, e x (by simp), sumBy_zero (fun y hy => e y (by simp [hy]))]; rfl
theorem sumBy_nonneg {g : Item → Int} : ∀ {l : List Item}, (∀ x ∈ l, 0 ≤ g x) → 0 ≤ sumBy g l
  | [], _ => by simp [sumBy_nil]
  | x :: l, e => by rw [sumBy_cons]; have := e x (by simp); have := sumBy_nonneg (l := l) (fun y hy => e y (by simp [hy])); omega
/-- one summand alone: names stand once -/
theorem sumBy_one {v : Int} {l : List Item} (hn : (l.map (·.f0)).Nodup) {x : Item} (hx : x ∈ l) : sumBy (fun y => if y.f0 = x.f0 then v else 0) l = v := by
  induction l with
  | nil => cases hx
  | cons y l ih =>
    rw [List.map_cons, List.nodup_cons] at hn
    rw [sumBy_cons]
    rcases List.mem_cons.1 hx with rfl | hx
    · rw [if_pos rfl, sumBy_zero (fun z hz => if_neg (fun e => hn.1 (by rw [← e]; exact List.mem_map_of_mem hz)))]; omega
    · rw [if_neg (fun e => hn.1 (by rw [e]; exact List.mem_map_of_mem hx)), ih hn.2 hx]; omega
/-- what the children have -/
def csum (c : Comp) (l : List Item) (n : ByteArray) : Int := sumBy (fun y => if y.f1 = n then c.of y.f4 else 0) l
/-! right trees -/
structure ItemOK (x : Item) : Prop where
  name : x.f0 ≠ ⟨#[]⟩
  size : x.f0.size ≤ 24
  lim : MayP x.f2
  own : MayP x.f3
  sub : MayP x.f4
  fit : LeP x.f4 x.f2
  ver : 1 ≤ x.f5 ∧ x.f5 ≤ 9007199254740992
structure RightP (l : List Item) : Prop where
  len : l.length ≤ 120
  ok : ∀ x ∈ l, ItemOK x
  sorted : l.Pairwise (fun x y => lt x.f0 y.f0 = true)
  par : ∀ x ∈ l, x.f1 = ⟨#[]⟩ ∨ ∃ y, look l x.f1 = some y
  sum : ∀ c : Comp, ∀ x ∈ l, c.of x.f4 = c.of x.f3 + csum c l x.f0
  chain : ∀ x ∈ l, ∃ us, Chain l x.f0 us
theorem sorted_nodup {l : List Item} (h : l.Pairwise (fun x y => lt x.f0 y.f0 = true)) : (l.map (·.f0)).Nodup := by
  rw [List.Nodup, List.pairwise_map]
  exact h.imp (fun hxy => lt_ne hxy)
theorem RightP.nodup {l : List Item} (h : RightP l) : (l.map (·.f0)).Nodup := sorted_nodup h.sorted
theorem look_of_mem {l : List Item} (hn : (l.map (·.f0)).Nodup) {x : Item} (hx : x ∈ l) : look l x.f0 = some x := by
  induction l with
  | nil => cases hx
  | cons y l ih =>
    rw [List.map_cons, List.nodup_cons] at hn
    unfold look
    rw [List.find?_cons]
    rcases List.mem_cons.1 hx with rfl | hx
    · simp
    · have : y.f0 ≠ x.f0 := fun e => hn.1 (by rw [e]; exact List.mem_map_of_mem hx)
      simp only [this, decide_false]
      exact ih hn.2 hx
theorem RightP.look {l : List Item} (h : RightP l) {x : Item} (hx : x ∈ l) : look l x.f0 = some x := look_of_mem h.nodup hx
theorem RightP.chainAll {l : List Item} (h : RightP l) (n : ByteArray) : Chain l n (up l n) := by
  cases hl : Print.look l n with
  | none => have c := Chain.nil hl; rw [c.up]; exact c
  | some x =>
    obtain ⟨hx, rfl⟩ := look_mem hl
    obtain ⟨us, c⟩ := h.chain x hx
    rw [c.up]; exact c
theorem right_nil : RightP [] := ⟨by simp, by simp, by simp, by simp, by simp, by simp⟩
/-- two that have one name are one -/
theorem RightP.eq_of {l : List Item} (h : RightP l) {x y : Item} (hx : x ∈ l) (hy : y ∈ l) (e : x.f0 = y.f0) : x = y := by
  have h1 := h.look hx
  rw [e, h.look hy] at h1
  exact (Option.some.inj h1).symm
end Go.Proofs.Ytcgefpklljclgaa.Print

namespace Go.Proofs.Ytcgefpklljclgaa.Print
open Go.RowKit Go.Proofs.YtcgefpklljclgaaW.PrintWords Go.Proofs.YtcgefpklljclgaaW.PrintLast
set_option linter.unusedVariables false
set_option linter.unusedSimpArgs false
/-! a tree whose items change, but neither their names nor parents -/
theorem look_map {f : Item → Item} (hf : ∀ x, (f x).f0 = x.f0) (l : List Item) (n : ByteArray) : look (l.map f) n = (look l n).map f := by
  unfold look
  rw [List.find?_map]
  congr 2
  funext x
  simp [hf]
theorem Chain.map {f : Item → Item} (hf : ∀ x, (f x).f0 = x.f0) (hp : ∀ x, (f x).f1 = x.f1) {l : List Item} {n : ByteArray} {us : List ByteArray} (h : Chain l n us) : Chain (l.map f) n us := by
  induction h with
  | nil h => exact .nil (by rw [look_map hf, h]; rfl)
  | @cons n x us h k ih => exact .cons (x := f x) (by rw [look_map hf, h]; rfl) (by rw [hp]; exact ih)
theorem up_self {l : List Item} {n : ByteArray} {x : Item} (h : look l n = some x) : n ∈ up l n := by
  unfold up
  rw [upGo_some h]
  simp
/-- which of a node's children stand on a way up -/
theorem chain_kids {l : List Item} (hl : RightP l) {n : ByteArray} {us : List ByteArray} (h : Chain l n us) (v : Int) {x : Item} (hx : x ∈ l) :
    sumBy (fun y => if y.f1 = x.f0 ∧ y.f0 ∈ us then v else 0) l = if x.f0 ∈ us ∧ x.f0 ≠ n then v else 0 := by
  induction h with
  | nil _ => rw [sumBy_zero (fun y _ => by simp)]; simp
  | @cons n z us h k ih =>
    obtain ⟨hz, rfl⟩ := look_mem h
    have hnd := (Chain.cons h k).nodup
    rw [List.nodup_cons] at hnd
    have e : sumBy (fun y => if y.f1 = x.f0 ∧ y.f0 ∈ z.f0 :: us then v else 0) l = sumBy (fun y => (if y.f0 = z.f0 then (if z.f1 = x.f0 then v else 0) else 0) + (if y.f1 = x.f0 ∧ y.f0 ∈ us then v else 0)) l := by
      refine sumBy_congr fun y hy => ?_
      by_cases e1 : y.f0 = z.f0
      · have := hl.eq_of hy hz e1
        subst this
        by_cases e2 : y.f1 = x.f0 <;> simp [e2, hnd.1]
      · simp [e1]
    rw [e, sumBy_add, ih, sumBy_one hl.nodup hz]
    by_cases e2 : z.f1 = x.f0
    · have hm : x.f0 ∈ us := by
        rw [e2] at k
        cases k with
        | nil k => rw [hl.look hx] at k; cases k
        | cons _ _ => simp
      have hne : x.f0 ≠ z.f0 := fun q => hnd.1 (by rw [← q]; exact hm)
      simp [e2, hm, hne]
    · by_cases e3 : x.f0 = z.f0
      · simp [e2, e3, hnd.1]
        exact fun q => absurd (q.trans e3.symm) e2
      · have e4 : x.f0 ≠ z.f1 := fun q => e2 q.symm
        simp [e2, e3, e4]
/-! letting in (and out) -/
def admF (us : List ByteArray) (n : ByteArray) (v : Vec) (x : Item) : Item := ⟨x.f0, x.f1, x.f2, if x.f0 = n then vadd x.f3 v else x.f3, if x.f0 ∈ us then vadd x.f4 v else x.f4, x.f5⟩
def admL (l : List Item) (n : ByteArray) (v : Vec) : List Item := l.map (admF (up l n) n v)
theorem csum_adm {l : List Item} (hl : RightP l) (c : Comp) (n : ByteArray) (v : Vec) {x : Item} (hx : x ∈ l) :
    csum c (admL l n v) x.f0 = csum c l x.f0 + if x.f0 ∈ up l n ∧ x.f0 ≠ n then c.of v else 0 := by
  unfold csum admL
  rw [sumBy_map, ← chain_kids hl (hl.chainAll n) (c.of v) hx, ← sumBy_add]
  refine sumBy_congr fun y hy => ?_
  simp only [admF]
  by_cases e1 : y.f1 = x.f0 <;> by_cases e2 : y.f0 ∈ up l n <;> simp [e1, e2, of_vadd]
/-- what keeps a tree right when something is let in or out along a way -/
theorem adm_right {l : List Item} (hl : RightP l) {n : ByteArray} (v : Vec) (hin : ∃ x, look l n = some x)
    (hown : ∀ x ∈ l, x.f0 = n → MayP (vadd x.f3 v)) (hsub : ∀ x ∈ l, x.f0 ∈ up l n → MayP (vadd x.f4 v)) (hfit : ∀ x ∈ l, x.f0 ∈ up l n → LeP (vadd x.f4 v) x.f2) : RightP (admL l n v) where
  len := by unfold admL; rw [List.length_map]; exact hl.len
  ok := by
    intro y hy
    obtain ⟨x, hx, rfl⟩ := List.mem_map.1 hy
    have k := hl.ok x hx
    refine ⟨k.name, k.size, k.lim, ?_, ?_, ?_, k.ver⟩
    · show MayP (if x.f0 = n then vadd x.f3 v else x.f3)
      split
      · exact hown x hx (by assumption)
      · exact k.own
    · show MayP (if x.f0 ∈ up l n then vadd x.f4 v else x.f4)
      split
      · exact hsub x hx (by assumption)
      · exact k.sub
    · show LeP (if x.f0 ∈ up l n then vadd x.f4 v else x.f4) x.f2
      split
      · exact hfit x hx (by assumption)
      · exact k.fit
  sorted := by
    unfold admL
    rw [List.pairwise_map]
    exact hl.sorted
  par := by
    intro y hy
    obtain ⟨x, hx, rfl⟩ := List.mem_map.1 hy
    rcases hl.par x hx with h | ⟨z, h⟩
    · exact .inl h
    · exact .inr ⟨_, by unfold admL; rw [look_map (f := admF (up l n) n v) (fun _ => rfl)]; show (look l x.f1).map _ = _; rw [h]; rfl⟩
  sum := by
    intro c y hy
    obtain ⟨x, hx, rfl⟩ := List.mem_map.1 hy
    show c.of (if x.f0 ∈ up l n then vadd x.f4 v else x.f4) = c.of (if x.f0 = n then vadd x.f3 v else x.f3) + csum c (admL l n v) x.f0
    rw [csum_adm hl c n v hx]
    have hs := hl.sum c x hx
    by_cases e : x.f0 = n
    · have hm : x.f0 ∈ up l n := by
        obtain ⟨z, hz⟩ := hin
        rw [e]; exact up_self hz
      simp [e] at hm ⊢
      rw [if_pos hm, of_vadd, of_vadd, hs, e]; omega
    · by_cases hm : x.f0 ∈ up l n
      · simp [e, hm, of_vadd]; omega
      · simp [e, hm]; omega
  chain := by
    intro y hy
    obtain ⟨x, hx, rfl⟩ := List.mem_map.1 hy
    obtain ⟨us, h⟩ := hl.chain x hx
    exact ⟨us, h.map (f := admF (up l n) n v) (fun _ => rfl) (fun _ => rfl)⟩
/-! a new node -/
def insL (l : List Item) (it : Item) : List Item := l.takeWhile (fun x => lt x.f0 it.f0) ++ it :: l.dropWhile (fun x => lt x.f0 it.f0)
theorem look_ins (a b : List Item) (it : Item) (n : ByteArray) (h : look (a ++ b) it.f0 = none) : look (a ++ it :: b) n = if n = it.f0 then some it else look (a ++ b) n := by
  unfold look at h ⊢
  rw [List.find?_append] at h ⊢
  rw [List.find?_append, List.find?_cons]
  by_cases e : it.f0 = n
  · subst e
    cases ha : a.find? (fun x => decide (x.f0 = it.f0)) with
    | some y => rw [ha] at h; simp at h
    | none => simp
  · have e' : n ≠ it.f0 := fun q => e q.symm
    simp [e, e']
theorem insL_eq (l : List Item) (it : Item) : ∃ a b, l = a ++ b ∧ insL l it = a ++ it :: b ∧ (∀ x ∈ a, lt x.f0 it.f0 = true) ∧ (∀ x t, b = x :: t → lt x.f0 it.f0 = false) := by
  refine ⟨l.takeWhile (fun x => lt x.f0 it.f0), l.dropWhile (fun x => lt x.f0 it.f0), (List.takeWhile_append_dropWhile).symm, rfl, fun x hx => ?_, fun x t e => ?_⟩
  · exact List.all_eq_true.1 (List.all_takeWhile (p := fun x : Item => lt x.f0 it.f0) (l := l)) x hx
  · have := List.head?_dropWhile_not (fun x : Item => lt x.f0 it.f0) l
    rw [e] at this
    simpa using this
theorem csum_ins (c : Comp) (a b : List Item) (it : Item) (n : ByteArray) : csum c (a ++ it :: b) n = csum c (a ++ b) n + if it.f1 = n then c.of it.f4 else 0 := by
  unfold csum
  rw [sumBy_append, sumBy_append, sumBy_cons]; omega
theorem ins_right {l : List Item} (hl : RightP l) {it : Item} (hi : ItemOK it) (h0 : ∀ c : Comp, c.of it.f3 = 0 ∧ c.of it.f4 = 0) (hn : look l it.f0 = none)
    (hp : it.f1 = ⟨#[]⟩ ∨ ∃ y, look l it.f1 = some y) (hlen : l.length < 120) : RightP (insL l it) := by
  obtain ⟨a, b, e, e', ha, hb⟩ := insL_eq l it
  rw [e']
  subst e
  have hlk := fun n => look_ins a b it n hn
  have hmem : ∀ x, x ∈ a ++ it :: b ↔ x = it ∨ x ∈ a ++ b := fun x => by simp; constructor <;> (intro h; rcases h with h | h | h <;> simp [h])
  have hnew : ∀ m y, look (a ++ b) m = some y → m ≠ it.f0 := fun m y h q => by rw [q, hn] at h; cases h
  have hne : it.f0 ≠ ⟨#[]⟩ := hi.name
  have hpar : ∀ x ∈ a ++ b, x.f1 ≠ it.f0 := fun x hx q => by
    rcases hl.par x hx with h | ⟨y, h⟩
    · exact hne (q.symm.trans h)
    · exact hnew _ _ h q
  have hch : ∀ {n us}, Chain (a ++ b) n us → n ≠ it.f0 → Chain (a ++ it :: b) n us := by
    intro n us h
    induction h with
    | nil h => intro q; exact .nil (by rw [hlk, if_neg q]; exact h)
    | @cons n x us h k ih =>
      intro q
      exact .cons (x := x) (by rw [hlk, if_neg q]; exact h) (ih (hpar x (look_mem h).1))
  have hip : it.f1 ≠ it.f0 := by
    rcases hp with h | ⟨y, h⟩
    · rw [h]; exact fun q => hne q.symm
    · exact hnew _ _ h
  refine ⟨?_, ?_, ?_, ?_, ?_, ?_⟩
  · simp at hlen ⊢; omega
  · intro x hx
    rcases (hmem x).1 hx with rfl | hx
    · exact hi
    · exact hl.ok x hx
  · have hs := hl.sorted
    rw [List.pairwise_append] at hs ⊢
    obtain ⟨h1, h2, h3⟩ := hs
    have hbx : ∀ y ∈ b, lt it.f0 y.f0 = true := by
      intro y hy
      cases b with
      | nil => cases hy
      | cons x t =>
        have hx : lt it.f0 x.f0 = true := lt_total (hb x t rfl) (fun q => look_none.1 hn x (by simp) q)
        rcases List.mem_cons.1 hy with rfl | hy
        · exact hx
        · exact lt_trans hx ((List.pairwise_cons.1 h2).1 y hy)
    refine ⟨h1, List.pairwise_cons.2 ⟨hbx, h2⟩, fun x hx y hy => ?_⟩
    rcases List.mem_cons.1 hy with rfl | hy
    · exact ha x hx
    · exact h3 x hx y hy
  · intro x hx
    rcases (hmem x).1 hx with rfl | hx
    · rcases hp with h | ⟨y, h⟩
      · exact .inl h
      · exact .inr ⟨y, by rw [hlk, if_neg hip]; exact h⟩
    · rcases hl.par x hx with h | ⟨y, h⟩
      · exact .inl h
      · exact .inr ⟨y, by rw [hlk, if_neg (hpar x hx)]; exact h⟩
  · intro c x hx
    rw [csum_ins, (h0 c).2, ite_self, Int.add_zero]
    rcases (hmem x).1 hx with rfl | hx
    · rw [(h0 c).1, (h0 c).2]
      unfold csum
      rw [sumBy_zero (fun y hy => if_neg (hpar y hy))]; rfl
    · exact hl.sum c x hx
  · intro x hx
    rcases (hmem x).1 hx with rfl | hx
    · have := hch (hl.chainAll x.f1) hip
      exact ⟨_, .cons (x := x) (by rw [hlk, if_pos rfl]) this⟩
    · obtain ⟨us, h⟩ := hl.chain x hx
      exact ⟨us, hch h (fun q => look_none.1 hn x hx q)⟩
end Go.Proofs.Ytcgefpklljclgaa.Print

namespace Go.Proofs.Ytcgefpklljclgaa.Print
open Go.RowKit Go.Proofs.YtcgefpklljclgaaW.PrintWords Go.Proofs.YtcgefpklljclgaaW.PrintLast
set_option linter.unusedVariables false
set_option linter.unusedSimpArgs false
theorem ite_iff {α : Type} {p q : Prop} [Decidable p] [Decidable q] (h : p ↔ q) {a b : α} : (if p then a else b) = if q then a else b := by
  by_cases hp : p
  · rw [if_pos hp, if_pos (h.1 hp)]
  · rw [if_neg hp, if_neg (fun k => hp (h.2 k))]
/-! the document's small functions -/
theorem r10_Le_eq (a b d a' b' d' : Int) : r10_Le.f a b d a' b' d' = some (decide (LeP ⟨a, b, d⟩ ⟨a', b', d'⟩)) := by
  unfold r10_Le.f
  by_cases h0 : a ≤ a' <;> by_cases h1 : b ≤ b' <;> simp [h0, h1, leP_iff]
theorem r10_unit_eq (a : Int) : r10_unit.f a = some (decide (0 ≤ a ∧ a ≤ 1099511627776)) := by
  unfold r10_unit.f
  by_cases h0 : 0 ≤ a
  · rw [if_pos (by omega)]; simp [h0]
  · rw [if_neg (by omega)]; simp [h0]
theorem r10_MayVec_eq (a b d : Int) : r10_MayVec.f a b d = some (decide (MayP ⟨a, b, d⟩)) := by
  unfold r10_MayVec.f
  simp only [r10_unit_eq, Option.bind_some]
  by_cases h0 : 0 ≤ a ∧ a ≤ 1099511627776 <;> by_cases h1 : 0 ≤ b ∧ b ≤ 1099511627776 <;> simp [h0, h1, mayP_iff]
theorem r10_MayName_eq (n : ByteArray) : r10_MayName.f n = some (decide (n ≠ ⟨#[]⟩ ∧ n.size ≤ 24)) := by
  unfold r10_MayName.f
  by_cases h : n = ⟨#[]⟩
  · rw [if_pos (nm_empty.2 h)]; simp [h]
  · rw [if_neg (fun q => h (nm_empty.1 q))]; simp [h]; omega
theorem r10_copied_eq (l : List Item) (h : l.length < 1000000) : r10_copied.f l = some l := by
  unfold r10_copied.f
  simp only [Option.bind_some, List.length_nil, List.nil_append]
  rw [if_pos (by omega)]
theorem r10_Find_l0 (l : List Item) (n : ByteArray) (hl : l.length < 1000000) : ∀ (d i : Nat), l.length - i = d → i ≤ l.length →
    Ev (fun k => r10_Find.l0 k l n i) (fidx (fun x : Item => x.f0.toList == n.toList) (l.drop i) i)
  | 0, i, hd, hi => by
    obtain rfl : i = l.length := by omega
    refine Ev.step (f := fun _ => some (-1)) (fun k => ?_) (by rw [List.drop_length]; exact Ev.now _)
    simp only [r10_Find.l0]
    rw [if_neg (by omega)]
  | d + 1, i, hd, hi => by
    have hlt : i < l.length := by omega
    rw [fidx_drop _ zItem l i hlt]
    have hrd : rd_T31 l (i : Int) = l.getD i zItem := by rw [rd_item, Int.toNat_natCast]
    by_cases e : (l.getD i zItem).f0.toList = n.toList
    · rw [if_pos (beq_iff_eq.2 e)]
      refine Ev.step (f := fun _ => some (i : Int)) (fun k => ?_) (Ev.now _)
      simp only [r10_Find.l0]
      rw [if_pos (by omega), if_pos (by omega), hrd, if_pos e]
    · rw [if_neg (fun q => e (beq_iff_eq.1 q))]
      refine Ev.step (f := fun k => r10_Find.l0 k l n ((i + 1 : Nat) : Int)) (fun k => ?_) (r10_Find_l0 l n hl d (i + 1) (by omega) (by omega))
      simp only [r10_Find.l0]
      rw [if_pos (by omega), if_pos (by omega), hrd, if_neg e, w64 (by omega) (by omega)]
      rfl
theorem r10_Find_ev (l : List Item) (n : ByteArray) (hl : l.length < 1000000) : Ev (fun k => r10_Find.f k l n) (fnd l n) := r10_Find_l0 l n hl _ 0 rfl (by omega)
theorem r10_Up_l0 (l : List Item) (hl : l.length < 1000000) : ∀ (m : Nat) (n : ByteArray) (out : List ByteArray), out.length + m = l.length + 1 →
    Ev (fun k => r10_Up.l0 k l out (fnd l n)) (out ++ upGo l m n)
  | 0, n, out, hm => by
    rw [upGo.eq_1, List.append_nil]
    refine Ev.step (f := fun _ => some out) (fun k => ?_) (Ev.now _)
    simp only [r10_Up.l0]
    by_cases h : 0 ≤ fnd l n
    · rw [if_pos h, if_neg (by omega)]
    · rw [if_neg h]
  | m + 1, n, out, hm => by
    cases h : look l n with
    | none =>
      rw [upGo_none h, List.append_nil]
      refine Ev.step (f := fun _ => some out) (fun k => ?_) (Ev.now _)
      simp only [r10_Up.l0]
      rw [fnd_none h, if_neg (by omega)]
    | some x =>
      rw [upGo_some h]
      have h0 := fnd_ge.2 ⟨x, h⟩
      have h1 := fnd_lt l n
      obtain ⟨hx, hn⟩ := look_mem h
      refine Ev.step (f := fun k => (r10_Find.f k l x.f1).bind fun t => r10_Up.l0 k l (out ++ [n]) t) (fun k => ?_) (Ev.bind (r10_Find_ev l x.f1 hl) ?_)
      · simp only [r10_Up.l0]
        rw [if_pos h0, if_pos (by omega), if_pos h0, if_pos h1, if_pos (by omega), fnd_rd h, hn]
      · have := r10_Up_l0 l hl m x.f1 (out ++ [n]) (by simp; omega)
        simpa using this
theorem r10_Up_ev (l : List Item) (n : ByteArray) (hl : l.length < 1000000) : Ev (fun k => r10_Up.f k l n) (up l n) :=
  Ev.bind (r10_Find_ev l n hl) (by have := r10_Up_l0 l hl (l.length + 1) n [] (by simp); rw [List.nil_append] at this; exact this)
/-! a store at a name's place -/
theorem set_at {l : List Item} (hn : (l.map (·.f0)).Nodup) {n : ByteArray} {x : Item} (h : look l n = some x) (y : Item) :
    l.set (fnd l n).toNat y = l.map (fun z => if z.f0 = n then y else z) := by
  obtain ⟨j, h1, h2, h3, h4, h5⟩ := fnd_some h
  rw [h2, Int.toNat_natCast]
  have hx : l[j] = x := by rw [← h3]; simp [h1]
  apply List.ext_getElem (by simp)
  intro m hm hm'
  simp only [List.length_set] at hm
  rw [List.getElem_set, List.getElem_map]
  by_cases e : j = m
  · subst e
    rw [if_pos rfl, if_pos (by rw [hx]; exact h4)]
  · rw [if_neg e, if_neg]
    intro q
    have h6 : (l.map (·.f0))[j]'(by simpa using h1) = (l.map (·.f0))[m]'(by simpa using hm) := by simp [hx, h4, q]
    exact e ((List.getElem_inj hn).1 h6)
theorem fnd_map {f : Item → Item} (hf : ∀ x, (f x).f0 = x.f0) (l : List Item) (n : ByteArray) : fnd (l.map f) n = fnd l n := by
  have : ∀ (l : List Item) (i : Int), fidx (fun x : Item => x.f0.toList == n.toList) (l.map f) i = fidx (fun x : Item => x.f0.toList == n.toList) l i := by
    intro l
    induction l with
    | nil => intro i; rfl
    | cons x l ih => intro i; simp only [List.map_cons, fidx, hf, ih]
  exact this l 0
/-! letting in, as the document says -/
def admS (us : List ByteArray) (v : Vec) (x : Item) : Item := ⟨x.f0, x.f1, x.f2, x.f3, if x.f0 ∈ us then vadd x.f4 v else x.f4, x.f5⟩
def admR (l : List Item) (n : ByteArray) (v : Vec) : List Item × Int :=
  if ¬ MayP v then ([], 1) else if (look l n).isNone = true then ([], 2) else if ∀ x ∈ l, x.f0 ∈ up l n → LeP (vadd x.f4 v) x.f2 then (admL l n v, 0) else ([], 12)
theorem vadd_wrap {a b : Vec} (ha : MayP a) (hb : MayP b) : (wrap64 (a.f0 + b.f0), wrap64 (a.f1 + b.f1), wrap64 (a.f2 + b.f2)) = ((vadd a b).f0, (vadd a b).f1, (vadd a b).f2) := by
  have a0 := ha .cpu; have a1 := ha .mem; have a2 := ha .pods
  have b0 := hb .cpu; have b1 := hb .mem; have b2 := hb .pods
  simp only [Comp.of] at a0 a1 a2 b0 b1 b2
  rw [w64 (by omega) (by omega), w64 (by omega) (by omega), w64 (by omega) (by omega)]
  rfl
theorem r10_Add_eq {a b : Vec} (ha : MayP a) (hb : MayP b) : r10_Add.f a.f0 a.f1 a.f2 b.f0 b.f1 b.f2 = some ((vadd a b).f0, (vadd a b).f1, (vadd a b).f2) := by
  unfold r10_Add.f; rw [vadd_wrap ha hb]
theorem look_admS (us : List ByteArray) (v : Vec) (l : List Item) (n : ByteArray) : look (l.map (admS us v)) n = (look l n).map (admS us v) := look_map (f := admS us v) (fun _ => rfl) l n
theorem drop_cons {us : List ByteArray} {i : Nat} (h : i < us.length) : us.drop i = rdOf ByteArray.empty us i :: us.drop (i + 1) := by
  rw [List.drop_eq_getElem_cons h]; simp [rdOf, h]
theorem take_snoc_ {us : List ByteArray} {i : Nat} (h : i < us.length) : us.take (i + 1) = us.take i ++ [rdOf ByteArray.empty us i] := by
  rw [List.take_succ_eq_append_getElem h]; simp [rdOf, h]
theorem fnd_admS (us : List ByteArray) (v : Vec) (l : List Item) (n : ByteArray) : fnd (l.map (admS us v)) n = fnd l n := fnd_map (f := admS us v) (fun _ => rfl) l n
theorem nodup_admS {us : List ByteArray} {v : Vec} {l : List Item} (h : (l.map (·.f0)).Nodup) : ((l.map (admS us v)).map (·.f0)).Nodup := by
  rw [List.map_map]; exact h
theorem r10_Admit_l0 {l : List Item} (hl : RightP l) (n : ByteArray) {v : Vec} (hv : MayP v) (hin : ∃ x, look l n = some x) : ∀ (d i : Nat), (up l n).length - i = d → i ≤ (up l n).length →
    Ev (fun k => r10_Admit.l0 k n (up l n) (l.map (admS ((up l n).take i) v)) i v.f0 v.f1 v.f2) (if ∀ x ∈ l, x.f0 ∈ (up l n).drop i → LeP (vadd x.f4 v) x.f2 then (admL l n v, 0) else ([], 12))
  | 0, i, hd, hi => by
    obtain rfl : i = (up l n).length := by omega
    rw [List.drop_length, List.take_length, if_pos (by simp)]
    obtain ⟨x, hx⟩ := hin
    obtain ⟨hm, hxn⟩ := look_mem hx
    have hlk : look (l.map (admS (up l n) v)) n = some (admS (up l n) v x) := by rw [look_admS, hx]; rfl
    have h0 : 0 ≤ fnd l n := fnd_ge.2 ⟨x, hx⟩
    have h1 : fnd l n < l.length := fnd_lt l n
    obtain ⟨K, hK⟩ := r10_Find_ev (l.map (admS (up l n) v)) n (by rw [List.length_map]; have := hl.len; omega)
    dsimp only at hK
    refine ⟨K + 1, fun k hk => ?_⟩
    obtain ⟨k, rfl⟩ : ∃ m, k = m + 1 := ⟨k - 1, by omega⟩
    have hrd := fnd_rd hlk
    rw [fnd_admS] at hrd
    simp only [r10_Admit.l0]
    rw [if_neg (by omega), hK k (by omega), fnd_admS]
    simp only [Option.bind_some]
    rw [if_pos h0, if_pos (by rw [List.length_map]; omega), hrd, r10_Add_eq (a := (admS (up l n) v x).f3) (hl.ok x hm).own hv]
    simp only [Option.bind_some]
    have hset := set_at (nodup_admS (us := up l n) (v := v) hl.nodup) hlk
    rw [fnd_admS] at hset
    rw [hset, List.map_map]
    congr 2
    unfold admL
    refine List.map_congr_left fun z hz => ?_
    simp only [Function.comp, admF]
    by_cases e : z.f0 = n
    · obtain rfl : z = x := hl.eq_of hz hm (e.trans hxn.symm)
      rw [if_pos (by exact e), if_pos e]
      rfl
    · rw [if_neg (by exact e), if_neg e]
      rfl
  | d + 1, i, hd, hi => by
    have hlt : i < (up l n).length := by omega
    have hc := hl.chainAll n
    have hnd := hc.nodup
    rw [drop_cons hlt]
    have hu : rdOf ByteArray.empty (up l n) i ∈ up l n := by simp [rdOf, hlt]
    obtain ⟨x, hx⟩ := hc.mem_look hu
    obtain ⟨hm, hxn⟩ := look_mem hx
    have hnot : x.f0 ∉ (up l n).take i := by
      rw [hxn]
      rw [← List.take_append_drop i (up l n), drop_cons hlt, List.nodup_append] at hnd
      exact fun q => hnd.2.2 _ q _ (by simp) rfl
    generalize hU : rdOf ByteArray.empty (up l n) i = u at *
    have hlk : look (l.map (admS ((up l n).take i) v)) u = some (admS ((up l n).take i) v x) := by rw [look_admS, hx]; rfl
    have hsame : admS ((up l n).take i) v x = x := by unfold admS; rw [if_neg hnot]
    rw [hsame] at hlk
    have h0 : 0 ≤ fnd l u := fnd_ge.2 ⟨x, hx⟩
    have h1 : fnd l u < l.length := fnd_lt l u
    have hrd := fnd_rd hlk
    have hset := set_at (nodup_admS (us := (up l n).take i) (v := v) hl.nodup) hlk
    rw [fnd_admS] at hrd
    rw [fnd_admS] at hset
    obtain ⟨K, hK⟩ := r10_Find_ev (l.map (admS ((up l n).take i) v)) u (by rw [List.length_map]; have := hl.len; omega)
    obtain ⟨K', hK'⟩ := r10_Admit_l0 hl n hv hin d (i + 1) (by omega) (by omega)
    dsimp only at hK hK'
    refine ⟨K + K' + 1, fun k hk => ?_⟩
    obtain ⟨k, rfl⟩ : ∃ m, k = m + 1 := ⟨k - 1, by omega⟩
    have hup : (up l n).length ≤ l.length := hc.len
    have hlen := hl.len
    simp only [r10_Admit.l0]
    rw [if_pos (by omega), if_pos (by omega), hU, hK k (by omega), fnd_admS]
    simp only [Option.bind_some]
    rw [if_pos h0, if_pos (by rw [List.length_map]; omega), hrd, r10_Add_eq (a := x.f4) (hl.ok x hm).sub hv]
    simp only [Option.bind_some]
    rw [hset, List.map_map]
    have hnew : (l.map ((fun z : Item => if z.f0 = u then (⟨x.f0, x.f1, ⟨x.f2.f0, x.f2.f1, x.f2.f2⟩, ⟨x.f3.f0, x.f3.f1, x.f3.f2⟩, ⟨(vadd x.f4 v).f0, (vadd x.f4 v).f1, (vadd x.f4 v).f2⟩, x.f5⟩ : Item) else z) ∘ admS ((up l n).take i) v)) = l.map (admS ((up l n).take (i + 1)) v) := by
      refine List.map_congr_left fun z hz => ?_
      simp only [Function.comp]
      rw [take_snoc_ hlt, hU]
      by_cases e : z.f0 = u
      · obtain rfl : z = x := hl.eq_of hz hm (e.trans hxn.symm)
        rw [if_pos (by exact e)]
        unfold admS
        rw [if_pos (by simp [e])]
      · rw [if_neg (by exact e)]
        unfold admS
        simp [e]
    rw [hnew]
    have hlk2 : look (l.map (admS ((up l n).take (i + 1)) v)) u = some (admS ((up l n).take (i + 1)) v x) := by rw [look_admS, hx]; rfl
    have hrd2 := fnd_rd hlk2
    rw [fnd_admS] at hrd2
    have hx2 : admS ((up l n).take (i + 1)) v x = ⟨x.f0, x.f1, x.f2, x.f3, vadd x.f4 v, x.f5⟩ := by unfold admS; rw [if_pos (by rw [take_snoc_ hlt, hU, hxn]; simp)]
    rw [hrd2, hx2, r10_Le_eq]
    simp only [Option.bind_some]
    by_cases hfit : LeP (vadd x.f4 v) x.f2
    · rw [if_pos (by exact decide_eq_true hfit), w64 (by omega) (by omega)]
      have h2 := hK' k (by omega)
      rw [show ((i : Int) + 1) = ((i + 1 : Nat) : Int) from by omega, h2]
      congr 1
      refine ite_iff ⟨fun q z hz hzm => ?_, fun q z hz hzm => q z hz (by simp [hzm])⟩
      rcases List.mem_cons.1 hzm with e | hzm
      · obtain rfl : z = x := hl.eq_of hz hm (e.trans hxn.symm)
        exact hfit
      · exact q z hz hzm
    · rw [if_neg (by simpa using hfit), if_neg (fun q => hfit (q x hm (by rw [hxn]; simp)))]
      rfl
theorem r10_Admit_ev {l : List Item} (hl : RightP l) (n : ByteArray) (v : Vec) : Ev (fun k => r10_Admit.f k l n v.f0 v.f1 v.f2) (admR l n v) := by
  have hlen := hl.len
  refine Ev.bind (r10_Up_ev l n (by omega)) ?_
  have hmv : r10_MayVec.f v.f0 v.f1 v.f2 = some (decide (MayP v)) := r10_MayVec_eq _ _ _
  unfold admR
  by_cases hv : MayP v
  · rw [if_neg (by simpa using hv)]
    cases hx : look l n with
    | none =>
      rw [if_pos (show (none : Option Item).isNone = true from rfl)]
      refine Ev.congr (fun k => ?_) (Ev.now _)
      rw [hmv]
      simp only [Option.bind_some]
      rw [if_pos (by exact decide_eq_true hv), show up l n = [] from upGo_none hx _]
      rfl
    | some x =>
      rw [if_neg (by simp)]
      have h := r10_Admit_l0 hl n hv ⟨x, hx⟩ _ 0 rfl (by omega)
      rw [List.take_zero, List.drop_zero, show l.map (admS [] v) = l from by rw [show admS [] v = id from by funext z; simp [admS]]; simp] at h
      refine Ev.congr (fun k => ?_) h
      rw [hmv]
      simp only [Option.bind_some]
      have : (up l n).length ≠ 0 := by have := up_self hx; intro q; rw [List.length_eq_zero_iff.1 q] at this; cases this
      rw [if_pos (by exact decide_eq_true hv), if_neg (by omega), r10_copied_eq l (by omega)]
      rfl
  · rw [if_pos hv]
    refine Ev.congr (fun k => ?_) (Ev.now _)
    rw [hmv]
    simp only [Option.bind_some]
    rw [if_neg (by simpa using hv)]
    rfl
/-! a new node, as the document says -/
def zVec : Vec := ⟨0, 0, 0⟩
def newItem (n p : ByteArray) (v : Vec) : Item := ⟨n, p, v, zVec, zVec, 1⟩
def creR (l : List Item) (n p : ByteArray) (v : Vec) : List Item × Int :=
  if ¬ ((n ≠ ⟨#[]⟩ ∧ n.size ≤ 24) ∧ MayP v) then ([], 1) else if (look l n).isSome = true then ([], 3) else if p ≠ ⟨#[]⟩ ∧ (look l p).isNone = true then ([], 2) else if 120 ≤ l.length then ([], 4) else (insL l (newItem n p v), 0)
theorem insL_cons (x : Item) (l : List Item) (it : Item) : insL (x :: l) it = if lt x.f0 it.f0 = true then x :: insL l it else it :: x :: l := by
  unfold insL
  rw [List.takeWhile_cons, List.dropWhile_cons]
  cases lt x.f0 it.f0 <;> simp
theorem r10_Create_l0 (n p : ByteArray) (v : Vec) (b : List Item) : ∀ (a l : List Item), l = a ++ b → l.length < 1000000 → Ev (fun k => r10_Create.l0 k l n p a.length v.f0 v.f1 v.f2) (a ++ insL b (newItem n p v), 0) := by
  induction b with
  | nil =>
    rintro a l rfl hl
    simp only [List.append_nil] at hl ⊢
    refine Ev.step (f := fun _ => some (a ++ [newItem n p v], 0)) (fun k => ?_) (Ev.now _)
    simp only [r10_Create.l0]
    rw [if_neg (by omega), if_pos (by omega), if_pos (by omega), Int.toNat_natCast, List.take_length, r10_copied_eq a (by omega)]
    simp only [Option.bind_some, List.drop_length, List.length_append, List.length_cons, List.length_nil]
    rw [if_pos (by omega), if_pos (by omega), List.append_nil]
    rfl
  | cons x b ih =>
    rintro a l rfl hl
    have hlen : (a ++ x :: b).length = a.length + b.length + 1 := by simp; omega
    have hrd : rd_T31 (a ++ x :: b) (a.length : Int) = x := by rw [rd_item, Int.toNat_natCast]; simp
    rw [insL_cons]
    by_cases e : lt x.f0 n = true
    · rw [if_pos (by exact e)]
      have h := ih (a ++ [x]) (a ++ x :: b) (by simp) hl
      refine Ev.step (f := fun k => r10_Create.l0 k (a ++ x :: b) n p (a ++ [x]).length v.f0 v.f1 v.f2) (fun k => ?_) (by simpa using h)
      simp only [r10_Create.l0]
      rw [if_pos (by omega), if_pos (by omega), hrd, if_pos (by exact e), w64 (by omega) (by omega)]
      simp
    · rw [if_neg (by exact e)]
      refine Ev.step (f := fun _ => some (a ++ newItem n p v :: x :: b, 0)) (fun k => ?_) (Ev.now _)
      simp only [r10_Create.l0]
      rw [if_pos (by omega), if_pos (by omega), hrd, if_neg (by exact e), if_pos (by omega), Int.toNat_natCast, List.take_left, r10_copied_eq a (by omega)]
      simp only [Option.bind_some, List.drop_left, List.length_append, List.length_cons, List.length_nil]
      rw [if_pos (by omega), if_pos (by omega)]
      simp
      rfl
theorem r10_Create_ev {l : List Item} (hl : l.length < 1000000) (n p : ByteArray) (v : Vec) : Ev (fun k => r10_Create.f k l n p v.f0 v.f1 v.f2) (creR l n p v) := by
  have hmv : r10_MayVec.f v.f0 v.f1 v.f2 = some (decide (MayP v)) := r10_MayVec_eq _ _ _
  have hno : ∀ e : Int, ((r10_no.f e).bind fun bt => some (bt.1, bt.2)) = some (([] : List Item), e) := fun _ => rfl
  have hj1 : ∀ b, Ev (fun k => r10_Create.j1 k l n p b v.f0 v.f1 v.f2) (if b = true then ([], 2) else if 120 ≤ l.length then ([], 4) else (insL l (newItem n p v), 0)) := by
    intro b
    cases b with
    | true =>
      refine Ev.step (f := fun _ => some ([], 2)) (fun k => ?_) (Ev.now _)
      simp only [r10_Create.j1, if_true]
      exact hno 2
    | false =>
      simp only [Bool.false_eq_true, if_false]
      by_cases h : 120 ≤ l.length
      · rw [if_pos h]
        refine Ev.step (f := fun _ => some ([], 4)) (fun k => ?_) (Ev.now _)
        simp only [r10_Create.j1, Bool.false_eq_true, if_false]
        rw [if_pos (by omega)]; exact hno 4
      · rw [if_neg h]
        refine Ev.step (f := fun k => r10_Create.l0 k l n p 0 v.f0 v.f1 v.f2) (fun k => ?_) (by have := r10_Create_l0 n p v l [] l rfl hl; simpa using this)
        simp only [r10_Create.j1, Bool.false_eq_true, if_false]
        rw [if_neg (by omega)]
  have hj0 : ∀ b, Ev (fun k => r10_Create.j0 k l n p b v.f0 v.f1 v.f2) (if b = true then ([], 1) else if (look l n).isSome = true then ([], 3) else if p ≠ ⟨#[]⟩ ∧ (look l p).isNone = true then ([], 2) else if 120 ≤ l.length then ([], 4) else (insL l (newItem n p v), 0)) := by
    intro b
    cases b with
    | true =>
      refine Ev.step (f := fun _ => some ([], 1)) (fun k => ?_) (Ev.now _)
      simp only [r10_Create.j0, if_true]
      exact hno 1
    | false =>
      simp only [Bool.false_eq_true, if_false]
      refine Ev.step (f := fun k => (r10_Find.f k l n).bind fun t => if t ≥ 0 then some ([], 3) else if p.toList = ([] : List UInt8) then r10_Create.j1 k l n p false v.f0 v.f1 v.f2 else (r10_Find.f k l p).bind fun t => r10_Create.j1 k l n p (decide (t < 0)) v.f0 v.f1 v.f2) (fun k => ?_) (Ev.bind (r10_Find_ev l n hl) ?_)
      · simp only [r10_Create.j0, Bool.false_eq_true, if_false]; rfl
      · cases hn : look l n with
        | some x =>
          refine Ev.congr (fun k => ?_) (Ev.now _)
          rw [if_pos (fnd_ge.2 ⟨x, hn⟩)]; rfl
        | none =>
          simp only [Option.isSome_none, Bool.false_eq_true, if_false]
          by_cases hp : p = ⟨#[]⟩
          · have h := hj1 false
            simp only [Bool.false_eq_true, if_false] at h
            rw [if_neg (fun q => q.1 hp)]
            refine Ev.congr (fun k => ?_) h
            rw [fnd_none hn, if_neg (by omega), if_pos (nm_empty.2 hp)]
          · have h := hj1 (decide (fnd l p < 0))
            refine Ev.congr (g := fun k => _) (f := fun k => (r10_Find.f k l p).bind fun t => r10_Create.j1 k l n p (decide (t < 0)) v.f0 v.f1 v.f2) (fun k => ?_) (Ev.bind (r10_Find_ev l p hl) ?_)
            · rw [fnd_none hn, if_neg (by omega), if_neg (fun q => hp (nm_empty.1 q))]
            · have e : (p ≠ ⟨#[]⟩ ∧ (look l p).isNone = true) ↔ (decide (fnd l p < 0) = true) := by
                rw [decide_eq_true_iff, fnd_neg]; simp [hp]
              rw [ite_iff e]; exact h
  unfold creR
  by_cases hn : n ≠ ⟨#[]⟩ ∧ n.size ≤ 24
  · have h := hj0 (!decide (MayP v))
    rw [ite_iff (q := (!decide (MayP v)) = true) (by simp [hn])]
    refine Ev.congr (fun k => ?_) h
    unfold r10_Create.f
    rw [r10_MayName_eq, hmv]
    simp only [Option.bind_some]
    rw [if_pos (by exact decide_eq_true hn)]
  · have h := hj0 true
    rw [if_pos (fun q => hn q.1)]
    rw [if_pos rfl] at h
    refine Ev.congr (fun k => ?_) h
    unfold r10_Create.f
    rw [r10_MayName_eq]
    simp only [Option.bind_some]
    rw [if_neg (by simpa using hn)]
theorem creR_right {l : List Item} (hl : RightP l) {n p : ByteArray} {v : Vec} (h : (creR l n p v).2 = 0) :
    (creR l n p v).1 = insL l (newItem n p v) ∧ RightP (insL l (newItem n p v)) ∧ look l n = none ∧ l.length < 120 ∧ n ≠ ⟨#[]⟩ ∧ n.size ≤ 24 ∧ MayP v ∧ (p = ⟨#[]⟩ ∨ ∃ y, look l p = some y) := by
  unfold creR at h ⊢
  split at h
  · simp at h
  rename_i h1
  split at h
  · simp at h
  rename_i h2
  split at h
  · simp at h
  rename_i h3
  split at h
  · simp at h
  rename_i h4
  rw [if_neg h1, if_neg h2, if_neg h3, if_neg h4]
  obtain ⟨⟨h5, h6⟩, h7⟩ := Classical.not_not.1 h1
  have hn : look l n = none := by cases q : look l n with
    | none => rfl
    | some x => rw [q] at h2; simp at h2
  have hp : p = ⟨#[]⟩ ∨ ∃ y, look l p = some y := by
    by_cases e : p = ⟨#[]⟩
    · exact .inl e
    · right
      cases q : look l p with
      | none => rw [q] at h3; exact absurd ⟨e, rfl⟩ h3
      | some y => exact ⟨y, rfl⟩
  have hz : ∀ c : Comp, c.of zVec = 0 := fun c => by cases c <;> rfl
  refine ⟨rfl, ins_right hl ⟨h5, h6, h7, fun c => ?_, fun c => ?_, fun c => ?_, ?_⟩ (fun c => ⟨hz c, hz c⟩) hn hp (by omega), hn, by omega, h5, h6, h7, hp⟩
  · show 0 ≤ c.of zVec ∧ c.of zVec ≤ _; rw [hz]; omega
  · show 0 ≤ c.of zVec ∧ c.of zVec ≤ _; rw [hz]; omega
  · show c.of zVec ≤ c.of v; rw [hz]; exact (h7 c).1
  · show (1 : Int) ≤ 1 ∧ (1 : Int) ≤ _; omega
theorem mem_insL {l : List Item} {it x : Item} : x ∈ insL l it ↔ x = it ∨ x ∈ l := by
  obtain ⟨a, b, e, e', _, _⟩ := insL_eq l it
  rw [e', e]; simp; constructor <;> (intro h; rcases h with h | h | h <;> simp [h])
theorem len_insL (l : List Item) (it : Item) : (insL l it).length = l.length + 1 := by
  obtain ⟨a, b, e, e', _, _⟩ := insL_eq l it
  rw [e', e]; simp; omega
theorem admR_right {l : List Item} (hl : RightP l) {n : ByteArray} {v : Vec} (h : (admR l n v).2 = 0) : (admR l n v).1 = admL l n v ∧ RightP (admL l n v) ∧ MayP v ∧ (∃ x, look l n = some x) ∧ ∀ x ∈ l, x.f0 ∈ up l n → LeP (vadd x.f4 v) x.f2 := by
  unfold admR at h ⊢
  split at h
  · simp at h
  rename_i h1
  split at h
  · simp at h
  rename_i h2
  split at h
  · rename_i h3
    rw [if_neg h1, if_neg h2, if_pos h3]
    have hv : MayP v := Classical.not_not.1 h1
    have hin : ∃ x, look l n = some x := by
      cases q : look l n with
      | none => rw [q] at h2; simp at h2
      | some x => exact ⟨x, rfl⟩
    have hsub : ∀ x ∈ l, x.f0 ∈ up l n → MayP (vadd x.f4 v) := fun x hx hm c => by
      have a := (hl.ok x hx).sub c; have b := hv c; have d := h3 x hx hm c; have e := (hl.ok x hx).lim c
      rw [of_vadd] at d ⊢; omega
    refine ⟨rfl, adm_right hl v hin (fun x hx e c => ?_) hsub h3, hv, hin, h3⟩
    have hm : x.f0 ∈ up l n := by obtain ⟨y, hy⟩ := hin; rw [e]; exact up_self hy
    have a := (hl.ok x hx).own c; have b := hv c; have d := hsub x hx hm c; have f := hl.sum c x hx
    have g : 0 ≤ csum c l x.f0 := sumBy_nonneg fun y hy => by
      split
      · exact ((hl.ok y hy).sub c).1
      · omega
    rw [of_vadd] at d ⊢; omega
  · simp at h
end Go.Proofs.Ytcgefpklljclgaa.Print

namespace Go.Proofs.Ytcgefpklljclgaa.Print
open Go.RowKit Go.Proofs.YtcgefpklljclgaaW.PrintWords Go.Proofs.YtcgefpklljclgaaW.PrintLast
set_option linter.unusedVariables false
set_option linter.unusedSimpArgs false
/-! trees made by numbers -/
theorem u8_bd {x : Int} (h : (Lit.int .u8 x).wf = true) : 0 ≤ x ∧ x ≤ 255 := by
  simp only [Lit.wf, Bool.and_eq_true, decide_eq_true_eq] at h
  exact h
def Bytes (ns : List Int) : Prop := ∀ x ∈ ns, 0 ≤ x ∧ x ≤ 255
theorem Bytes.rd {ns : List Int} (h : Bytes ns) (i : Int) : 0 ≤ rd ns i ∧ rd ns i ≤ 255 := by
  unfold Go.Proofs.YtcgefpklljclgaaW.PrintWords.rd
  rw [List.getD_eq_getElem?_getD]
  cases e : ns[i.toNat]? with
  | none => simp
  | some x => exact h x (List.mem_of_getElem? e)
/-- a name of one byte -/
def one (c : Int) : ByteArray := strOfNums [c]
structure MadeP (l : List Item) : Prop where
  right : RightP l
  len : l.length ≤ 24
  name : ∀ x ∈ l, ∃ c : Int, 97 ≤ c ∧ c ≤ 120 ∧ x.f0 = one c
  ver : ∀ x ∈ l, x.f5 = 1
  lim : ∀ x ∈ l, ∀ c : Comp, 20 ≤ c.of x.f2 ∧ c.of x.f2 ≤ 275
theorem made_nil : MadeP [] := ⟨right_nil, by simp, by simp, by simp, by simp⟩
theorem made_ins {l : List Item} (h : MadeP l) {n p : ByteArray} {v : Vec} {c : Int} (hc : 97 ≤ c ∧ c ≤ 120) (hn : n = one c) (hv : ∀ c : Comp, 20 ≤ c.of v ∧ c.of v ≤ 275) (hl : l.length < 24) (hr : RightP (insL l (newItem n p v))) : MadeP (insL l (newItem n p v)) where
  right := hr
  len := by rw [len_insL]; omega
  name := fun x hx => by
    rcases mem_insL.1 hx with rfl | hx
    · exact ⟨c, hc.1, hc.2, hn⟩
    · exact h.name x hx
  ver := fun x hx => by
    rcases mem_insL.1 hx with rfl | hx
    · rfl
    · exact h.ver x hx
  lim := fun x hx => by
    rcases mem_insL.1 hx with rfl | hx
    · exact hv
    · exact h.lim x hx
theorem made_adm {l : List Item} (h : MadeP l) {n : ByteArray} {v : Vec} (hr : RightP (admL l n v)) : MadeP (admL l n v) where
  right := hr
  len := by unfold admL; rw [List.length_map]; exact h.len
  name := fun x hx => by
    obtain ⟨y, hy, rfl⟩ := List.mem_map.1 hx
    exact h.name y hy
  ver := fun x hx => by
    obtain ⟨y, hy, rfl⟩ := List.mem_map.1 hx
    exact h.ver y hy
  lim := fun x hx => by
    obtain ⟨y, hy, rfl⟩ := List.mem_map.1 hx
    exact h.lim y hy
def MakesFrom (ns : List Int) (i : Int) : Prop := ∀ l, MadeP l → ∃ r, Ev (fun k => law12_Make.l0 k ns l i) r ∧ MadeP r
theorem tmod_in {a b : Int} (ha : 0 ≤ a) (hb : 0 < b) : 0 ≤ a.tmod b ∧ a.tmod b < b := by
  rw [Int.tmod_eq_emod_of_nonneg ha]; exact ⟨Int.emod_nonneg _ (by omega), Int.emod_lt_of_pos _ hb⟩
theorem tdiv_in {a b : Int} (ha : 0 ≤ a) (hb : 0 < b) : 0 ≤ a.tdiv b ∧ a.tdiv b ≤ a := by
  rw [Int.tdiv_eq_ediv_of_nonneg ha]; exact ⟨Int.ediv_nonneg ha (by omega), Int.ediv_le_self _ ha⟩
theorem made_j3 {ns : List Int} (hb : Bytes ns) (hs : ns.length ≤ 1000) {i : Int} (h0 : 0 ≤ i) (h2 : i + 2 < ns.length) (ih : MakesFrom ns (i + 3)) {l : List Item} (h : MadeP l) (hl : l.length < 24) (p : ByteArray) :
    ∃ r, Ev (fun k => law12_Make.j3 k ns l i p) r ∧ MadeP r := by
  have b1 := hb.rd (i + 1)
  have b2 := hb.rd (i + 2)
  have hlen := h.right.len
  have hnm : (wrap64 (97 + (Int.tmod (wrap64 ((l.length : Int) * 5)) 24))) % 256 = 97 + ((l.length : Int) * 5) % 24 := by
    rw [w64 (n := (l.length : Int) * 5) (by omega) (by omega), Int.tmod_eq_emod_of_nonneg (by omega), w64 (by omega) (by omega)]; omega
  generalize hc : 97 + ((l.length : Int) * 5) % 24 = c at hnm
  have hcb : 97 ≤ c ∧ c ≤ 120 := by omega
  have hlim : wrap64 (20 + wrap64 (rd ns (i + 1))) = 20 + rd ns (i + 1) := by rw [w64 (n := rd ns (i + 1)) (by omega) (by omega), w64 (by omega) (by omega)]
  obtain ⟨K, hK⟩ := r10_Create_ev (l := l) (by omega) (one c) p ⟨20 + rd ns (i + 1), 20 + rd ns (i + 1), 20 + rd ns (i + 1)⟩
  dsimp only at hK
  have hw1 : wrap64 (i + 1) = i + 1 := w64 (by omega) (by omega)
  have hw2 : wrap64 (i + 2) = i + 2 := w64 (by omega) (by omega)
  have hw3 : wrap64 (i + 3) = i + 3 := w64 (by omega) (by omega)
  have hr2 : wrap64 (rd ns (i + 2)) = rd ns (i + 2) := w64 (by omega) (by omega)
  by_cases hE : (creR l (one c) p ⟨20 + rd ns (i + 1), 20 + rd ns (i + 1), 20 + rd ns (i + 1)⟩).2 = 0
  · obtain ⟨e1, hR, hno, -, -, -, hv, -⟩ := creR_right h.right hE
    have hm := made_ins h (p := p) hcb rfl (v := ⟨20 + rd ns (i + 1), 20 + rd ns (i + 1), 20 + rd ns (i + 1)⟩) (fun c => by cases c <;> (simp only [Comp.of]; omega)) hl hR
    generalize hL : insL l (newItem (one c) p ⟨20 + rd ns (i + 1), 20 + rd ns (i + 1), 20 + rd ns (i + 1)⟩) = l1 at *
    have hl1 : 0 < l1.length := by rw [← hL, len_insL]; omega
    have hd := tdiv_in (a := rd ns (i + 2)) (b := 16) (by omega) (by omega)
    have hw4 : wrap64 (Int.tdiv (rd ns (i + 2)) 16) = Int.tdiv (rd ns (i + 2)) 16 := w64 (by omega) (by omega)
    have hq := tmod_in (a := Int.tdiv (rd ns (i + 2)) 16) (b := (l1.length : Int)) hd.1 (by omega)
    generalize hJ : Int.tmod (Int.tdiv (rd ns (i + 2)) 16) (l1.length : Int) = j at *
    obtain ⟨v, hv'⟩ : ∃ v : Vec, v = ⟨Int.tmod (rd ns (i + 2)) 16, wrap64 (Int.tdiv (Int.tmod (rd ns (i + 2)) 16) 2), Int.tmod (Int.tmod (rd ns (i + 2)) 16) 3⟩ := ⟨_, rfl⟩
    obtain ⟨K2, hK2⟩ := r10_Admit_ev hm.right (rd_T31 l1 j).f0 v
    dsimp only at hK2
    have main : ∀ r, Ev (fun k => law12_Make.l0 k ns (if (admR l1 (rd_T31 l1 j).f0 v).2 = 0 then (admR l1 (rd_T31 l1 j).f0 v).1 else l1) (i + 3)) r → Ev (fun k => law12_Make.j3 k ns l i p) r := by
      rintro r ⟨K3, hK3⟩
      refine ⟨K + K2 + K3 + 1, fun k hk => ?_⟩
      dsimp only at hK3
      obtain ⟨k, rfl⟩ : ∃ m, k = m + 1 := ⟨k - 1, by omega⟩
      simp only [law12_Make.j3]
      rw [hw1, hw2, hw3, hnm, hlim, hr2, if_pos (by omega), if_pos (by omega)]
      rw [show strOfNums [c] = one c from rfl, hK k (by omega)]
      simp only [Option.bind_some]
      rw [if_pos hE, if_pos (by omega), if_pos (by omega), e1, if_neg (by omega), hw4, hJ, if_pos hq.1, if_pos hq.2]
      have := hK2 k (by omega)
      rw [hv'] at this
      rw [this]
      simp only [Option.bind_some]
      rw [← hv']
      have := hK3 k (by omega)
      by_cases q : (admR l1 (rd_T31 l1 j).f0 v).2 = 0
      · rw [if_pos q] at this ⊢; exact this
      · rw [if_neg q] at this ⊢; exact this
    by_cases q : (admR l1 (rd_T31 l1 j).f0 v).2 = 0
    · rw [if_pos q] at main
      obtain ⟨e2, hR2, -⟩ := admR_right hm.right q
      rw [e2] at main
      obtain ⟨r, hr, hM⟩ := ih _ (made_adm hm hR2)
      exact ⟨r, main r hr, hM⟩
    · rw [if_neg q] at main
      obtain ⟨r, hr, hM⟩ := ih _ hm
      exact ⟨r, main r hr, hM⟩
  · obtain ⟨r, ⟨K3, hK3⟩, hM⟩ := ih l h
    dsimp only at hK3
    refine ⟨r, ⟨K + K3 + 1, fun k hk => ?_⟩, hM⟩
    obtain ⟨k, rfl⟩ : ∃ m, k = m + 1 := ⟨k - 1, by omega⟩
    simp only [law12_Make.j3]
    rw [hw1, hw2, hw3, hnm, hlim, if_pos (by omega), if_pos (by omega)]
    rw [show strOfNums [c] = one c from rfl, hK k (by omega)]
    simp only [Option.bind_some]
    rw [if_neg hE]
    exact hK3 k (by omega)
theorem made_step {ns : List Int} (hb : Bytes ns) (hs : ns.length ≤ 1000) {i : Int} (h0 : 0 ≤ i) (h2 : i + 2 < ns.length) (ih : MakesFrom ns (i + 3)) : MakesFrom ns i := by
  intro l h
  have hw2 : wrap64 (i + 2) = i + 2 := w64 (by omega) (by omega)
  have b0 := hb.rd i
  have hr0 : wrap64 (rd ns i) = rd ns i := w64 (by omega) (by omega)
  by_cases hl : l.length < 24
  · have h3 := made_j3 hb hs h0 h2 ih h hl
    have hj2 : ∀ b, (b = true → 0 < l.length) → ∃ r, Ev (fun k => law12_Make.j2 k ns l i (rd ns i) ⟨#[]⟩ b) r ∧ MadeP r := by
      intro b hbl
      cases b with
      | false =>
        obtain ⟨r, hr, hM⟩ := h3 ⟨#[]⟩
        refine ⟨r, Ev.step (fun k => ?_) hr, hM⟩
        simp only [law12_Make.j2, Bool.false_eq_true, if_false]
      | true =>
        have hpos := hbl rfl
        have hd := tdiv_in (a := rd ns i) (b := 3) (by omega) (by omega)
        have hw : wrap64 (Int.tdiv (rd ns i) 3) = Int.tdiv (rd ns i) 3 := w64 (by omega) (by omega)
        have hq := tmod_in (a := Int.tdiv (rd ns i) 3) (b := (l.length : Int)) hd.1 (by omega)
        obtain ⟨r, hr, hM⟩ := h3 (rd_T31 l (Int.tmod (Int.tdiv (rd ns i) 3) (l.length : Int))).f0
        refine ⟨r, Ev.step (fun k => ?_) hr, hM⟩
        simp only [law12_Make.j2, if_true]
        rw [hw, if_neg (by omega), if_pos hq.1, if_pos hq.2]
    have hj1 : ∃ r, Ev (fun k => law12_Make.j1 k ns l i true) r ∧ MadeP r := by
      by_cases hpos : 0 < l.length
      · obtain ⟨r, hr, hM⟩ := hj2 (decide ((Int.tmod (rd ns i) 3) > 0)) (fun _ => hpos)
        refine ⟨r, Ev.step (fun k => ?_) hr, hM⟩
        simp only [law12_Make.j1, if_true]
        rw [if_pos (by omega), if_pos (by omega), if_pos (by omega), hr0]
      · obtain ⟨r, hr, hM⟩ := hj2 false (fun q => by cases q)
        refine ⟨r, Ev.step (fun k => ?_) hr, hM⟩
        simp only [law12_Make.j1, if_true]
        rw [if_pos (by omega), if_pos (by omega), if_neg (by omega), hr0]
    obtain ⟨r, hr, hM⟩ := hj1
    refine ⟨r, Ev.step (fun k => ?_) hr, hM⟩
    simp only [law12_Make.l0]
    rw [hw2, if_pos (by omega), show decide ((l.length : Int) < 24) = true from decide_eq_true (by omega)]
  · refine ⟨l, Ev.step (f := fun k => law12_Make.j1 k ns l i false) (fun k => ?_) (Ev.step (f := fun _ => some l) (fun k => ?_) (Ev.now _)), h⟩
    · simp only [law12_Make.l0]
      rw [hw2, if_pos (by omega), show decide ((l.length : Int) < 24) = false from decide_eq_false (by omega)]
    · simp only [law12_Make.j1, Bool.false_eq_true, if_false]
theorem made_from {ns : List Int} (hb : Bytes ns) (hs : ns.length ≤ 1000) : ∀ (d : Nat) (i : Int), 0 ≤ i → i ≤ 1003 → (ns.length : Int) - i ≤ d → MakesFrom ns i
  | d, i, h0, h1, hd => by
    by_cases h2 : i + 2 < ns.length
    · cases d with
      | zero => omega
      | succ d => exact made_step hb hs h0 h2 (made_from hb hs d (i + 3) (by omega) (by omega) (by omega))
    · intro l h
      have hw2 : wrap64 (i + 2) = i + 2 := w64 (by omega) (by omega)
      refine ⟨l, Ev.step (f := fun k => law12_Make.j1 k ns l i false) (fun k => ?_) (Ev.step (f := fun _ => some l) (fun k => ?_) (Ev.now _)), h⟩
      · simp only [law12_Make.l0]
        rw [hw2, if_neg (by omega)]
      · simp only [law12_Make.j1, Bool.false_eq_true, if_false]
theorem made_all {ns : List Int} (hb : Bytes ns) (hs : ns.length ≤ 1000) : ∃ l, Ev (fun k => law12_Make.f k ns) l ∧ MadeP l := made_from hb hs ns.length 0 (by omega) (by omega) (by omega) [] made_nil
end Go.Proofs.Ytcgefpklljclgaa.Print

namespace Go.Proofs.Ytcgefpklljclgaa.Print
open Go.RowKit Go.Proofs.YtcgefpklljclgaaW.PrintWords Go.Proofs.YtcgefpklljclgaaW.PrintLast Go.Proofs.YtcgefpklljclgaaW.PrintMore
set_option linter.unusedVariables false
set_option linter.unusedSimpArgs false
/-! the program's way up -/
theorem tree_Up_l0 (l : List Item) (hl : l.length < 1000000) : ∀ (m : Nat) (n : ByteArray) (out : List ByteArray), out.length + m = l.length + 1 →
    Ev (fun k => tree_Up.l0 k l out (fnd l n)) (out ++ upGo l m n)
  | 0, n, out, hm => by
    rw [upGo.eq_1, List.append_nil]
    refine Ev.step (f := fun _ => some out) (fun k => ?_) (Ev.now _)
    simp only [tree_Up.l0]
    by_cases h : 0 ≤ fnd l n
    · rw [if_pos h, if_neg (by omega)]
    · rw [if_neg h]
  | m + 1, n, out, hm => by
    cases h : look l n with
    | none =>
      rw [upGo_none h, List.append_nil]
      refine Ev.step (f := fun _ => some out) (fun k => ?_) (Ev.now _)
      simp only [tree_Up.l0]
      rw [fnd_none h, if_neg (by omega)]
    | some x =>
      rw [upGo_some h]
      have h0 := fnd_ge.2 ⟨x, h⟩
      have h1 := fnd_lt l n
      obtain ⟨hx, hn⟩ := look_mem h
      refine Ev.step (f := fun k => tree_Up.l0 k l (out ++ [n]) (fnd l x.f1)) (fun k => ?_) ?_
      · simp only [tree_Up.l0]
        rw [if_pos h0, if_pos (by omega), if_pos h0, if_pos h1, if_pos (by omega), fnd_rd h, hn, tree_Find_eq]
        rfl
      · have := tree_Up_l0 l hl m x.f1 (out ++ [n]) (by simp; omega)
        simpa using this
theorem tree_Up_ev (l : List Item) (n : ByteArray) (hl : l.length < 1000000) : Ev (fun k => tree_Up.f k l n) (up l n) := by
  have := tree_Up_l0 l hl (l.length + 1) n [] (by simp)
  rw [List.nil_append] at this
  exact this
/-! room -/
def ways (l : List Item) (n : ByteArray) : List Item := (up l n).map (fun u => rd_T31 l (fnd l u))
theorem up_in {l : List Item} {n u : ByteArray} (h : u ∈ up l n) : ∃ x, look l u = some x := by
  have : ∀ (m : Nat) (n : ByteArray), u ∈ upGo l m n → ∃ x, look l u = some x := by
    intro m
    induction m with
    | zero => intro n h; cases h
    | succ m ih =>
      intro n h
      cases e : look l n with
      | none => rw [upGo_none e] at h; cases h
      | some x =>
        rw [upGo_some e] at h
        rcases List.mem_cons.1 h with rfl | h
        · exact ⟨x, e⟩
        · exact ih _ h
  exact this _ _ h
theorem ways_mem {l : List Item} {n : ByteArray} {x : Item} (h : x ∈ ways l n) : x ∈ l ∧ x.f0 ∈ up l n := by
  obtain ⟨u, hu, rfl⟩ := List.mem_map.1 h
  obtain ⟨x, hx⟩ := up_in hu
  rw [fnd_rd hx]
  obtain ⟨h1, h2⟩ := look_mem hx
  exact ⟨h1, by rw [h2]; exact hu⟩
theorem room_along_l0 (l : List Item) (us : List ByteArray) (hu : ∀ u ∈ us, ∃ x, look l u = some x) (hs : us.length < 1000000) : ∀ (d i : Nat) (acc : List Item), us.length - i = d → i ≤ us.length → acc.length = i →
    Ev (fun k => room_along.l0 k l us us.length i acc) (acc ++ (us.drop i).map (fun u => rd_T31 l (fnd l u)))
  | 0, i, acc, hd, hi, ha => by
    obtain rfl : i = us.length := by omega
    rw [List.drop_length, List.map_nil, List.append_nil]
    refine Ev.step (f := fun _ => some acc) (fun k => ?_) (Ev.now _)
    simp only [room_along.l0]
    rw [if_neg (by omega)]
  | d + 1, i, acc, hd, hi, ha => by
    have hlt : i < us.length := by omega
    rw [drop_cons hlt, List.map_cons]
    obtain ⟨x, hx⟩ := hu (rdOf ByteArray.empty us i) (by simp [rdOf, hlt])
    have h0 := fnd_ge.2 ⟨x, hx⟩
    have h1 := fnd_lt l (rdOf ByteArray.empty us i)
    refine Ev.step (f := fun k => room_along.l0 k l us us.length ((i + 1 : Nat) : Int) (acc ++ [rd_T31 l (fnd l (rdOf ByteArray.empty us i))])) (fun k => ?_) ?_
    · simp only [room_along.l0, tree_Find_eq, Option.bind_some]
      rw [if_pos (by omega), if_pos (by omega), if_pos (by omega), if_pos h0, if_pos h1, if_pos (by omega), w64 (by omega) (by omega)]
      rfl
    · have := room_along_l0 l us hu hs d (i + 1) (acc ++ [rd_T31 l (fnd l (rdOf ByteArray.empty us i))]) (by omega) (by omega) (by simp; omega)
      simpa using this
theorem room_along_ev (l : List Item) (n : ByteArray) (hl : l.length < 100000) : Ev (fun k => room_along.f k l n) (ways l n) :=
  Ev.bind (tree_Up_ev l n (by omega)) (by
    have := room_along_l0 l (up l n) (fun u hu => up_in hu) (by have := up_len l n; omega) _ 0 [] rfl (by omega) rfl
    rw [List.nil_append, List.drop_zero] at this
    exact this)
def vmin (a b : Vec) : Vec := ⟨min a.f0 b.f0, min a.f1 b.f1, min a.f2 b.f2⟩
def most : Vec := ⟨1099511627776, 1099511627776, 1099511627776⟩
theorem most_may : MayP most := by intro c; cases c <;> simp [most, Comp.of]
theorem of_vmin (c : Comp) (a b : Vec) : c.of (vmin a b) = min (c.of a) (c.of b) := by cases c <;> rfl
def freeV (x : Item) : Vec := vsub x.f2 x.f4
theorem free_may {x : Item} (h : ItemOK x) : MayP (freeV x) := fun c => by
  have a := h.lim c; have b := h.sub c; have d := h.fit c
  unfold freeV; rw [of_vsub]; omega
def leastV (ws : List Item) (a : Vec) : Vec := ws.foldl (fun a x => vmin a (freeV x)) a
theorem vmin_may {a b : Vec} (ha : MayP a) (hb : MayP b) : MayP (vmin a b) := fun c => by
  have a := ha c; have b := hb c
  rw [of_vmin]; omega
theorem least_cons (x : Item) (ws : List Item) (a : Vec) : leastV (x :: ws) a = leastV ws (vmin a (freeV x)) := rfl
theorem vec_Sub_eq {a b : Vec} (ha : MayP a) (hb : MayP b) : vec_Sub.f a.f0 a.f1 a.f2 b.f0 b.f1 b.f2 = some ((vsub a b).f0, (vsub a b).f1, (vsub a b).f2) := by
  have a0 := ha .cpu; have a1 := ha .mem; have a2 := ha .pods
  have b0 := hb .cpu; have b1 := hb .mem; have b2 := hb .pods
  simp only [Comp.of] at a0 a1 a2 b0 b1 b2
  unfold vec_Sub.f
  rw [w64 (by omega) (by omega), w64 (by omega) (by omega), w64 (by omega) (by omega)]
  rfl
theorem vec_Add2 {a b : Vec} (ha : MayP a) (hb : MayP b) : vec_Add.f [a, b] = some (a.f0 + b.f0, a.f1 + b.f1, a.f2 + b.f2) := by
  have a0 := ha .cpu; have a1 := ha .mem; have a2 := ha .pods
  have b0 := hb .cpu; have b1 := hb .mem; have b2 := hb .pods
  simp only [Comp.of] at a0 a1 a2 b0 b1 b2
  simp only [vec_Add.f, vecByF]
  rw [w64 (n := 0 + a.f0) (by omega) (by omega), w64 (n := 0 + a.f1) (by omega) (by omega), w64 (n := 0 + a.f2) (by omega) (by omega), w64 (by omega) (by omega), w64 (by omega) (by omega), w64 (by omega) (by omega), Int.zero_add, Int.zero_add, Int.zero_add]
theorem vec_Max2 {a b : Vec} (ha : MayP a) (hb : MayP b) : vec_Max.f [a, b] = some (max a.f0 b.f0, max a.f1 b.f1, max a.f2 b.f2) := by
  have a0 := ha .cpu; have a1 := ha .mem; have a2 := ha .pods
  have b0 := hb .cpu; have b1 := hb .mem; have b2 := hb .pods
  simp only [Comp.of] at a0 a1 a2 b0 b1 b2
  have e : ∀ x y : Int, 0 ≤ x → mx (mx 0 x) y = max x y := fun x y hx => by unfold mx; split <;> split <;> omega
  simp only [vec_Max.f, vecByF]
  rw [e _ _ a0.1, e _ _ a1.1, e _ _ a2.1]
theorem room_free_eq {x : Item} (h : ItemOK x) : room_free.f x.f0 x.f1 x.f2.f0 x.f2.f1 x.f2.f2 x.f3.f0 x.f3.f1 x.f3.f2 x.f4.f0 x.f4.f1 x.f4.f2 x.f5 = some ((freeV x).f0, (freeV x).f1, (freeV x).f2) := by
  unfold room_free.f
  rw [vec_Sub_eq (a := x.f2) (b := x.f4) h.lim h.sub]
  rfl
theorem room_made_l0 (ws ws' : List Item) (hw : ∀ x ∈ ws, ItemOK x) (hs : ws.length < 1000000) : ∀ (d i : Nat) (a : Vec), ws.length - i = d → i ≤ ws.length → MayP a →
    Ev (fun k => room_made.l0 k ws ws.length i ws' a.f0 a.f1 a.f2) (ws', (leastV (ws.drop i) a).f0, (leastV (ws.drop i) a).f1, (leastV (ws.drop i) a).f2)
  | 0, i, a, hd, hi, ha => by
    obtain rfl : i = ws.length := by omega
    rw [List.drop_length]
    refine Ev.step (f := fun _ => some (ws', a.f0, a.f1, a.f2)) (fun k => ?_) (Ev.now _)
    simp only [room_made.l0]
    rw [if_neg (by omega)]
  | d + 1, i, a, hd, hi, ha => by
    have hlt : i < ws.length := by omega
    have hrd : rd_T31 ws (i : Int) = ws[i] := by rw [rd_item, Int.toNat_natCast]; simp [hlt]
    have hx : ItemOK ws[i] := hw _ (List.getElem_mem hlt)
    have hf := free_may hx
    rw [List.drop_eq_getElem_cons hlt]
    have hmin : vec_Sub.f (a.f0 + (freeV ws[i]).f0) (a.f1 + (freeV ws[i]).f1) (a.f2 + (freeV ws[i]).f2) (max a.f0 (freeV ws[i]).f0) (max a.f1 (freeV ws[i]).f1) (max a.f2 (freeV ws[i]).f2) = some ((vmin a (freeV ws[i])).f0, (vmin a (freeV ws[i])).f1, (vmin a (freeV ws[i])).f2) := by
      have a0 := ha .cpu; have a1 := ha .mem; have a2 := ha .pods
      have b0 := hf .cpu; have b1 := hf .mem; have b2 := hf .pods
      simp only [Comp.of] at a0 a1 a2 b0 b1 b2
      have e : ∀ x y : Int, 0 ≤ x ∧ x ≤ 1099511627776 → 0 ≤ y ∧ y ≤ 1099511627776 → wrap64 (x + y - max x y) = min x y := fun x y hx hy => by rw [w64 (by omega) (by omega)]; omega
      unfold vec_Sub.f
      rw [e _ _ a0 b0, e _ _ a1 b1, e _ _ a2 b2]
      rfl
    refine Ev.step (f := fun k => room_made.l0 k ws ws.length ((i + 1 : Nat) : Int) ws' (vmin a (freeV ws[i])).f0 (vmin a (freeV ws[i])).f1 (vmin a (freeV ws[i])).f2) (fun k => ?_) (room_made_l0 ws ws' hw hs d (i + 1) _ (by omega) (by omega) (vmin_may ha hf))
    simp only [room_made.l0]
    rw [if_pos (by omega), if_pos (by omega), if_pos (by omega), hrd, room_free_eq hx]
    simp only [Option.bind_some]
    rw [show (⟨a.f0, a.f1, a.f2⟩ : Vec) = a from rfl, show (⟨(freeV ws[i]).f0, (freeV ws[i]).f1, (freeV ws[i]).f2⟩ : Vec) = freeV ws[i] from rfl, vec_Add2 ha hf, vec_Max2 ha hf]
    simp only [Option.bind_some]
    rw [hmin, w64 (by omega) (by omega)]
    rfl
theorem right_ways {l : List Item} (hl : RightP l) (n : ByteArray) : ∀ x ∈ ways l n, ItemOK x := fun x hx => hl.ok x (ways_mem hx).1
def roomV (l : List Item) (n : ByteArray) : Vec := leastV (ways l n) most
theorem room_made_ev {l : List Item} (hl : RightP l) (n : ByteArray) : Ev (fun k => room_made.f k l n) (ways l n, (roomV l n).f0, (roomV l n).f1, (roomV l n).f2) := by
  have hlen := hl.len
  refine Ev.bind (room_along_ev l n (by omega)) ?_
  have h := room_made_l0 (ways l n) (ways l n) (right_ways hl n) (by unfold ways; rw [List.length_map]; have := up_len l n; omega) _ 0 most rfl (by omega) most_may
  rw [List.drop_zero] at h
  refine Ev.congr (fun k => ?_) h
  rfl
def roomR (l : List Item) (n : ByteArray) : Int × Int × Int × Bool := if (look l n).isNone = true then (0, 0, 0, false) else ((roomV l n).f0, (roomV l n).f1, (roomV l n).f2, true)
theorem room_Of_ev {l : List Item} (hl : RightP l) (n : ByteArray) : Ev (fun k => room_Of.f k l n) (roomR l n) := by
  refine Ev.bind (room_made_ev hl n) ?_
  unfold roomR
  refine Ev.congr (fun k => ?_) (Ev.now _)
  cases h : look l n with
  | none =>
    rw [if_pos (show (none : Option Item).isNone = true from rfl), show ways l n = [] from by unfold ways; rw [show up l n = [] from upGo_none h _]; rfl]
    rfl
  | some x =>
    have := up_self h
    have : (ways l n).length ≠ 0 := by unfold ways; rw [List.length_map]; intro q; rw [List.length_eq_zero_iff.1 q] at this; cases this
    rw [if_neg (by show ¬ ((ways l n).length : Int) = 0; omega), if_neg (by simp)]
end Go.Proofs.Ytcgefpklljclgaa.Print

namespace Go.Proofs.Ytcgefpklljclgaa.Print
open Go.RowKit Go.Proofs.YtcgefpklljclgaaW.PrintWords Go.Proofs.YtcgefpklljclgaaW.PrintLast Go.Proofs.YtcgefpklljclgaaW.PrintMore
set_option linter.unusedVariables false
set_option linter.unusedSimpArgs false
/-! what some nodes share -/
theorem hasStr_cons (x : ByteArray) (l : List ByteArray) (s : ByteArray) : hasStr (x :: l) s = (decide (s.toList = x.toList) || hasStr l s) := by unfold hasStr; rw [List.any_cons]
theorem r10_in_l0 (l : List ByteArray) (s : ByteArray) (hl : l.length < 1000000) : ∀ (d i : Nat), l.length - i = d → i ≤ l.length → Ev (fun k => r10_in.l0 k l s i) (hasStr (l.drop i) s)
  | 0, i, hd, hi => by
    obtain rfl : i = l.length := by omega
    rw [List.drop_length]
    refine Ev.step (f := fun _ => some false) (fun k => ?_) (Ev.now _)
    simp only [r10_in.l0]
    rw [if_neg (by omega)]
  | d + 1, i, hd, hi => by
    have hlt : i < l.length := by omega
    have hrd : rdOf ByteArray.empty l (i : Int) = l[i] := by simp [rdOf, hlt]
    rw [List.drop_eq_getElem_cons hlt, hasStr_cons]
    by_cases e : l[i].toList = s.toList
    · rw [decide_eq_true e.symm, Bool.true_or]
      refine Ev.step (f := fun _ => some true) (fun k => ?_) (Ev.now _)
      simp only [r10_in.l0]
      rw [if_pos (by omega), if_pos (by omega), hrd, if_pos e]
    · rw [decide_eq_false (fun q => e q.symm), Bool.false_or]
      refine Ev.step (f := fun k => r10_in.l0 k l s ((i + 1 : Nat) : Int)) (fun k => ?_) (r10_in_l0 l s hl d (i + 1) (by omega) (by omega))
      simp only [r10_in.l0]
      rw [if_pos (by omega), if_pos (by omega), hrd, if_neg e, w64 (by omega) (by omega)]
      rfl
theorem r10_in_ev (l : List ByteArray) (s : ByteArray) (hl : l.length < 1000000) : Ev (fun k => r10_in.f k l s) (hasStr l s) := r10_in_l0 l s hl _ 0 rfl (by omega)
/-- is this node's name told, and none above it? -/
def topB (l : List Item) (ns : List ByteArray) (x : Item) : Bool := hasStr ns x.f0 && !((up l x.f0).drop 1).any (hasStr ns)
def addV (a : Vec) (ws : List Item) : Vec := ⟨a.f0 + sumBy (fun x => x.f4.f0) ws, a.f1 + sumBy (fun x => x.f4.f1) ws, a.f2 + sumBy (fun x => x.f4.f2) ws⟩
def shareV (l : List Item) (ns : List ByteArray) : Vec := addV ⟨0, 0, 0⟩ (l.filter (topB l ns))
theorem addV_nil (a : Vec) : addV a [] = a := by unfold addV; simp [sumBy_nil]
theorem addV_cons (a : Vec) (x : Item) (ws : List Item) : addV a (x :: ws) = addV (vadd a x.f4) ws := by
  unfold addV vadd
  simp only [sumBy_cons]
  congr 1 <;> omega
def SmallV (a : Vec) (n : Nat) : Prop := ∀ c : Comp, 0 ≤ c.of a ∧ c.of a ≤ 1099511627776 * n
theorem small_zero : SmallV ⟨0, 0, 0⟩ 0 := fun c => by cases c <;> simp [Comp.of]
theorem small_add {a b : Vec} {n : Nat} (ha : SmallV a n) (hb : MayP b) : SmallV (vadd a b) (n + 1) := fun c => by
  have h1 := ha c; have h2 := hb c
  rw [of_vadd]; omega
theorem small_mono {a : Vec} {n m : Nat} (h : SmallV a n) (hn : n ≤ m) : SmallV a m := fun c => by have := h c; omega
theorem small_wrap {a b : Vec} {n : Nat} (ha : SmallV a n) (hb : MayP b) (hn : n ≤ 1000) : wrap64 (a.f0 + b.f0) = (vadd a b).f0 ∧ wrap64 (a.f1 + b.f1) = (vadd a b).f1 ∧ wrap64 (a.f2 + b.f2) = (vadd a b).f2 := by
  have a0 := ha .cpu; have a1 := ha .mem; have a2 := ha .pods
  have b0 := hb .cpu; have b1 := hb .mem; have b2 := hb .pods
  simp only [Comp.of] at a0 a1 a2 b0 b1 b2
  exact ⟨w64 (by omega) (by omega), w64 (by omega) (by omega), w64 (by omega) (by omega)⟩
theorem vecAdd_items : ∀ (ws : List Item) (a : Vec) (n : Nat), SmallV a n → (∀ x ∈ ws, MayP x.f4) → n + ws.length ≤ 1000 → vecByF (fun x y => wrap64 (x + y)) (ws.map (·.f4)) a.f0 a.f1 a.f2 = ((addV a ws).f0, (addV a ws).f1, (addV a ws).f2)
  | [], a, n, ha, hw, hn => by rw [addV_nil]; rfl
  | x :: ws, a, n, ha, hw, hn => by
    rw [addV_cons]
    obtain ⟨e0, e1, e2⟩ := small_wrap ha (hw x (by simp)) (by simp at hn; omega)
    have := vecAdd_items ws (vadd a x.f4) (n + 1) (small_add ha (hw x (by simp))) (fun y hy => hw y (by simp [hy])) (by simp at hn; omega)
    rw [← this]
    show vecByF (fun x y => wrap64 (x + y)) (ws.map (·.f4)) (wrap64 (a.f0 + x.f4.f0)) (wrap64 (a.f1 + x.f4.f1)) (wrap64 (a.f2 + x.f4.f2)) = _
    rw [e0, e1, e2]
theorem room_Share_l0 {l : List Item} (hr : RightP l) (ns : List ByteArray) : ∀ (d i : Nat) (acc : List Vec), l.length - i = d → i ≤ l.length → acc.length ≤ i → Ev (fun k => room_Share.l0 k l ns i acc) (acc ++ ((l.drop i).filter (topB l ns)).map (·.f4))
  | 0, i, acc, hd, hi, ha => by
    obtain rfl : i = l.length := by omega
    rw [List.drop_length]
    refine Ev.step (f := fun _ => some acc) (fun k => ?_) (by rw [show acc ++ (([] : List Item).filter (topB l ns)).map (·.f4) = acc from List.append_nil _]; exact Ev.now _)
    rw [room_Share.l0, if_neg (by omega)]
  | d + 1, i, acc, hd, hi, ha => by
    have hlen := hr.len
    have hlt : i < l.length := by omega
    have hrd : rd_T31 l (i : Int) = l[i] := by rw [rd_item, Int.toNat_natCast]; simp [hlt]
    have hm : l[i] ∈ l := List.getElem_mem hlt
    have hpos : 1 ≤ (up l l[i].f0).length := by have := up_self (hr.look hm); exact List.length_pos_of_mem this
    rw [List.drop_eq_getElem_cons hlt]
    generalize l[i] = x at *
    have ht : topB l ns x = true ↔ (hasStr ns x.f0 = true ∧ ((up l x.f0).drop 1).any (hasStr ns) = false) := by unfold topB; simp
    by_cases h : topB l ns x = true
    · rw [List.filter_cons_of_pos h]
      refine Ev.step (f := fun k => (tree_Up.f k l x.f0).bind fun us => if 1 ≤ us.length then (if hasStr ns x.f0 = true ∧ (us.drop 1).any (hasStr ns) = false then (if acc.length < 1000000000 then room_Share.l0 k l ns (wrap64 ((i : Int) + 1)) (acc ++ [x.f4]) else none) else room_Share.l0 k l ns (wrap64 ((i : Int) + 1)) acc) else none) (fun k => ?_) ?_
      · rw [room_Share.l0, if_pos (by omega), if_pos (by omega), hrd]
      · refine Ev.bind (tree_Up_ev l x.f0 (by omega)) ?_
        have := room_Share_l0 hr ns d (i + 1) (acc ++ [x.f4]) (by omega) (by omega) (by simp; omega)
        rw [List.append_assoc] at this
        refine Ev.congr (fun k => ?_) this
        rw [if_pos hpos, if_pos (ht.1 h), if_pos (by omega), w64 (by omega) (by omega)]
        rfl
    · rw [List.filter_cons_of_neg h]
      refine Ev.step (f := fun k => (tree_Up.f k l x.f0).bind fun us => if 1 ≤ us.length then (if hasStr ns x.f0 = true ∧ (us.drop 1).any (hasStr ns) = false then (if acc.length < 1000000000 then room_Share.l0 k l ns (wrap64 ((i : Int) + 1)) (acc ++ [x.f4]) else none) else room_Share.l0 k l ns (wrap64 ((i : Int) + 1)) acc) else none) (fun k => ?_) ?_
      · rw [room_Share.l0, if_pos (by omega), if_pos (by omega), hrd]
      · refine Ev.bind (tree_Up_ev l x.f0 (by omega)) ?_
        refine Ev.congr (fun k => ?_) (room_Share_l0 hr ns d (i + 1) acc (by omega) (by omega) (by omega))
        rw [if_pos hpos, if_neg (fun q => h (ht.2 q)), w64 (by omega) (by omega)]
        rfl
theorem room_Share_ev {l : List Item} (hr : RightP l) (ns : List ByteArray) (hn : ns.length < 1000000) : Ev (fun k => room_Share.f k l ns) ((shareV l ns).f0, (shareV l ns).f1, (shareV l ns).f2) := by
  have hlen := hr.len
  refine Ev.congr (fun k => if_pos (by omega)) ?_
  have h := room_Share_l0 hr ns _ 0 [] rfl (by omega) (by simp)
  rw [List.drop_zero, List.nil_append] at h
  refine Ev.bind h ?_
  have hf := List.length_filter_le (topB l ns) l
  refine Ev.congr (fun k => ?_) (Ev.now _)
  unfold vec_Add.f
  rw [show ((0 : Int) = (⟨0, 0, 0⟩ : Vec).f0) from rfl]
  congr 1
  exact vecAdd_items (l.filter (topB l ns)) ⟨0, 0, 0⟩ 0 small_zero (fun x hx => (hr.ok x (List.mem_filter.1 hx).1).sub) (by omega)
end Go.Proofs.Ytcgefpklljclgaa.Print

namespace Go.Proofs.Ytcgefpklljclgaa.Print
open Go.RowKit Go.Proofs.YtcgefpklljclgaaW.PrintWords Go.Proofs.YtcgefpklljclgaaW.PrintLast Go.Proofs.YtcgefpklljclgaaW.PrintMore
set_option linter.unusedVariables false
set_option linter.unusedSimpArgs false
def tightB (v : Vec) (x : Item) : Bool := decide ((freeV x).f0 = v.f0 ∨ (freeV x).f1 = v.f1 ∨ (freeV x).f2 = v.f2)
def tightL (ws : List Item) (v : Vec) : List ByteArray := (ws.filter (tightB v)).map (·.f0)
theorem room_tight_eq {ws : List Item} {v : Vec} {x : Item} (h : ItemOK x) : room_looker_tight.f ws v.f0 v.f1 v.f2 x.f0 x.f1 x.f2.f0 x.f2.f1 x.f2.f2 x.f3.f0 x.f3.f1 x.f3.f2 x.f4.f0 x.f4.f1 x.f4.f2 x.f5 = some (tightB v x) := by
  unfold room_looker_tight.f
  rw [room_free_eq h]
  simp only [Option.bind_some]
  unfold tightB
  by_cases h0 : (freeV x).f0 = v.f0
  · rw [if_pos h0]; simp [h0]
  · rw [if_neg h0]
    by_cases h1 : (freeV x).f1 = v.f1
    · rw [if_pos h1]; simp [h1]
    · rw [if_neg h1]
      congr 1
      rw [Bool.eq_iff_iff]
      simp [h0, h1]
theorem room_Tight_l0 (ws : List Item) (v : Vec) (hw : ∀ x ∈ ws, ItemOK x) (hs : ws.length < 1000000) : ∀ (d i : Nat) (acc : List ByteArray), ws.length - i = d → i ≤ ws.length → acc.length ≤ i →
    Ev (fun k => room_Tight.l0 k acc ws ws.length i ws v.f0 v.f1 v.f2) (acc ++ tightL (ws.drop i) v)
  | 0, i, acc, hd, hi, ha => by
    obtain rfl : i = ws.length := by omega
    rw [List.drop_length]
    refine Ev.step (f := fun _ => some acc) (fun k => ?_) (by rw [show acc ++ tightL [] v = acc from List.append_nil _]; exact Ev.now _)
    simp only [room_Tight.l0]
    rw [if_neg (by omega)]
  | d + 1, i, acc, hd, hi, ha => by
    have hlt : i < ws.length := by omega
    have hrd : rd_T31 ws (i : Int) = ws[i] := by rw [rd_item, Int.toNat_natCast]; simp [hlt]
    have hx : ItemOK ws[i] := hw _ (List.getElem_mem hlt)
    rw [List.drop_eq_getElem_cons hlt]
    by_cases ht : tightB v ws[i] = true
    · refine Ev.step (f := fun k => room_Tight.l0 k (acc ++ [ws[i].f0]) ws ws.length ((i + 1 : Nat) : Int) ws v.f0 v.f1 v.f2) (fun k => ?_) ?_
      · simp only [room_Tight.l0]
        rw [if_pos (by omega), if_pos (by omega), if_pos (by omega), hrd, room_tight_eq hx]
        simp only [Option.bind_some]
        rw [if_pos ht, if_pos (by omega), w64 (by omega) (by omega)]
        rfl
      · have := room_Tight_l0 ws v hw hs d (i + 1) (acc ++ [ws[i].f0]) (by omega) (by omega) (by simp; omega)
        rw [show tightL (ws[i] :: ws.drop (i + 1)) v = ws[i].f0 :: tightL (ws.drop (i + 1)) v from by unfold tightL; rw [List.filter_cons_of_pos ht]; rfl]
        rw [List.append_assoc] at this
        exact this
    · refine Ev.step (f := fun k => room_Tight.l0 k acc ws ws.length ((i + 1 : Nat) : Int) ws v.f0 v.f1 v.f2) (fun k => ?_) ?_
      · simp only [room_Tight.l0]
        rw [if_pos (by omega), if_pos (by omega), if_pos (by omega), hrd, room_tight_eq hx]
        simp only [Option.bind_some]
        rw [if_neg ht, w64 (by omega) (by omega)]
        rfl
      · have := room_Tight_l0 ws v hw hs d (i + 1) acc (by omega) (by omega) (by omega)
        rw [show tightL (ws[i] :: ws.drop (i + 1)) v = tightL (ws.drop (i + 1)) v from by unfold tightL; rw [List.filter_cons_of_neg ht]]
        exact this
theorem room_Tight_ev {l : List Item} (hl : RightP l) (n : ByteArray) : Ev (fun k => room_Tight.f k l n) (tightL (ways l n) (roomV l n)) := by
  have hlen := hl.len
  refine Ev.bind (room_made_ev hl n) ?_
  have h := room_Tight_l0 (ways l n) (roomV l n) (right_ways hl n) (by unfold ways; rw [List.length_map]; have := up_len l n; omega) _ 0 [] rfl (by omega) (by simp)
  rw [List.drop_zero, List.nil_append] at h
  exact h
end Go.Proofs.Ytcgefpklljclgaa.Print

namespace Go.Proofs.Ytcgefpklljclgaa.Print
open Go.RowKit Go.Proofs.YtcgefpklljclgaaW.PrintWords Go.Proofs.YtcgefpklljclgaaW.PrintLast Go.Proofs.YtcgefpklljclgaaW.PrintMore
set_option linter.unusedVariables false
set_option linter.unusedSimpArgs false
theorem made_awake_ev : Ev (fun k => law13_awake.f k) true := Ev.of (g := fun k => law13_awake.f k) (fun k => law13_awake.mono k) (k := 20) (by kernel_rfl)
theorem mn_min (a b : Int) : mn a b = min a b := by unfold mn; split <;> omega
theorem r10_free_eq {x : Item} (h : ItemOK x) : r10_free.f x.f0 x.f1 x.f2.f0 x.f2.f1 x.f2.f2 x.f3.f0 x.f3.f1 x.f3.f2 x.f4.f0 x.f4.f1 x.f4.f2 x.f5 = some ((freeV x).f0, (freeV x).f1, (freeV x).f2) := by
  have a0 := h.lim .cpu; have a1 := h.lim .mem; have a2 := h.lim .pods
  have b0 := h.sub .cpu; have b1 := h.sub .mem; have b2 := h.sub .pods
  simp only [Comp.of] at a0 a1 a2 b0 b1 b2
  unfold r10_free.f r10_Sub.f
  rw [w64 (n := x.f2.f0 - x.f4.f0) (by omega) (by omega), w64 (n := x.f2.f1 - x.f4.f1) (by omega) (by omega), w64 (n := x.f2.f2 - x.f4.f2) (by omega) (by omega)]
  rfl
/-- what stands at a place of the way up -/
theorem way_at {l : List Item} (hr : RightP l) {n : ByteArray} {i : Nat} (hi : i < (up l n).length) : ∃ x ∈ l, rdOf ByteArray.empty (up l n) (i : Int) = x.f0 ∧ look l x.f0 = some x ∧ (up l n)[i] = x.f0 := by
  have hm : (up l n)[i] ∈ up l n := List.getElem_mem hi
  obtain ⟨x, hx⟩ := up_in hm
  obtain ⟨h1, h2⟩ := look_mem hx
  exact ⟨x, h1, by simp [rdOf, hi, h2], hr.look h1, h2.symm⟩
theorem ways_drop {l : List Item} (hr : RightP l) {n : ByteArray} {i : Nat} (hi : i < (up l n).length) {x : Item} (hx : look l x.f0 = some x) (e : (up l n)[i] = x.f0) : (ways l n).drop i = x :: (ways l n).drop (i + 1) := by
  unfold ways
  have hi' : i < ((up l n).map (fun u => rd_T31 l (fnd l u))).length := by rw [List.length_map]; exact hi
  rw [List.drop_eq_getElem_cons hi', List.getElem_map, e, fnd_rd hx]
theorem r10_Room_l0 {l : List Item} (hr : RightP l) (n : ByteArray) : ∀ (d i : Nat) (a : Vec), (up l n).length - i = d → i ≤ (up l n).length → Ev (fun k => r10_Room.l0 k l (up l n) i a.f0 a.f1 a.f2) ((leastV ((ways l n).drop i) a).f0, (leastV ((ways l n).drop i) a).f1, (leastV ((ways l n).drop i) a).f2, true)
  | 0, i, a, hd, hi => by
    have : (ways l n).drop i = [] := by rw [List.drop_eq_nil_iff]; unfold ways; rw [List.length_map]; omega
    rw [this]
    refine Ev.step (f := fun _ => some (a.f0, a.f1, a.f2, true)) (fun k => ?_) (Ev.now _)
    rw [r10_Room.l0, if_neg (by omega)]
  | d + 1, i, a, hd, hi => by
    have hlen := hr.len
    have hul := up_len l n
    have hlt : i < (up l n).length := by omega
    obtain ⟨x, hx, hrd, hlk, e⟩ := way_at hr hlt
    rw [ways_drop hr hlt hlk e, least_cons]
    have ih := r10_Room_l0 hr n d (i + 1) (vmin a (freeV x)) (by omega) (by omega)
    have h0 := fnd_ge.2 ⟨_, hlk⟩
    have h1 := fnd_lt l x.f0
    have hg := fnd_rd hlk
    refine Ev.step (f := fun k => (r10_Find.f k l x.f0).bind fun t13 => (if 0 ≤ t13 then (if t13 < (l.length : Int) then ((r10_free.f ((rd_T31 l t13).f0) ((rd_T31 l t13).f1) ((rd_T31 l t13).f2.f0) ((rd_T31 l t13).f2.f1) ((rd_T31 l t13).f2.f2) ((rd_T31 l t13).f3.f0) ((rd_T31 l t13).f3.f1) ((rd_T31 l t13).f3.f2) ((rd_T31 l t13).f4.f0) ((rd_T31 l t13).f4.f1) ((rd_T31 l t13).f4.f2) ((rd_T31 l t13).f5)).bind fun bt15 => (r10_Room.l0 k l (up l n) (wrap64 ((i : Int) + 1)) (mn a.f0 bt15.1) (mn a.f1 bt15.2.1) (mn a.f2 bt15.2.2))) else (none)) else (none))) (fun k => ?_) ?_
    · rw [r10_Room.l0, if_pos (by omega), if_pos (by omega), hrd]
    · refine Ev.bind (r10_Find_ev l x.f0 (by omega)) (Ev.congr (fun k => ?_) ih)
      rw [if_pos h0, if_pos (by omega), hg, r10_free_eq (hr.ok x hx), Option.bind_some, mn_min, mn_min, mn_min, w64 (by omega) (by omega)]
      rfl
theorem vmin_most {v : Vec} (h : MayP v) : vmin most v = v := vec_ext fun c => by
  have := h c
  rw [of_vmin, show c.of most = 1099511627776 from by cases c <;> rfl]; omega
theorem r10_Room_ev {l : List Item} (hr : RightP l) (n : ByteArray) : Ev (fun k => r10_Room.f k l n) (roomR l n) := by
  have hlen := hr.len
  refine Ev.bind (r10_Up_ev l n (by omega)) ?_
  unfold roomR
  cases h : look l n with
  | none =>
    rw [if_pos (show (none : Option Item).isNone = true from rfl)]
    refine Ev.congr (fun k => ?_) (Ev.now _)
    rw [if_pos (by rw [show up l n = [] from upGo_none h _]; rfl)]
  | some z =>
    rw [if_neg (by simp)]
    have hpos : 0 < (up l n).length := List.length_pos_of_mem (up_self h)
    obtain ⟨x, hx, hrd, hlk, e⟩ := way_at hr hpos
    have h0 := fnd_ge.2 ⟨_, hlk⟩
    have h1 := fnd_lt l x.f0
    have hg := fnd_rd hlk
    have ih := r10_Room_l0 hr n _ 1 (freeV x) rfl (by omega)
    have hv : roomV l n = leastV ((ways l n).drop 1) (freeV x) := by
      have := ways_drop hr hpos hlk e
      rw [List.drop_zero] at this
      have h2 : roomV l n = leastV (x :: (ways l n).drop 1) most := congrArg (fun ws => leastV ws most) this
      rw [h2, least_cons, vmin_most (free_may (hr.ok x hx))]
    rw [← hv] at ih
    have hf : Ev (fun k => (r10_Find.f k l x.f0).bind fun t6 => (if 0 ≤ t6 then (if t6 < (l.length : Int) then ((r10_free.f ((rd_T31 l t6).f0) ((rd_T31 l t6).f1) ((rd_T31 l t6).f2.f0) ((rd_T31 l t6).f2.f1) ((rd_T31 l t6).f2.f2) ((rd_T31 l t6).f3.f0) ((rd_T31 l t6).f3.f1) ((rd_T31 l t6).f3.f2) ((rd_T31 l t6).f4.f0) ((rd_T31 l t6).f4.f1) ((rd_T31 l t6).f4.f2) ((rd_T31 l t6).f5)).bind fun bt8 => (r10_Room.l0 k l (up l n) 1 bt8.1 bt8.2.1 bt8.2.2)) else (none)) else (none))) ((roomV l n).f0, (roomV l n).f1, (roomV l n).f2, true) := by
      refine Ev.bind (r10_Find_ev l x.f0 (by omega)) (Ev.congr (fun k => ?_) ih)
      rw [if_pos h0, if_pos (by omega), hg, r10_free_eq (hr.ok x hx), Option.bind_some]
      rfl
    refine Ev.congr (fun k => ?_) hf
    rw [if_neg (by omega), if_pos (by omega), show rdOf ByteArray.empty (up l n) 0 = x.f0 from hrd]
theorem texts_l0 (l : List ByteArray) (hl : l.length < 1000000) : ∀ (d i : Nat), l.length - i = d → i ≤ l.length → Ev (fun k => r1_Texts.l0 k l l i) true
  | 0, i, hd, hi => by
    refine Ev.step (f := fun _ => some true) (fun k => ?_) (Ev.now _)
    rw [r1_Texts.l0, if_neg (by omega)]
  | d + 1, i, hd, hi => by
    refine Ev.step (f := fun k => r1_Texts.l0 k l l ((i + 1 : Nat) : Int)) (fun k => ?_) (texts_l0 l hl d (i + 1) (by omega) (by omega))
    rw [r1_Texts.l0, if_pos (by omega), if_pos (by omega), if_pos (by omega), if_pos rfl, w64 (by omega) (by omega)]
    rfl
theorem texts_refl (l : List ByteArray) (hl : l.length < 1000000) : Ev (fun k => r1_Texts.f k l l) true := Ev.congr (fun k => if_pos rfl) (texts_l0 l hl _ 0 rfl (by omega))
theorem names_l0 (ms : List Int) (hm : ms.length < 1000000) : ∀ (d i : Nat) (acc : List ByteArray), ms.length - i = d → i ≤ ms.length → acc.length = i → ∃ r, Ev (fun k => law13_names.l0 k ms acc i) r ∧ r.length = ms.length
  | 0, i, acc, hd, hi, ha => by
    refine ⟨acc, Ev.step (f := fun _ => some acc) (fun k => ?_) (Ev.now _), by omega⟩
    rw [law13_names.l0, if_neg (by omega)]
  | d + 1, i, acc, hd, hi, ha => by
    obtain ⟨r, h1, h2⟩ := names_l0 ms hm d (i + 1) (acc ++ [strOfNums (([(97 + (Int.tmod (rd ms i) 25)) % 256] : List Int))]) (by omega) (by omega) (by simp; omega)
    refine ⟨r, Ev.step (fun k => ?_) h1, h2⟩
    rw [law13_names.l0, if_pos (by omega), if_pos (by omega), if_pos (by omega), w64 (by omega) (by omega)]
    rfl
theorem names_ev (ms : List Int) (hm : ms.length < 1000000) : ∃ r, Ev (fun k => law13_names.f k ms) r ∧ r.length = ms.length := names_l0 ms hm _ 0 [] rfl (by omega) rfl
theorem r10_Tight_l0 {l : List Item} (hr : RightP l) (n : ByteArray) (v : Vec) : ∀ (d i : Nat) (acc : List ByteArray), (up l n).length - i = d → i ≤ (up l n).length → acc.length ≤ i → Ev (fun k => r10_Tight.l0 k l (up l n) acc i v.f0 v.f1 v.f2) (acc ++ tightL ((ways l n).drop i) v)
  | 0, i, acc, hd, hi, ha => by
    have : (ways l n).drop i = [] := by rw [List.drop_eq_nil_iff]; unfold ways; rw [List.length_map]; omega
    rw [this]
    refine Ev.step (f := fun _ => some acc) (fun k => ?_) (by rw [show acc ++ tightL [] v = acc from List.append_nil _]; exact Ev.now _)
    rw [r10_Tight.l0, if_neg (by omega)]
  | d + 1, i, acc, hd, hi, ha => by
    have hlen := hr.len
    have hul := up_len l n
    have hlt : i < (up l n).length := by omega
    obtain ⟨x, hx, hrd, hlk, e⟩ := way_at hr hlt
    rw [ways_drop hr hlt hlk e]
    have h0 := fnd_ge.2 ⟨_, hlk⟩
    have h1 := fnd_lt l x.f0
    have hg := fnd_rd hlk
    obtain ⟨K1, hK1⟩ := r10_Find_ev l x.f0 (by omega)
    have hs : acc.length < 8796093022208 := by omega
    have hw : wrap64 ((i : Int) + 1) = ((i + 1 : Nat) : Int) := w64 (by omega) (by omega)
    by_cases ht : tightB v x = true
    · have ih := r10_Tight_l0 hr n v d (i + 1) (acc ++ [x.f0]) (by omega) (by omega) (by simp; omega)
      rw [show tightL (x :: (ways l n).drop (i + 1)) v = x.f0 :: tightL ((ways l n).drop (i + 1)) v from by unfold tightL; rw [List.filter_cons_of_pos ht]; rfl]
      rw [List.append_assoc] at ih
      obtain ⟨K2, hK2⟩ := ih
      have hq : (freeV x).f0 = v.f0 ∨ (freeV x).f1 = v.f1 ∨ (freeV x).f2 = v.f2 := of_decide_eq_true ht
      refine ⟨K1 + K2 + 1, fun k hk => ?_⟩
      obtain ⟨k, rfl⟩ : ∃ m, k = m + 1 := ⟨k - 1, by omega⟩
      have e2 := hK2 k (by omega)
      have e1 := hK1 k (by omega)
      dsimp only at e1 e2 ⊢
      rw [r10_Tight.l0, if_pos (by omega), if_pos (by omega), hrd, e1, Option.bind_some, if_pos h0, if_pos (by omega), hg, r10_free_eq (hr.ok x hx), Option.bind_some, if_pos hs, hw]
      by_cases q0 : (freeV x).f0 = v.f0
      · rw [if_pos q0]; exact e2
      · rw [if_neg q0]
        by_cases q1 : (freeV x).f1 = v.f1
        · rw [if_pos q1]; exact e2
        · rw [if_neg q1, if_pos (by rcases hq with h | h | h <;> first | exact absurd h q0 | exact absurd h q1 | exact h)]; exact e2
    · have ih := r10_Tight_l0 hr n v d (i + 1) acc (by omega) (by omega) (by omega)
      rw [show tightL (x :: (ways l n).drop (i + 1)) v = tightL ((ways l n).drop (i + 1)) v from by unfold tightL; rw [List.filter_cons_of_neg ht]]
      obtain ⟨K2, hK2⟩ := ih
      have hq : ¬ ((freeV x).f0 = v.f0 ∨ (freeV x).f1 = v.f1 ∨ (freeV x).f2 = v.f2) := fun q => ht (decide_eq_true q)
      refine ⟨K1 + K2 + 1, fun k hk => ?_⟩
      obtain ⟨k, rfl⟩ : ∃ m, k = m + 1 := ⟨k - 1, by omega⟩
      have e2 := hK2 k (by omega)
      have e1 := hK1 k (by omega)
      dsimp only at e1 e2 ⊢
      rw [r10_Tight.l0, if_pos (by omega), if_pos (by omega), hrd, e1, Option.bind_some, if_pos h0, if_pos (by omega), hg, r10_free_eq (hr.ok x hx), Option.bind_some, hw]
      rw [if_neg (fun q => hq (.inl q)), if_neg (fun q => hq (.inr (.inl q))), if_neg (fun q => hq (.inr (.inr q)))]
      exact e2
theorem r10_Tight_ev {l : List Item} (hr : RightP l) (n : ByteArray) : Ev (fun k => r10_Tight.f k l n) (tightL (ways l n) (roomV l n)) := by
  have hlen := hr.len
  have hul := up_len l n
  refine Ev.bind (r10_Room_ev hr n) ?_
  refine Ev.bind (r10_Up_ev l n (by omega)) ?_
  unfold roomR
  cases h : look l n with
  | none =>
    rw [if_pos (show (none : Option Item).isNone = true from rfl)]
    have hu : up l n = [] := upGo_none h _
    have hw : ways l n = [] := by unfold ways; rw [hu]; rfl
    rw [hw, hu]
    refine Ev.step (f := fun _ => some []) (fun k => ?_) (Ev.now _)
    rw [r10_Tight.l0, if_neg (by simp)]
  | some z =>
    rw [if_neg (by simp)]
    have ih := r10_Tight_l0 hr n (roomV l n) _ 0 [] rfl (by omega) (by simp)
    rw [List.drop_zero, List.nil_append] at ih
    exact ih
theorem r10_Share_l1 (l : List Item) (ns us : List ByteArray) (hns : ns.length < 1000000) (hus : us.length < 1000000) (i : Nat) (hi : i < l.length) (hl : l.length < 1000000) {x : Item} (hrd : rd_T31 l (i : Int) = x) (v : Vec) {m : Nat} (hv : SmallV v m) (hm : m ≤ 1000) (hx : MayP x.f4) (R : Int × Int × Int) :
    ∀ (d j : Nat) (b : Bool), us.length - j = d → j ≤ us.length → Ev (fun k => r10_Share.l0 k l ns ((i + 1 : Nat) : Int) (if (b || (us.drop j).any (hasStr ns)) = true then v else vadd v x.f4).f0 (if (b || (us.drop j).any (hasStr ns)) = true then v else vadd v x.f4).f1 (if (b || (us.drop j).any (hasStr ns)) = true then v else vadd v x.f4).f2) R → Ev (fun k => r10_Share.l1 k l ns i us b j v.f0 v.f1 v.f2) R
  | 0, j, b, hd, hj, h => by
    have hw : wrap64 ((i : Int) + 1) = ((i + 1 : Nat) : Int) := w64 (by omega) (by omega)
    rw [show us.drop j = [] from List.drop_eq_nil_iff.2 (by omega), List.any_nil, Bool.or_false] at h
    refine Ev.step (fun k => ?_) h
    rw [r10_Share.l1, if_neg (by omega), hw]
    cases b with
    | true => rw [if_pos rfl, if_pos rfl]
    | false =>
      rw [if_neg Bool.false_ne_true, if_pos (by omega), if_pos (by omega), hrd, if_neg Bool.false_ne_true]
      obtain ⟨e0, e1, e2⟩ := small_wrap hv hx hm
      unfold r10_Add.f
      rw [e0, e1, e2]
      rfl
  | d + 1, j, b, hd, hj, h => by
    have hlt : j < us.length := by omega
    have hw : wrap64 ((j : Int) + 1) = ((j + 1 : Nat) : Int) := w64 (by omega) (by omega)
    have hrj : rdOf ByteArray.empty us (j : Int) = us[j] := by simp [rdOf, hlt]
    cases b with
    | true =>
      refine Ev.step (f := fun k => r10_Share.l1 k l ns i us true ((j + 1 : Nat) : Int) v.f0 v.f1 v.f2) (fun k => ?_) (r10_Share_l1 l ns us hns hus i hi hl hrd v hv hm hx R d (j + 1) true (by omega) (by omega) (by simpa using h))
      rw [r10_Share.l1, if_pos (by omega), if_pos rfl, hw]
    | false =>
      rw [List.drop_eq_getElem_cons hlt, List.any_cons, Bool.false_or] at h
      refine Ev.step (f := fun k => (r10_in.f k ns us[j]).bind fun t10 => r10_Share.l1 k l ns i us t10 ((j + 1 : Nat) : Int) v.f0 v.f1 v.f2) (fun k => ?_) (Ev.bind (r10_in_ev ns us[j] hns) (r10_Share_l1 l ns us hns hus i hi hl hrd v hv hm hx R d (j + 1) _ (by omega) (by omega) h))
      rw [r10_Share.l1, if_pos (by omega), if_neg Bool.false_ne_true, if_pos (by omega), hrj, hw]
theorem r10_Share_l0 {l : List Item} (hr : RightP l) (ns : List ByteArray) (hns : ns.length < 1000000) : ∀ (d i : Nat) (v : Vec), l.length - i = d → i ≤ l.length → SmallV v i → Ev (fun k => r10_Share.l0 k l ns i v.f0 v.f1 v.f2) ((addV v ((l.drop i).filter (topB l ns))).f0, (addV v ((l.drop i).filter (topB l ns))).f1, (addV v ((l.drop i).filter (topB l ns))).f2)
  | 0, i, v, hd, hi, hv => by
    obtain rfl : i = l.length := by omega
    rw [List.drop_length, List.filter_nil, addV_nil]
    refine Ev.step (f := fun _ => some (v.f0, v.f1, v.f2)) (fun k => ?_) (Ev.now _)
    rw [r10_Share.l0, if_neg (by omega)]
  | d + 1, i, v, hd, hi, hv => by
    have hlen := hr.len
    have hlt : i < l.length := by omega
    have hrd : rd_T31 l (i : Int) = l[i] := by rw [rd_item, Int.toNat_natCast]; simp [hlt]
    have hm : l[i] ∈ l := List.getElem_mem hlt
    rw [List.drop_eq_getElem_cons hlt]
    generalize l[i] = x at *
    have hx := (hr.ok x hm).sub
    have hul := up_len l x.f0
    have hw : wrap64 ((i : Int) + 1) = ((i + 1 : Nat) : Int) := w64 (by omega) (by omega)
    have hin := r10_in_ev ns x.f0 hns
    refine Ev.step (f := fun k => (r10_in.f k ns x.f0).bind fun t4 => (if t4 = true then ((r10_Up.f k l x.f0).bind fun t6 => (r10_Share.l1 k l ns i t6 false 1 v.f0 v.f1 v.f2)) else (r10_Share.l0 k l ns ((i + 1 : Nat) : Int) v.f0 v.f1 v.f2))) (fun k => ?_) ?_
    · rw [r10_Share.l0, if_pos (by omega), if_pos (by omega), hrd, hw]
    · refine Ev.bind hin ?_
      by_cases hh : hasStr ns x.f0 = true
      · refine Ev.congr (fun k => if_pos hh) (Ev.bind (r10_Up_ev l x.f0 (by omega)) ?_)
        refine r10_Share_l1 l ns (up l x.f0) hns (by omega) i hlt (by omega) hrd v hv (by omega) hx _ _ 1 false rfl (by have := List.length_pos_of_mem (up_self (hr.look hm)); omega) ?_
        rw [Bool.false_or]
        have ht : topB l ns x = !((up l x.f0).drop 1).any (hasStr ns) := by unfold topB; rw [hh, Bool.true_and]
        by_cases ha : ((up l x.f0).drop 1).any (hasStr ns) = true
        · rw [if_pos ha, List.filter_cons_of_neg (by rw [ht, ha]; simp)]
          exact r10_Share_l0 hr ns hns d (i + 1) v (by omega) (by omega) (small_mono hv (by omega))
        · rw [if_neg ha, List.filter_cons_of_pos (by rw [ht]; simpa using ha), addV_cons]
          exact r10_Share_l0 hr ns hns d (i + 1) (vadd v x.f4) (by omega) (by omega) (small_add hv hx)
      · refine Ev.congr (fun k => if_neg hh) ?_
        rw [List.filter_cons_of_neg (by unfold topB; simp [hh])]
        exact r10_Share_l0 hr ns hns d (i + 1) v (by omega) (by omega) (small_mono hv (by omega))
theorem r10_Share_ev {l : List Item} (hr : RightP l) (ns : List ByteArray) (hns : ns.length < 1000000) : Ev (fun k => r10_Share.f k l ns) ((shareV l ns).f0, (shareV l ns).f1, (shareV l ns).f2) := by
  have h := r10_Share_l0 hr ns hns _ 0 ⟨0, 0, 0⟩ rfl (by omega) small_zero
  rw [List.drop_zero] at h
  exact h
end Go.Proofs.Ytcgefpklljclgaa.Print
namespace Go.Proofs.Ytcgefpklljclgaa.Pure
open Go.RowKit Go.Proofs.Ytcgefpklljclgaa.Print Go.Proofs.YtcgefpklljclgaaW.PrintWords Go.Proofs.YtcgefpklljclgaaW.PrintLast
set_option linter.unusedVariables false
set_option linter.unusedSimpArgs false
theorem RoomMade : law13_RoomMade.Pure := by
  intro l0 l1 a2 hm hs hw hm1 hs1 hw1 w2
  have b2 := u8_bd w2
  have hawake : Ev (fun k => (law13_awake.f k).bind fun t => some t) true := Ev.bind made_awake_ev (Ev.now _)
  have hj : Ev (fun k => law13_RoomMade.j0 k l0 l1 a2 true) true := by
    refine Ev.step (fun k => ?_) hawake
    rw [law13_RoomMade.j0, if_pos rfl]
  unfold law13_RoomMade.f
  by_cases h90 : (l0.length : Int) > 90
  · exact Ev.rounds (Ev.congr (fun k => if_pos h90) hj)
  refine Ev.rounds (Ev.congr (fun k => if_neg h90) ?_)
  by_cases h20 : (l1.length : Int) > 20
  · rw [decide_eq_true h20]; exact hj
  rw [decide_eq_false h20]
  obtain ⟨l, hlev, hM⟩ := made_all (ns := l0) (fun x hx => u8_bd (hw x hx)) (by omega)
  have hr := hM.right
  have hlen := hr.len
  obtain ⟨ns, hns, hnl⟩ := names_ev l1 (by omega)
  have hS1 := room_Share_ev hr ns (by omega)
  have hS2 := r10_Share_ev hr ns (by omega)
  obtain ⟨p, hp⟩ : ∃ p, p = strOfNums ([(97 + (Int.tmod a2 25)) % 256] : List Int) := ⟨_, rfl⟩
  have htl : (tightL (Print.ways l p) (roomV l p)).length < 1000000 := by
    unfold tightL Print.ways
    rw [List.length_map]
    have h1 := List.length_filter_le (tightB (roomV l p)) ((Print.up l p).map (fun u => rd_T31 l (fnd l u)))
    rw [List.length_map] at h1
    have := up_len l p
    omega
  have fin : Ev (fun k => (law12_Make.f k l0).bind fun t2 => (some p).bind fun _ => (room_Of.f k t2 p).bind fun bt8 => ((r10_Room.f k t2 p).bind fun bt13 => (if (bt8.1 == bt13.1 && (bt8.2.1 == bt13.2.1 && (bt8.2.2.1 == bt13.2.2.1))) = true then (if (bt8.2.2.2 == bt13.2.2.2) = true then ((room_Tight.f k t2 p).bind fun t18 => ((r10_Tight.f k t2 p).bind fun t21 => ((r1_Texts.f k t18 t21).bind fun t24 => (if t24 = true then ((law13_names.f k l1).bind fun t25 => ((room_Share.f k t2 t25).bind fun bt28 => ((law13_names.f k l1).bind fun t31 => ((r10_Share.f k t2 t31).bind fun bt34 => (if (bt28.1 == bt34.1 && (bt28.2.1 == bt34.2.1 && (bt28.2.2 == bt34.2.2))) = true then ((law13_awake.f k).bind fun t37 => (some t37)) else (some false)))))) else (some false))))) else (some false)) else (some false)))) true := by
    refine Ev.bind hlev ?_
    refine Ev.bind (Ev.now p) ?_
    refine Ev.bind (room_Of_ev hr p) ?_
    refine Ev.bind (r10_Room_ev hr p) ?_
    refine Ev.congr (fun k => (if_pos (by simp)).trans (if_pos (by simp))) ?_
    refine Ev.bind (room_Tight_ev hr p) (Ev.bind (r10_Tight_ev hr p) (Ev.bind (texts_refl _ htl) ?_))
    refine Ev.congr (fun k => if_pos rfl) ?_
    refine Ev.bind hns (Ev.bind hS1 (Ev.bind hns (Ev.bind hS2 ?_)))
    exact Ev.congr (fun k => if_pos (by simp)) hawake
  refine Ev.step (fun k => ?_) fin
  rw [law13_RoomMade.j0, if_neg Bool.false_ne_true, hp]
  rfl
end Go.Proofs.Ytcgefpklljclgaa.Pure

namespace Go.Proofs.Ytcgefpklljclgaa.Head
/-- the translation's head, sign by sign -/
def signs : List Char := [Char.ofNat 104, Char.ofNat 97, Char.ofNat 114, Char.ofNat 110, Char.ofNat 101, Char.ofNat 115, Char.ofNat 115, Char.ofNat 32, Char.ofNat 101, Char.ofNat 57, Char.ofNat 98, Char.ofNat 52, Char.ofNat 101, Char.ofNat 102, Char.ofNat 52, Char.ofNat 49, Char.ofNat 56, Char.ofNat 50, Char.ofNat 56, Char.ofNat 101, Char.ofNat 102, Char.ofNat 50, Char.ofNat 55, Char.ofNat 102, Char.ofNat 51, Char.ofNat 55, Char.ofNat 102, Char.ofNat 48, Char.ofNat 53, Char.ofNat 54, Char.ofNat 50, Char.ofNat 55, Char.ofNat 56, Char.ofNat 50, Char.ofNat 54, Char.ofNat 101, Char.ofNat 101, Char.ofNat 100, Char.ofNat 101, Char.ofNat 57, Char.ofNat 53, Char.ofNat 99, Char.ofNat 56, Char.ofNat 98, Char.ofNat 55, Char.ofNat 57, Char.ofNat 99, Char.ofNat 100, Char.ofNat 98, Char.ofNat 99, Char.ofNat 52, Char.ofNat 99, Char.ofNat 49, Char.ofNat 100, Char.ofNat 54, Char.ofNat 49, Char.ofNat 98, Char.ofNat 101, Char.ofNat 98, Char.ofNat 55, Char.ofNat 57, Char.ofNat 55, Char.ofNat 52, Char.ofNat 102, Char.ofNat 49, Char.ofNat 51, Char.ofNat 53, Char.ofNat 99, Char.ofNat 97, Char.ofNat 49, Char.ofNat 48, Char.ofNat 51, Char.ofNat 32, Char.ofNat 99, Char.ofNat 117, Char.ofNat 116, Char.ofNat 32, Char.ofNat 97, Char.ofNat 116, Char.ofNat 32, Char.ofNat 100, Char.ofNat 111, Char.ofNat 111, Char.ofNat 114, Char.ofNat 107, Char.ofNat 101, Char.ofNat 101, Char.ofNat 112, Char.ofNat 101, Char.ofNat 114, Char.ofNat 47, Char.ofNat 100, Char.ofNat 111, Char.ofNat 111, Char.ofNat 114, Char.ofNat 107, Char.ofNat 101, Char.ofNat 101, Char.ofNat 112, Char.ofNat 101, Char.ofNat 114, Char.ofNat 108, Char.ofNat 97, Char.ofNat 119, Char.ofNat 49, Char.ofNat 51, Char.ofNat 46, Char.ofNat 82, Char.ofNat 111, Char.ofNat 111, Char.ofNat 109, Char.ofNat 85, Char.ofNat 112, Char.ofNat 32, Char.ofNat 100, Char.ofNat 111, Char.ofNat 111, Char.ofNat 114, Char.ofNat 107, Char.ofNat 101, Char.ofNat 101, Char.ofNat 112, Char.ofNat 101, Char.ofNat 114, Char.ofNat 47, Char.ofNat 100, Char.ofNat 111, Char.ofNat 111, Char.ofNat 114, Char.ofNat 107, Char.ofNat 101, Char.ofNat 101, Char.ofNat 112, Char.ofNat 101, Char.ofNat 114, Char.ofNat 108, Char.ofNat 97, Char.ofNat 119, Char.ofNat 49, Char.ofNat 55, Char.ofNat 46, Char.ofNat 68, Char.ofNat 114, Char.ofNat 105, Char.ofNat 102, Char.ofNat 116, Char.ofNat 65, Char.ofNat 108, Char.ofNat 108, Char.ofNat 32, Char.ofNat 100, Char.ofNat 111, Char.ofNat 111, Char.ofNat 114, Char.ofNat 107, Char.ofNat 101, Char.ofNat 101, Char.ofNat 112, Char.ofNat 101, Char.ofNat 114, Char.ofNat 47, Char.ofNat 100, Char.ofNat 111, Char.ofNat 111, Char.ofNat 114, Char.ofNat 107, Char.ofNat 101, Char.ofNat 101, Char.ofNat 112, Char.ofNat 101, Char.ofNat 114, Char.ofNat 108, Char.ofNat 97, Char.ofNat 119, Char.ofNat 49, Char.ofNat 55, Char.ofNat 46, Char.ofNat 68, Char.ofNat 114, Char.ofNat 105, Char.ofNat 102, Char.ofNat 116, Char.ofNat 84, Char.ofNat 101, Char.ofNat 108, Char.ofNat 108, Char.ofNat 115, Char.ofNat 32, Char.ofNat 100, Char.ofNat 111, Char.ofNat 111, Char.ofNat 114, Char.ofNat 107, Char.ofNat 101, Char.ofNat 101, Char.ofNat 112, Char.ofNat 101, Char.ofNat 114, Char.ofNat 47, Char.ofNat 100, Char.ofNat 111, Char.ofNat 111, Char.ofNat 114, Char.ofNat 107, Char.ofNat 101, Char.ofNat 101, Char.ofNat 112, Char.ofNat 101, Char.ofNat 114, Char.ofNat 108, Char.ofNat 97, Char.ofNat 119, Char.ofNat 50, Char.ofNat 48, Char.ofNat 46, Char.ofNat 69, Char.ofNat 102, Char.ofNat 102, Char.ofNat 101, Char.ofNat 99, Char.ofNat 116, Char.ofNat 65, Char.ofNat 108, Char.ofNat 108, Char.ofNat 32, Char.ofNat 100, Char.ofNat 111, Char.ofNat 111, Char.ofNat 114, Char.ofNat 107, Char.ofNat 101, Char.ofNat 101, Char.ofNat 112, Char.ofNat 101, Char.ofNat 114, Char.ofNat 47, Char.ofNat 100, Char.ofNat 111, Char.ofNat 111, Char.ofNat 114, Char.ofNat 107, Char.ofNat 101, Char.ofNat 101, Char.ofNat 112, Char.ofNat 101, Char.ofNat 114, Char.ofNat 108, Char.ofNat 97, Char.ofNat 119, Char.ofNat 50, Char.ofNat 48, Char.ofNat 46, Char.ofNat 69, Char.ofNat 102, Char.ofNat 102, Char.ofNat 101, Char.ofNat 99, Char.ofNat 116, Char.ofNat 77, Char.ofNat 97, Char.ofNat 100, Char.ofNat 101, Char.ofNat 32, Char.ofNat 100, Char.ofNat 111, Char.ofNat 111, Char.ofNat 114, Char.ofNat 107, Char.ofNat 101, Char.ofNat 101, Char.ofNat 112, Char.ofNat 101, Char.ofNat 114, Char.ofNat 47, Char.ofNat 100, Char.ofNat 111, Char.ofNat 111, Char.ofNat 114, Char.ofNat 107, Char.ofNat 101, Char.ofNat 101, Char.ofNat 112, Char.ofNat 101, Char.ofNat 114, Char.ofNat 108, Char.ofNat 97, Char.ofNat 119, Char.ofNat 50, Char.ofNat 48, Char.ofNat 46, Char.ofNat 69, Char.ofNat 102, Char.ofNat 102, Char.ofNat 101, Char.ofNat 99, Char.ofNat 116, Char.ofNat 68, Char.ofNat 111, Char.ofNat 110, Char.ofNat 101, Char.ofNat 32, Char.ofNat 100, Char.ofNat 111, Char.ofNat 111, Char.ofNat 114, Char.ofNat 107, Char.ofNat 101, Char.ofNat 101, Char.ofNat 112, Char.ofNat 101, Char.ofNat 114, Char.ofNat 47, Char.ofNat 100, Char.ofNat 111, Char.ofNat 111, Char.ofNat 114, Char.ofNat 107, Char.ofNat 101, Char.ofNat 101, Char.ofNat 112, Char.ofNat 101, Char.ofNat 114, Char.ofNat 108, Char.ofNat 97, Char.ofNat 119, Char.ofNat 49, Char.ofNat 52, Char.ofNat 46, Char.ofNat 65, Char.ofNat 100, Char.ofNat 109, Char.ofNat 105, Char.ofNat 116, Char.ofNat 84, Char.ofNat 119, Char.ofNat 105, Char.ofNat 99, Char.ofNat 101, Char.ofNat 32, Char.ofNat 100, Char.ofNat 111, Char.ofNat 111, Char.ofNat 114, Char.ofNat 107, Char.ofNat 101, Char.ofNat 101, Char.ofNat 112, Char.ofNat 101, Char.ofNat 114, Char.ofNat 47, Char.ofNat 100, Char.ofNat 111, Char.ofNat 111, Char.ofNat 114, Char.ofNat 107, Char.ofNat 101, Char.ofNat 101, Char.ofNat 112, Char.ofNat 101, Char.ofNat 114, Char.ofNat 108, Char.ofNat 97, Char.ofNat 119, Char.ofNat 49, Char.ofNat 51, Char.ofNat 46, Char.ofNat 82, Char.ofNat 111, Char.ofNat 111, Char.ofNat 109, Char.ofNat 70, Char.ofNat 105, Char.ofNat 116, Char.ofNat 115, Char.ofNat 32, Char.ofNat 100, Char.ofNat 111, Char.ofNat 111, Char.ofNat 114, Char.ofNat 107, Char.ofNat 101, Char.ofNat 101, Char.ofNat 112, Char.ofNat 101, Char.ofNat 114, Char.ofNat 47, Char.ofNat 100, Char.ofNat 111, Char.ofNat 111, Char.ofNat 114, Char.ofNat 107, Char.ofNat 101, Char.ofNat 101, Char.ofNat 112, Char.ofNat 101, Char.ofNat 114, Char.ofNat 108, Char.ofNat 97, Char.ofNat 119, Char.ofNat 49, Char.ofNat 50, Char.ofNat 46, Char.ofNat 84, Char.ofNat 114, Char.ofNat 101, Char.ofNat 101, Char.ofNat 65, Char.ofNat 108, Char.ofNat 108, Char.ofNat 32, Char.ofNat 100, Char.ofNat 111, Char.ofNat 111, Char.ofNat 114, Char.ofNat 107, Char.ofNat 101, Char.ofNat 101, Char.ofNat 112, Char.ofNat 101, Char.ofNat 114, Char.ofNat 47, Char.ofNat 100, Char.ofNat 111, Char.ofNat 111, Char.ofNat 114, Char.ofNat 107, Char.ofNat 101, Char.ofNat 101, Char.ofNat 112, Char.ofNat 101, Char.ofNat 114, Char.ofNat 108, Char.ofNat 97, Char.ofNat 119, Char.ofNat 49, Char.ofNat 50, Char.ofNat 46, Char.ofNat 84, Char.ofNat 114, Char.ofNat 101, Char.ofNat 101, Char.ofNat 77, Char.ofNat 97, Char.ofNat 100, Char.ofNat 101, Char.ofNat 32, Char.ofNat 100, Char.ofNat 111, Char.ofNat 111, Char.ofNat 114, Char.ofNat 107, Char.ofNat 101, Char.ofNat 101, Char.ofNat 112, Char.ofNat 101, Char.ofNat 114, Char.ofNat 47, Char.ofNat 100, Char.ofNat 111, Char.ofNat 111, Char.ofNat 114, Char.ofNat 107, Char.ofNat 101, Char.ofNat 101, Char.ofNat 112, Char.ofNat 101, Char.ofNat 114, Char.ofNat 108, Char.ofNat 97, Char.ofNat 119, Char.ofNat 49, Char.ofNat 50, Char.ofNat 46, Char.ofNat 84, Char.ofNat 114, Char.ofNat 101, Char.ofNat 101, Char.ofNat 83, Char.ofNat 117, Char.ofNat 109, Char.ofNat 115, Char.ofNat 32, Char.ofNat 100, Char.ofNat 111, Char.ofNat 111, Char.ofNat 114, Char.ofNat 107, Char.ofNat 101, Char.ofNat 101, Char.ofNat 112, Char.ofNat 101, Char.ofNat 114, Char.ofNat 47, Char.ofNat 100, Char.ofNat 111, Char.ofNat 111, Char.ofNat 114, Char.ofNat 107, Char.ofNat 101, Char.ofNat 101, Char.ofNat 112, Char.ofNat 101, Char.ofNat 114, Char.ofNat 108, Char.ofNat 97, Char.ofNat 119, Char.ofNat 49, Char.ofNat 50, Char.ofNat 46, Char.ofNat 84, Char.ofNat 114, Char.ofNat 101, Char.ofNat 101, Char.ofNat 66, Char.ofNat 101, Char.ofNat 108, Char.ofNat 111, Char.ofNat 119, Char.ofNat 32, Char.ofNat 100, Char.ofNat 111, Char.ofNat 111, Char.ofNat 114, Char.ofNat 107, Char.ofNat 101, Char.ofNat 101, Char.ofNat 112, Char.ofNat 101, Char.ofNat 114, Char.ofNat 47, Char.ofNat 100, Char.ofNat 111, Char.ofNat 111, Char.ofNat 114, Char.ofNat 107, Char.ofNat 101, Char.ofNat 101, Char.ofNat 112, Char.ofNat 101, Char.ofNat 114, Char.ofNat 108, Char.ofNat 97, Char.ofNat 119, Char.ofNat 49, Char.ofNat 51, Char.ofNat 46, Char.ofNat 82, Char.ofNat 111, Char.ofNat 111, Char.ofNat 109, Char.ofNat 83, Char.ofNat 104, Char.ofNat 97, Char.ofNat 114, Char.ofNat 101, Char.ofNat 115, Char.ofNat 32, Char.ofNat 100, Char.ofNat 111, Char.ofNat 111, Char.ofNat 114, Char.ofNat 107, Char.ofNat 101, Char.ofNat 101, Char.ofNat 112, Char.ofNat 101, Char.ofNat 114, Char.ofNat 47, Char.ofNat 100, Char.ofNat 111, Char.ofNat 111, Char.ofNat 114, Char.ofNat 107, Char.ofNat 101, Char.ofNat 101, Char.ofNat 112, Char.ofNat 101, Char.ofNat 114, Char.ofNat 108, Char.ofNat 97, Char.ofNat 119, Char.ofNat 49, Char.ofNat 52, Char.ofNat 46, Char.ofNat 65, Char.ofNat 100, Char.ofNat 109, Char.ofNat 105, Char.ofNat 116, Char.ofNat 65, Char.ofNat 108, Char.ofNat 108, Char.ofNat 32, Char.ofNat 100, Char.ofNat 111, Char.ofNat 111, Char.ofNat 114, Char.ofNat 107, Char.ofNat 101, Char.ofNat 101, Char.ofNat 112, Char.ofNat 101, Char.ofNat 114, Char.ofNat 47, Char.ofNat 100, Char.ofNat 111, Char.ofNat 111, Char.ofNat 114, Char.ofNat 107, Char.ofNat 101, Char.ofNat 101, Char.ofNat 112, Char.ofNat 101, Char.ofNat 114, Char.ofNat 108, Char.ofNat 97, Char.ofNat 119, Char.ofNat 49, Char.ofNat 52, Char.ofNat 46, Char.ofNat 65, Char.ofNat 100, Char.ofNat 109, Char.ofNat 105, Char.ofNat 116, Char.ofNat 77, Char.ofNat 97, Char.ofNat 100, Char.ofNat 101, Char.ofNat 32, Char.ofNat 100, Char.ofNat 111, Char.ofNat 111, Char.ofNat 114, Char.ofNat 107, Char.ofNat 101, Char.ofNat 101, Char.ofNat 112, Char.ofNat 101, Char.ofNat 114, Char.ofNat 47, Char.ofNat 100, Char.ofNat 111, Char.ofNat 111, Char.ofNat 114, Char.ofNat 107, Char.ofNat 101, Char.ofNat 101, Char.ofNat 112, Char.ofNat 101, Char.ofNat 114, Char.ofNat 108, Char.ofNat 97, Char.ofNat 119, Char.ofNat 49, Char.ofNat 52, Char.ofNat 46, Char.ofNat 65, Char.ofNat 100, Char.ofNat 109, Char.ofNat 105, Char.ofNat 116, Char.ofNat 82, Char.ofNat 111, Char.ofNat 111, Char.ofNat 109, Char.ofNat 32, Char.ofNat 100, Char.ofNat 111, Char.ofNat 111, Char.ofNat 114, Char.ofNat 107, Char.ofNat 101, Char.ofNat 101, Char.ofNat 112, Char.ofNat 101, Char.ofNat 114, Char.ofNat 47, Char.ofNat 100, Char.ofNat 111, Char.ofNat 111, Char.ofNat 114, Char.ofNat 107, Char.ofNat 101, Char.ofNat 101, Char.ofNat 112, Char.ofNat 101, Char.ofNat 114, Char.ofNat 108, Char.ofNat 97, Char.ofNat 119, Char.ofNat 49, Char.ofNat 51, Char.ofNat 46, Char.ofNat 82, Char.ofNat 111, Char.ofNat 111, Char.ofNat 109, Char.ofNat 65, Char.ofNat 108, Char.ofNat 108, Char.ofNat 32, Char.ofNat 100, Char.ofNat 111, Char.ofNat 111, Char.ofNat 114, Char.ofNat 107, Char.ofNat 101, Char.ofNat 101, Char.ofNat 112, Char.ofNat 101, Char.ofNat 114, Char.ofNat 47, Char.ofNat 100, Char.ofNat 111, Char.ofNat 111, Char.ofNat 114, Char.ofNat 107, Char.ofNat 101, Char.ofNat 101, Char.ofNat 112, Char.ofNat 101, Char.ofNat 114, Char.ofNat 108, Char.ofNat 97, Char.ofNat 119, Char.ofNat 49, Char.ofNat 51, Char.ofNat 46, Char.ofNat 82, Char.ofNat 111, Char.ofNat 111, Char.ofNat 109, Char.ofNat 77, Char.ofNat 97, Char.ofNat 100, Char.ofNat 101, Char.ofNat 32, Char.ofNat 100, Char.ofNat 111, Char.ofNat 111, Char.ofNat 114, Char.ofNat 107, Char.ofNat 101, Char.ofNat 101, Char.ofNat 112, Char.ofNat 101, Char.ofNat 114, Char.ofNat 47, Char.ofNat 100, Char.ofNat 111, Char.ofNat 111, Char.ofNat 114, Char.ofNat 107, Char.ofNat 101, Char.ofNat 101, Char.ofNat 112, Char.ofNat 101, Char.ofNat 114, Char.ofNat 108, Char.ofNat 97, Char.ofNat 119, Char.ofNat 49, Char.ofNat 53, Char.ofNat 46, Char.ofNat 83, Char.ofNat 104, Char.ofNat 97, Char.ofNat 112, Char.ofNat 101, Char.ofNat 77, Char.ofNat 97, Char.ofNat 110, Char.ofNat 121, Char.ofNat 32, Char.ofNat 100, Char.ofNat 111, Char.ofNat 111, Char.ofNat 114, Char.ofNat 107, Char.ofNat 101, Char.ofNat 101, Char.ofNat 112, Char.ofNat 101, Char.ofNat 114, Char.ofNat 47, Char.ofNat 100, Char.ofNat 111, Char.ofNat 111, Char.ofNat 114, Char.ofNat 107, Char.ofNat 101, Char.ofNat 101, Char.ofNat 112, Char.ofNat 101, Char.ofNat 114, Char.ofNat 108, Char.ofNat 97, Char.ofNat 119, Char.ofNat 49, Char.ofNat 53, Char.ofNat 46, Char.ofNat 83, Char.ofNat 104, Char.ofNat 97, Char.ofNat 112, Char.ofNat 101, Char.ofNat 67, Char.ofNat 111, Char.ofNat 109, Char.ofNat 101, Char.ofNat 115, Char.ofNat 32, Char.ofNat 100, Char.ofNat 111, Char.ofNat 111, Char.ofNat 114, Char.ofNat 107, Char.ofNat 101, Char.ofNat 101, Char.ofNat 112, Char.ofNat 101, Char.ofNat 114, Char.ofNat 47, Char.ofNat 100, Char.ofNat 111, Char.ofNat 111, Char.ofNat 114, Char.ofNat 107, Char.ofNat 101, Char.ofNat 101, Char.ofNat 112, Char.ofNat 101, Char.ofNat 114, Char.ofNat 108, Char.ofNat 97, Char.ofNat 119, Char.ofNat 49, Char.ofNat 53, Char.ofNat 46, Char.ofNat 83, Char.ofNat 104, Char.ofNat 97, Char.ofNat 112, Char.ofNat 101, Char.ofNat 76, Char.ofNat 105, Char.ofNat 109, Char.ofNat 105, Char.ofNat 116, Char.ofNat 115, Char.ofNat 32, Char.ofNat 100, Char.ofNat 111, Char.ofNat 111, Char.ofNat 114, Char.ofNat 107, Char.ofNat 101, Char.ofNat 101, Char.ofNat 112, Char.ofNat 101, Char.ofNat 114, Char.ofNat 47, Char.ofNat 100, Char.ofNat 111, Char.ofNat 111, Char.ofNat 114, Char.ofNat 107, Char.ofNat 101, Char.ofNat 101, Char.ofNat 112, Char.ofNat 101, Char.ofNat 114, Char.ofNat 108, Char.ofNat 97, Char.ofNat 119, Char.ofNat 49, Char.ofNat 53, Char.ofNat 46, Char.ofNat 83, Char.ofNat 104, Char.ofNat 97, Char.ofNat 112, Char.ofNat 101, Char.ofNat 77, Char.ofNat 111, Char.ofNat 118, Char.ofNat 101, Char.ofNat 115, Char.ofNat 32, Char.ofNat 100, Char.ofNat 111, Char.ofNat 111, Char.ofNat 114, Char.ofNat 107, Char.ofNat 101, Char.ofNat 101, Char.ofNat 112, Char.ofNat 101, Char.ofNat 114, Char.ofNat 47, Char.ofNat 100, Char.ofNat 111, Char.ofNat 111, Char.ofNat 114, Char.ofNat 107, Char.ofNat 101, Char.ofNat 101, Char.ofNat 112, Char.ofNat 101, Char.ofNat 114, Char.ofNat 108, Char.ofNat 97, Char.ofNat 119, Char.ofNat 49, Char.ofNat 53, Char.ofNat 46, Char.ofNat 83, Char.ofNat 104, Char.ofNat 97, Char.ofNat 112, Char.ofNat 101, Char.ofNat 65, Char.ofNat 108, Char.ofNat 108, Char.ofNat 32, Char.ofNat 100, Char.ofNat 111, Char.ofNat 111, Char.ofNat 114, Char.ofNat 107, Char.ofNat 101, Char.ofNat 101, Char.ofNat 112, Char.ofNat 101, Char.ofNat 114, Char.ofNat 47, Char.ofNat 100, Char.ofNat 111, Char.ofNat 111, Char.ofNat 114, Char.ofNat 107, Char.ofNat 101, Char.ofNat 101, Char.ofNat 112, Char.ofNat 101, Char.ofNat 114, Char.ofNat 108, Char.ofNat 97, Char.ofNat 119, Char.ofNat 49, Char.ofNat 53, Char.ofNat 46, Char.ofNat 83, Char.ofNat 104, Char.ofNat 97, Char.ofNat 112, Char.ofNat 101, Char.ofNat 77, Char.ofNat 97, Char.ofNat 100, Char.ofNat 101, Char.ofNat 32, Char.ofNat 100, Char.ofNat 111, Char.ofNat 111, Char.ofNat 114, Char.ofNat 107, Char.ofNat 101, Char.ofNat 101, Char.ofNat 112, Char.ofNat 101, Char.ofNat 114, Char.ofNat 47, Char.ofNat 100, Char.ofNat 111, Char.ofNat 111, Char.ofNat 114, Char.ofNat 107, Char.ofNat 101, Char.ofNat 101, Char.ofNat 112, Char.ofNat 101, Char.ofNat 114, Char.ofNat 108, Char.ofNat 97, Char.ofNat 119, Char.ofNat 49, Char.ofNat 53, Char.ofNat 46, Char.ofNat 83, Char.ofNat 104, Char.ofNat 97, Char.ofNat 112, Char.ofNat 101, Char.ofNat 82, Char.ofNat 101, Char.ofNat 115, Char.ofNat 116, Char.ofNat 32, Char.ofNat 100, Char.ofNat 111, Char.ofNat 111, Char.ofNat 114, Char.ofNat 107, Char.ofNat 101, Char.ofNat 101, Char.ofNat 112, Char.ofNat 101, Char.ofNat 114, Char.ofNat 47, Char.ofNat 100, Char.ofNat 111, Char.ofNat 111, Char.ofNat 114, Char.ofNat 107, Char.ofNat 101, Char.ofNat 101, Char.ofNat 112, Char.ofNat 101, Char.ofNat 114, Char.ofNat 108, Char.ofNat 97, Char.ofNat 119, Char.ofNat 49, Char.ofNat 57, Char.ofNat 46, Char.ofNat 84, Char.ofNat 114, Char.ofNat 105, Char.ofNat 97, Char.ofNat 108, Char.ofNat 67, Char.ofNat 117, Char.ofNat 116, Char.ofNat 115, Char.ofNat 32, Char.ofNat 100, Char.ofNat 111, Char.ofNat 111, Char.ofNat 114, Char.ofNat 107, Char.ofNat 101, Char.ofNat 101, Char.ofNat 112, Char.ofNat 101, Char.ofNat 114, Char.ofNat 47, Char.ofNat 100, Char.ofNat 111, Char.ofNat 111, Char.ofNat 114, Char.ofNat 107, Char.ofNat 101, Char.ofNat 101, Char.ofNat 112, Char.ofNat 101, Char.ofNat 114, Char.ofNat 108, Char.ofNat 97, Char.ofNat 119, Char.ofNat 49, Char.ofNat 57, Char.ofNat 46, Char.ofNat 84, Char.ofNat 114, Char.ofNat 105, Char.ofNat 97, Char.ofNat 108, Char.ofNat 65, Char.ofNat 108, Char.ofNat 108, Char.ofNat 32, Char.ofNat 100, Char.ofNat 111, Char.ofNat 111, Char.ofNat 114, Char.ofNat 107, Char.ofNat 101, Char.ofNat 101, Char.ofNat 112, Char.ofNat 101, Char.ofNat 114, Char.ofNat 47, Char.ofNat 100, Char.ofNat 111, Char.ofNat 111, Char.ofNat 114, Char.ofNat 107, Char.ofNat 101, Char.ofNat 101, Char.ofNat 112, Char.ofNat 101, Char.ofNat 114, Char.ofNat 108, Char.ofNat 97, Char.ofNat 119, Char.ofNat 49, Char.ofNat 57, Char.ofNat 46, Char.ofNat 84, Char.ofNat 114, Char.ofNat 105, Char.ofNat 97, Char.ofNat 108, Char.ofNat 77, Char.ofNat 97, Char.ofNat 100, Char.ofNat 101]
set_option maxRecDepth 100000 in
theorem word : Try.prog.initOrder = String.ofList signs := by kernel_rfl
theorem list : Try.prog.initOrder.toList = signs := by rw [word, String.toList_ofList]
theorem words_app : ∀ (w r : List Char), (∀ c ∈ w, c ≠ Char.ofNat 32) → wordsSigns (w ++ Char.ofNat 32 :: r) = w :: wordsSigns r
  | [], r, _ => rfl
  | c :: w, r, h => by
    have hc : c ≠ Char.ofNat 32 := h c (by simp)
    have ih := words_app w r (fun d hd => h d (by simp [hd]))
    show wordsSigns (c :: (w ++ Char.ofNat 32 :: r)) = _
    rw [wordsSigns.eq_3 _ _ (fun q => hc q), ih]
def w1 : List Char := [Char.ofNat 104, Char.ofNat 97, Char.ofNat 114, Char.ofNat 110, Char.ofNat 101, Char.ofNat 115, Char.ofNat 115]
def w2 : List Char := [Char.ofNat 101, Char.ofNat 57, Char.ofNat 98, Char.ofNat 52, Char.ofNat 101, Char.ofNat 102, Char.ofNat 52, Char.ofNat 49, Char.ofNat 56, Char.ofNat 50, Char.ofNat 56, Char.ofNat 101, Char.ofNat 102, Char.ofNat 50, Char.ofNat 55, Char.ofNat 102, Char.ofNat 51, Char.ofNat 55, Char.ofNat 102, Char.ofNat 48, Char.ofNat 53, Char.ofNat 54, Char.ofNat 50, Char.ofNat 55, Char.ofNat 56, Char.ofNat 50, Char.ofNat 54, Char.ofNat 101, Char.ofNat 101, Char.ofNat 100, Char.ofNat 101, Char.ofNat 57, Char.ofNat 53, Char.ofNat 99, Char.ofNat 56, Char.ofNat 98, Char.ofNat 55, Char.ofNat 57, Char.ofNat 99, Char.ofNat 100, Char.ofNat 98, Char.ofNat 99, Char.ofNat 52, Char.ofNat 99, Char.ofNat 49, Char.ofNat 100, Char.ofNat 54, Char.ofNat 49, Char.ofNat 98, Char.ofNat 101, Char.ofNat 98, Char.ofNat 55, Char.ofNat 57, Char.ofNat 55, Char.ofNat 52, Char.ofNat 102, Char.ofNat 49, Char.ofNat 51, Char.ofNat 53, Char.ofNat 99, Char.ofNat 97, Char.ofNat 49, Char.ofNat 48, Char.ofNat 51]
def w3 : List Char := [Char.ofNat 99, Char.ofNat 117, Char.ofNat 116]
def rest : List Char := [Char.ofNat 97, Char.ofNat 116, Char.ofNat 32, Char.ofNat 100, Char.ofNat 111, Char.ofNat 111, Char.ofNat 114, Char.ofNat 107, Char.ofNat 101, Char.ofNat 101, Char.ofNat 112, Char.ofNat 101, Char.ofNat 114, Char.ofNat 47, Char.ofNat 100, Char.ofNat 111, Char.ofNat 111, Char.ofNat 114, Char.ofNat 107, Char.ofNat 101, Char.ofNat 101, Char.ofNat 112, Char.ofNat 101, Char.ofNat 114, Char.ofNat 108, Char.ofNat 97, Char.ofNat 119, Char.ofNat 49, Char.ofNat 51, Char.ofNat 46, Char.ofNat 82, Char.ofNat 111, Char.ofNat 111, Char.ofNat 109, Char.ofNat 85, Char.ofNat 112, Char.ofNat 32, Char.ofNat 100, Char.ofNat 111, Char.ofNat 111, Char.ofNat 114, Char.ofNat 107, Char.ofNat 101, Char.ofNat 101, Char.ofNat 112, Char.ofNat 101, Char.ofNat 114, Char.ofNat 47, Char.ofNat 100, Char.ofNat 111, Char.ofNat 111, Char.ofNat 114, Char.ofNat 107, Char.ofNat 101, Char.ofNat 101, Char.ofNat 112, Char.ofNat 101, Char.ofNat 114, Char.ofNat 108, Char.ofNat 97, Char.ofNat 119, Char.ofNat 49, Char.ofNat 55, Char.ofNat 46, Char.ofNat 68, Char.ofNat 114, Char.ofNat 105, Char.ofNat 102, Char.ofNat 116, Char.ofNat 65, Char.ofNat 108, Char.ofNat 108, Char.ofNat 32, Char.ofNat 100, Char.ofNat 111, Char.ofNat 111, Char.ofNat 114, Char.ofNat 107, Char.ofNat 101, Char.ofNat 101, Char.ofNat 112, Char.ofNat 101, Char.ofNat 114, Char.ofNat 47, Char.ofNat 100, Char.ofNat 111, Char.ofNat 111, Char.ofNat 114, Char.ofNat 107, Char.ofNat 101, Char.ofNat 101, Char.ofNat 112, Char.ofNat 101, Char.ofNat 114, Char.ofNat 108, Char.ofNat 97, Char.ofNat 119, Char.ofNat 49, Char.ofNat 55, Char.ofNat 46, Char.ofNat 68, Char.ofNat 114, Char.ofNat 105, Char.ofNat 102, Char.ofNat 116, Char.ofNat 84, Char.ofNat 101, Char.ofNat 108, Char.ofNat 108, Char.ofNat 115, Char.ofNat 32, Char.ofNat 100, Char.ofNat 111, Char.ofNat 111, Char.ofNat 114, Char.ofNat 107, Char.ofNat 101, Char.ofNat 101, Char.ofNat 112, Char.ofNat 101, Char.ofNat 114, Char.ofNat 47, Char.ofNat 100, Char.ofNat 111, Char.ofNat 111, Char.ofNat 114, Char.ofNat 107, Char.ofNat 101, Char.ofNat 101, Char.ofNat 112, Char.ofNat 101, Char.ofNat 114, Char.ofNat 108, Char.ofNat 97, Char.ofNat 119, Char.ofNat 50, Char.ofNat 48, Char.ofNat 46, Char.ofNat 69, Char.ofNat 102, Char.ofNat 102, Char.ofNat 101, Char.ofNat 99, Char.ofNat 116, Char.ofNat 65, Char.ofNat 108, Char.ofNat 108, Char.ofNat 32, Char.ofNat 100, Char.ofNat 111, Char.ofNat 111, Char.ofNat 114, Char.ofNat 107, Char.ofNat 101, Char.ofNat 101, Char.ofNat 112, Char.ofNat 101, Char.ofNat 114, Char.ofNat 47, Char.ofNat 100, Char.ofNat 111, Char.ofNat 111, Char.ofNat 114, Char.ofNat 107, Char.ofNat 101, Char.ofNat 101, Char.ofNat 112, Char.ofNat 101, Char.ofNat 114, Char.ofNat 108, Char.ofNat 97, Char.ofNat 119, Char.ofNat 50, Char.ofNat 48, Char.ofNat 46, Char.ofNat 69, Char.ofNat 102, Char.ofNat 102, Char.ofNat 101, Char.ofNat 99, Char.ofNat 116, Char.ofNat 77, Char.ofNat 97, Char.ofNat 100, Char.ofNat 101, Char.ofNat 32, Char.ofNat 100, Char.ofNat 111, Char.ofNat 111, Char.ofNat 114, Char.ofNat 107, Char.ofNat 101, Char.ofNat 101, Char.ofNat 112, Char.ofNat 101, Char.ofNat 114, Char.ofNat 47, Char.ofNat 100, Char.ofNat 111, Char.ofNat 111, Char.ofNat 114, Char.ofNat 107, Char.ofNat 101, Char.ofNat 101, Char.ofNat 112, Char.ofNat 101, Char.ofNat 114, Char.ofNat 108, Char.ofNat 97, Char.ofNat 119, Char.ofNat 50, Char.ofNat 48, Char.ofNat 46, Char.ofNat 69, Char.ofNat 102, Char.ofNat 102, Char.ofNat 101, Char.ofNat 99, Char.ofNat 116, Char.ofNat 68, Char.ofNat 111, Char.ofNat 110, Char.ofNat 101, Char.ofNat 32, Char.ofNat 100, Char.ofNat 111, Char.ofNat 111, Char.ofNat 114, Char.ofNat 107, Char.ofNat 101, Char.ofNat 101, Char.ofNat 112, Char.ofNat 101, Char.ofNat 114, Char.ofNat 47, Char.ofNat 100, Char.ofNat 111, Char.ofNat 111, Char.ofNat 114, Char.ofNat 107, Char.ofNat 101, Char.ofNat 101, Char.ofNat 112, Char.ofNat 101, Char.ofNat 114, Char.ofNat 108, Char.ofNat 97, Char.ofNat 119, Char.ofNat 49, Char.ofNat 52, Char.ofNat 46, Char.ofNat 65, Char.ofNat 100, Char.ofNat 109, Char.ofNat 105, Char.ofNat 116, Char.ofNat 84, Char.ofNat 119, Char.ofNat 105, Char.ofNat 99, Char.ofNat 101, Char.ofNat 32, Char.ofNat 100, Char.ofNat 111, Char.ofNat 111, Char.ofNat 114, Char.ofNat 107, Char.ofNat 101, Char.ofNat 101, Char.ofNat 112, Char.ofNat 101, Char.ofNat 114, Char.ofNat 47, Char.ofNat 100, Char.ofNat 111, Char.ofNat 111, Char.ofNat 114, Char.ofNat 107, Char.ofNat 101, Char.ofNat 101, Char.ofNat 112, Char.ofNat 101, Char.ofNat 114, Char.ofNat 108, Char.ofNat 97, Char.ofNat 119, Char.ofNat 49, Char.ofNat 51, Char.ofNat 46, Char.ofNat 82, Char.ofNat 111, Char.ofNat 111, Char.ofNat 109, Char.ofNat 70, Char.ofNat 105, Char.ofNat 116, Char.ofNat 115, Char.ofNat 32, Char.ofNat 100, Char.ofNat 111, Char.ofNat 111, Char.ofNat 114, Char.ofNat 107, Char.ofNat 101, Char.ofNat 101, Char.ofNat 112, Char.ofNat 101, Char.ofNat 114, Char.ofNat 47, Char.ofNat 100, Char.ofNat 111, Char.ofNat 111, Char.ofNat 114, Char.ofNat 107, Char.ofNat 101, Char.ofNat 101, Char.ofNat 112, Char.ofNat 101, Char.ofNat 114, Char.ofNat 108, Char.ofNat 97, Char.ofNat 119, Char.ofNat 49, Char.ofNat 50, Char.ofNat 46, Char.ofNat 84, Char.ofNat 114, Char.ofNat 101, Char.ofNat 101, Char.ofNat 65, Char.ofNat 108, Char.ofNat 108, Char.ofNat 32, Char.ofNat 100, Char.ofNat 111, Char.ofNat 111, Char.ofNat 114, Char.ofNat 107, Char.ofNat 101, Char.ofNat 101, Char.ofNat 112, Char.ofNat 101, Char.ofNat 114, Char.ofNat 47, Char.ofNat 100, Char.ofNat 111, Char.ofNat 111, Char.ofNat 114, Char.ofNat 107, Char.ofNat 101, Char.ofNat 101, Char.ofNat 112, Char.ofNat 101, Char.ofNat 114, Char.ofNat 108, Char.ofNat 97, Char.ofNat 119, Char.ofNat 49, Char.ofNat 50, Char.ofNat 46, Char.ofNat 84, Char.ofNat 114, Char.ofNat 101, Char.ofNat 101, Char.ofNat 77, Char.ofNat 97, Char.ofNat 100, Char.ofNat 101, Char.ofNat 32, Char.ofNat 100, Char.ofNat 111, Char.ofNat 111, Char.ofNat 114, Char.ofNat 107, Char.ofNat 101, Char.ofNat 101, Char.ofNat 112, Char.ofNat 101, Char.ofNat 114, Char.ofNat 47, Char.ofNat 100, Char.ofNat 111, Char.ofNat 111, Char.ofNat 114, Char.ofNat 107, Char.ofNat 101, Char.ofNat 101, Char.ofNat 112, Char.ofNat 101, Char.ofNat 114, Char.ofNat 108, Char.ofNat 97, Char.ofNat 119, Char.ofNat 49, Char.ofNat 50, Char.ofNat 46, Char.ofNat 84, Char.ofNat 114, Char.ofNat 101, Char.ofNat 101, Char.ofNat 83, Char.ofNat 117, Char.ofNat 109, Char.ofNat 115, Char.ofNat 32, Char.ofNat 100, Char.ofNat 111, Char.ofNat 111, Char.ofNat 114, Char.ofNat 107, Char.ofNat 101, Char.ofNat 101, Char.ofNat 112, Char.ofNat 101, Char.ofNat 114, Char.ofNat 47, Char.ofNat 100, Char.ofNat 111, Char.ofNat 111, Char.ofNat 114, Char.ofNat 107, Char.ofNat 101, Char.ofNat 101, Char.ofNat 112, Char.ofNat 101, Char.ofNat 114, Char.ofNat 108, Char.ofNat 97, Char.ofNat 119, Char.ofNat 49, Char.ofNat 50, Char.ofNat 46, Char.ofNat 84, Char.ofNat 114, Char.ofNat 101, Char.ofNat 101, Char.ofNat 66, Char.ofNat 101, Char.ofNat 108, Char.ofNat 111, Char.ofNat 119, Char.ofNat 32, Char.ofNat 100, Char.ofNat 111, Char.ofNat 111, Char.ofNat 114, Char.ofNat 107, Char.ofNat 101, Char.ofNat 101, Char.ofNat 112, Char.ofNat 101, Char.ofNat 114, Char.ofNat 47, Char.ofNat 100, Char.ofNat 111, Char.ofNat 111, Char.ofNat 114, Char.ofNat 107, Char.ofNat 101, Char.ofNat 101, Char.ofNat 112, Char.ofNat 101, Char.ofNat 114, Char.ofNat 108, Char.ofNat 97, Char.ofNat 119, Char.ofNat 49, Char.ofNat 51, Char.ofNat 46, Char.ofNat 82, Char.ofNat 111, Char.ofNat 111, Char.ofNat 109, Char.ofNat 83, Char.ofNat 104, Char.ofNat 97, Char.ofNat 114, Char.ofNat 101, Char.ofNat 115, Char.ofNat 32, Char.ofNat 100, Char.ofNat 111, Char.ofNat 111, Char.ofNat 114, Char.ofNat 107, Char.ofNat 101, Char.ofNat 101, Char.ofNat 112, Char.ofNat 101, Char.ofNat 114, Char.ofNat 47, Char.ofNat 100, Char.ofNat 111, Char.ofNat 111, Char.ofNat 114, Char.ofNat 107, Char.ofNat 101, Char.ofNat 101, Char.ofNat 112, Char.ofNat 101, Char.ofNat 114, Char.ofNat 108, Char.ofNat 97, Char.ofNat 119, Char.ofNat 49, Char.ofNat 52, Char.ofNat 46, Char.ofNat 65, Char.ofNat 100, Char.ofNat 109, Char.ofNat 105, Char.ofNat 116, Char.ofNat 65, Char.ofNat 108, Char.ofNat 108, Char.ofNat 32, Char.ofNat 100, Char.ofNat 111, Char.ofNat 111, Char.ofNat 114, Char.ofNat 107, Char.ofNat 101, Char.ofNat 101, Char.ofNat 112, Char.ofNat 101, Char.ofNat 114, Char.ofNat 47, Char.ofNat 100, Char.ofNat 111, Char.ofNat 111, Char.ofNat 114, Char.ofNat 107, Char.ofNat 101, Char.ofNat 101, Char.ofNat 112, Char.ofNat 101, Char.ofNat 114, Char.ofNat 108, Char.ofNat 97, Char.ofNat 119, Char.ofNat 49, Char.ofNat 52, Char.ofNat 46, Char.ofNat 65, Char.ofNat 100, Char.ofNat 109, Char.ofNat 105, Char.ofNat 116, Char.ofNat 77, Char.ofNat 97, Char.ofNat 100, Char.ofNat 101, Char.ofNat 32, Char.ofNat 100, Char.ofNat 111, Char.ofNat 111, Char.ofNat 114, Char.ofNat 107, Char.ofNat 101, Char.ofNat 101, Char.ofNat 112, Char.ofNat 101, Char.ofNat 114, Char.ofNat 47, Char.ofNat 100, Char.ofNat 111, Char.ofNat 111, Char.ofNat 114, Char.ofNat 107, Char.ofNat 101, Char.ofNat 101, Char.ofNat 112, Char.ofNat 101, Char.ofNat 114, Char.ofNat 108, Char.ofNat 97, Char.ofNat 119, Char.ofNat 49, Char.ofNat 52, Char.ofNat 46, Char.ofNat 65, Char.ofNat 100, Char.ofNat 109, Char.ofNat 105, Char.ofNat 116, Char.ofNat 82, Char.ofNat 111, Char.ofNat 111, Char.ofNat 109, Char.ofNat 32, Char.ofNat 100, Char.ofNat 111, Char.ofNat 111, Char.ofNat 114, Char.ofNat 107, Char.ofNat 101, Char.ofNat 101, Char.ofNat 112, Char.ofNat 101, Char.ofNat 114, Char.ofNat 47, Char.ofNat 100, Char.ofNat 111, Char.ofNat 111, Char.ofNat 114, Char.ofNat 107, Char.ofNat 101, Char.ofNat 101, Char.ofNat 112, Char.ofNat 101, Char.ofNat 114, Char.ofNat 108, Char.ofNat 97, Char.ofNat 119, Char.ofNat 49, Char.ofNat 51, Char.ofNat 46, Char.ofNat 82, Char.ofNat 111, Char.ofNat 111, Char.ofNat 109, Char.ofNat 65, Char.ofNat 108, Char.ofNat 108, Char.ofNat 32, Char.ofNat 100, Char.ofNat 111, Char.ofNat 111, Char.ofNat 114, Char.ofNat 107, Char.ofNat 101, Char.ofNat 101, Char.ofNat 112, Char.ofNat 101, Char.ofNat 114, Char.ofNat 47, Char.ofNat 100, Char.ofNat 111, Char.ofNat 111, Char.ofNat 114, Char.ofNat 107, Char.ofNat 101, Char.ofNat 101, Char.ofNat 112, Char.ofNat 101, Char.ofNat 114, Char.ofNat 108, Char.ofNat 97, Char.ofNat 119, Char.ofNat 49, Char.ofNat 51, Char.ofNat 46, Char.ofNat 82, Char.ofNat 111, Char.ofNat 111, Char.ofNat 109, Char.ofNat 77, Char.ofNat 97, Char.ofNat 100, Char.ofNat 101, Char.ofNat 32, Char.ofNat 100, Char.ofNat 111, Char.ofNat 111, Char.ofNat 114, Char.ofNat 107, Char.ofNat 101, Char.ofNat 101, Char.ofNat 112, Char.ofNat 101, Char.ofNat 114, Char.ofNat 47, Char.ofNat 100, Char.ofNat 111, Char.ofNat 111, Char.ofNat 114, Char.ofNat 107, Char.ofNat 101, Char.ofNat 101, Char.ofNat 112, Char.ofNat 101, Char.ofNat 114, Char.ofNat 108, Char.ofNat 97, Char.ofNat 119, Char.ofNat 49, Char.ofNat 53, Char.ofNat 46, Char.ofNat 83, Char.ofNat 104, Char.ofNat 97, Char.ofNat 112, Char.ofNat 101, Char.ofNat 77, Char.ofNat 97, Char.ofNat 110, Char.ofNat 121, Char.ofNat 32, Char.ofNat 100, Char.ofNat 111, Char.ofNat 111, Char.ofNat 114, Char.ofNat 107, Char.ofNat 101, Char.ofNat 101, Char.ofNat 112, Char.ofNat 101, Char.ofNat 114, Char.ofNat 47, Char.ofNat 100, Char.ofNat 111, Char.ofNat 111, Char.ofNat 114, Char.ofNat 107, Char.ofNat 101, Char.ofNat 101, Char.ofNat 112, Char.ofNat 101, Char.ofNat 114, Char.ofNat 108, Char.ofNat 97, Char.ofNat 119, Char.ofNat 49, Char.ofNat 53, Char.ofNat 46, Char.ofNat 83, Char.ofNat 104, Char.ofNat 97, Char.ofNat 112, Char.ofNat 101, Char.ofNat 67, Char.ofNat 111, Char.ofNat 109, Char.ofNat 101, Char.ofNat 115, Char.ofNat 32, Char.ofNat 100, Char.ofNat 111, Char.ofNat 111, Char.ofNat 114, Char.ofNat 107, Char.ofNat 101, Char.ofNat 101, Char.ofNat 112, Char.ofNat 101, Char.ofNat 114, Char.ofNat 47, Char.ofNat 100, Char.ofNat 111, Char.ofNat 111, Char.ofNat 114, Char.ofNat 107, Char.ofNat 101, Char.ofNat 101, Char.ofNat 112, Char.ofNat 101, Char.ofNat 114, Char.ofNat 108, Char.ofNat 97, Char.ofNat 119, Char.ofNat 49, Char.ofNat 53, Char.ofNat 46, Char.ofNat 83, Char.ofNat 104, Char.ofNat 97, Char.ofNat 112, Char.ofNat 101, Char.ofNat 76, Char.ofNat 105, Char.ofNat 109, Char.ofNat 105, Char.ofNat 116, Char.ofNat 115, Char.ofNat 32, Char.ofNat 100, Char.ofNat 111, Char.ofNat 111, Char.ofNat 114, Char.ofNat 107, Char.ofNat 101, Char.ofNat 101, Char.ofNat 112, Char.ofNat 101, Char.ofNat 114, Char.ofNat 47, Char.ofNat 100, Char.ofNat 111, Char.ofNat 111, Char.ofNat 114, Char.ofNat 107, Char.ofNat 101, Char.ofNat 101, Char.ofNat 112, Char.ofNat 101, Char.ofNat 114, Char.ofNat 108, Char.ofNat 97, Char.ofNat 119, Char.ofNat 49, Char.ofNat 53, Char.ofNat 46, Char.ofNat 83, Char.ofNat 104, Char.ofNat 97, Char.ofNat 112, Char.ofNat 101, Char.ofNat 77, Char.ofNat 111, Char.ofNat 118, Char.ofNat 101, Char.ofNat 115, Char.ofNat 32, Char.ofNat 100, Char.ofNat 111, Char.ofNat 111, Char.ofNat 114, Char.ofNat 107, Char.ofNat 101, Char.ofNat 101, Char.ofNat 112, Char.ofNat 101, Char.ofNat 114, Char.ofNat 47, Char.ofNat 100, Char.ofNat 111, Char.ofNat 111, Char.ofNat 114, Char.ofNat 107, Char.ofNat 101, Char.ofNat 101, Char.ofNat 112, Char.ofNat 101, Char.ofNat 114, Char.ofNat 108, Char.ofNat 97, Char.ofNat 119, Char.ofNat 49, Char.ofNat 53, Char.ofNat 46, Char.ofNat 83, Char.ofNat 104, Char.ofNat 97, Char.ofNat 112, Char.ofNat 101, Char.ofNat 65, Char.ofNat 108, Char.ofNat 108, Char.ofNat 32, Char.ofNat 100, Char.ofNat 111, Char.ofNat 111, Char.ofNat 114, Char.ofNat 107, Char.ofNat 101, Char.ofNat 101, Char.ofNat 112, Char.ofNat 101, Char.ofNat 114, Char.ofNat 47, Char.ofNat 100, Char.ofNat 111, Char.ofNat 111, Char.ofNat 114, Char.ofNat 107, Char.ofNat 101, Char.ofNat 101, Char.ofNat 112, Char.ofNat 101, Char.ofNat 114, Char.ofNat 108, Char.ofNat 97, Char.ofNat 119, Char.ofNat 49, Char.ofNat 53, Char.ofNat 46, Char.ofNat 83, Char.ofNat 104, Char.ofNat 97, Char.ofNat 112, Char.ofNat 101, Char.ofNat 77, Char.ofNat 97, Char.ofNat 100, Char.ofNat 101, Char.ofNat 32, Char.ofNat 100, Char.ofNat 111, Char.ofNat 111, Char.ofNat 114, Char.ofNat 107, Char.ofNat 101, Char.ofNat 101, Char.ofNat 112, Char.ofNat 101, Char.ofNat 114, Char.ofNat 47, Char.ofNat 100, Char.ofNat 111, Char.ofNat 111, Char.ofNat 114, Char.ofNat 107, Char.ofNat 101, Char.ofNat 101, Char.ofNat 112, Char.ofNat 101, Char.ofNat 114, Char.ofNat 108, Char.ofNat 97, Char.ofNat 119, Char.ofNat 49, Char.ofNat 53, Char.ofNat 46, Char.ofNat 83, Char.ofNat 104, Char.ofNat 97, Char.ofNat 112, Char.ofNat 101, Char.ofNat 82, Char.ofNat 101, Char.ofNat 115, Char.ofNat 116, Char.ofNat 32, Char.ofNat 100, Char.ofNat 111, Char.ofNat 111, Char.ofNat 114, Char.ofNat 107, Char.ofNat 101, Char.ofNat 101, Char.ofNat 112, Char.ofNat 101, Char.ofNat 114, Char.ofNat 47, Char.ofNat 100, Char.ofNat 111, Char.ofNat 111, Char.ofNat 114, Char.ofNat 107, Char.ofNat 101, Char.ofNat 101, Char.ofNat 112, Char.ofNat 101, Char.ofNat 114, Char.ofNat 108, Char.ofNat 97, Char.ofNat 119, Char.ofNat 49, Char.ofNat 57, Char.ofNat 46, Char.ofNat 84, Char.ofNat 114, Char.ofNat 105, Char.ofNat 97, Char.ofNat 108, Char.ofNat 67, Char.ofNat 117, Char.ofNat 116, Char.ofNat 115, Char.ofNat 32, Char.ofNat 100, Char.ofNat 111, Char.ofNat 111, Char.ofNat 114, Char.ofNat 107, Char.ofNat 101, Char.ofNat 101, Char.ofNat 112, Char.ofNat 101, Char.ofNat 114, Char.ofNat 47, Char.ofNat 100, Char.ofNat 111, Char.ofNat 111, Char.ofNat 114, Char.ofNat 107, Char.ofNat 101, Char.ofNat 101, Char.ofNat 112, Char.ofNat 101, Char.ofNat 114, Char.ofNat 108, Char.ofNat 97, Char.ofNat 119, Char.ofNat 49, Char.ofNat 57, Char.ofNat 46, Char.ofNat 84, Char.ofNat 114, Char.ofNat 105, Char.ofNat 97, Char.ofNat 108, Char.ofNat 65, Char.ofNat 108, Char.ofNat 108, Char.ofNat 32, Char.ofNat 100, Char.ofNat 111, Char.ofNat 111, Char.ofNat 114, Char.ofNat 107, Char.ofNat 101, Char.ofNat 101, Char.ofNat 112, Char.ofNat 101, Char.ofNat 114, Char.ofNat 47, Char.ofNat 100, Char.ofNat 111, Char.ofNat 111, Char.ofNat 114, Char.ofNat 107, Char.ofNat 101, Char.ofNat 101, Char.ofNat 112, Char.ofNat 101, Char.ofNat 114, Char.ofNat 108, Char.ofNat 97, Char.ofNat 119, Char.ofNat 49, Char.ofNat 57, Char.ofNat 46, Char.ofNat 84, Char.ofNat 114, Char.ofNat 105, Char.ofNat 97, Char.ofNat 108, Char.ofNat 77, Char.ofNat 97, Char.ofNat 100, Char.ofNat 101]
theorem parts : signs = w1 ++ Char.ofNat 32 :: (w2 ++ Char.ofNat 32 :: (w3 ++ Char.ofNat 32 :: rest)) := by kernel_rfl
theorem behind : ∃ r, behindMainWord (wordsSigns Try.prog.initOrder.toList) = w3 :: r := by
  refine ⟨wordsSigns rest, ?_⟩
  rw [list, parts, words_app w1 _ (by decide), words_app w2 _ (by decide), words_app w3 _ (by decide)]
  generalize wordsSigns rest = r
  rfl
theorem strip (r : List (List Char)) : stripLifts liftWords (w3 :: r) = ([], w3 :: r) := by kernel_rfl
theorem not_carried (r : List (List Char)) : ((w3 :: r).head? == some "carried".toList) = false := by kernel_rfl
theorem is_cut (r : List (List Char)) : ((w3 :: r).head? == some "cut".toList) = true := by kernel_rfl
theorem not_gc : (w3 == "gc".toList || w3 == "spec".toList) = false := by kernel_rfl
theorem cut_ : (w3 == "cut".toList) = true := by kernel_rfl
theorem lifts_of {P : Program} {r : List (List Char)} (h : behindMainWord (wordsSigns P.initOrder.toList) = w3 :: r) : P.liftsFinal = false := by
  unfold Program.liftsFinal Program.headLifts
  simp only [h, strip, not_carried, is_cut, if_true, Bool.false_and, Bool.false_or, List.contains_nil]
theorem make_of {P : Program} {r : List (List Char)} (h : behindMainWord (wordsSigns P.initOrder.toList) = w3 :: r) : P.make = some .cut := by
  unfold Program.make
  simp only [h, not_gc, cut_, Bool.true_or, if_true, Bool.false_eq_true, if_false]
theorem lifts : Try.prog.liftsFinal = false := by obtain ⟨r, h⟩ := behind; exact lifts_of h
theorem make : Try.prog.make = some .cut := by obtain ⟨r, h⟩ := behind; exact make_of h
theorem later : Try.prog.laysLater = false := by kernel_rfl
theorem reflects : Try.prog.bearsReflect = false := by kernel_rfl
theorem door : Try.prog.doorFits [] = true := by kernel_rfl
theorem may_of {P : Program} {r : List (List Char)} (h : behindMainWord (wordsSigns P.initOrder.toList) = w3 :: r) (h1 : P.laysLater = false) (h2 : P.bearsReflect = false) (h3 : P.doorFits [] = true) : P.mayEnter = true := by
  unfold Program.mayEnter
  simp only [h, strip, is_cut, h1, h2, h3, List.contains_nil, Bool.not_false, Bool.or_true, Bool.and_true, Bool.and_self]
theorem mayEnter : Try.prog.mayEnter = true := by obtain ⟨r, h⟩ := behind; exact may_of h later reflects door
theorem stopsHeard : Try.prog.stopsHeard = true := by kernel_rfl
theorem laidOut : laidOutB Try.prog = true := by kernel_rfl
theorem mapsRowed : mapsRowed Try.prog = true := by kernel_rfl
theorem stops : (Try.prog.stops == []) = true := by kernel_rfl
theorem stopKnobs : (Try.prog.stopKnobs == []) = true := by kernel_rfl
end Go.Proofs.Ytcgefpklljclgaa.Head

-- PRINTED WORDS (module Derived/Print/Sized.lean): go-gate-2's, for the rows of laws over slices: an AI agent of Go's test side, Tue Nov 17 2026; no person has read it. Lean checks it.
namespace Go.Proofs.YtcgefpklljclgaaW.PrintWords
open Go.ChangeShapes Go.WideShapes
/-- A row's slice of whole numbers is no longer than its weight allows. -/
theorem sized_ints {H : Type} {enc : TypeId × Value → H} {P : Program} {W : World} {base : Nat} {spare : Nat → Bool} {held : Bool} {t e : TypeId} {k : IntKind} {a : Option Addr} {len cap : Nat} {d : DataW H} {ps : List MemPlace} {ts : List TypeId} {ds : List (DataW H)} {j : Nat}
    (hsz : (DataW.weightsEach P ts ds).all (· ≤ reachBytes) = true) (ht : ts[j]? = some t) (hd : ds[j]? = some d) (hu : P.underlying t = some (.slice e)) (he : P.underlying e = some (.int k)) (hc : P.cellsOf e = 1) {B : Nat} (hB : P.bytesOf e = B)
    (h : DataW.Trod enc P W base spare held t (.slice a len cap) d ps) : len * B ≤ 140737488351232 := by
  obtain ⟨fuel, hf⟩ := h
  rcases open_ints hu he hc hf with ⟨hcs, _⟩ | ⟨x, l, c, zs, hcs, _, hl, _, hz, hx, _, _⟩
  · simp [Value.cells] at hcs
    obtain ⟨rfl, rfl, rfl⟩ := hcs
    simp
  · simp [Value.cells] at hcs
    obtain ⟨rfl, rfl, rfl⟩ := hcs
    obtain ⟨hx, _⟩ := Prod.mk.inj hx
    subst hx
    have z := sized_slice hsz ht hd hu
    rw [hB] at z
    have hl2 : len ≤ zs.length := by
      rw [hz]
      split
      · exact hl
      · exact Nat.le_refl _
    have h1 : (lits (H := H) k (zs.take len)).length + (lits (H := H) k (zs.drop len)).length = zs.length := by
      simp [lits]
      omega
    rw [h1] at z
    exact Nat.le_trans (Nat.mul_le_mul_right _ hl2) z
end Go.Proofs.YtcgefpklljclgaaW.PrintWords
