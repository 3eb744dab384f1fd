/- A part of the proof of RoomAll: the machine's side by the kit's print, contracts and lemmas by this session. -/
import Derived.Laws.Cover1
import Derived.Test.YtcgefpklljclgaaBRoomAll1
namespace Go.Proofs.Ytcgefpklljclgaa.Print
open Go.RowKit Go.Proofs.YtcgefpklljclgaaW.PrintWords Go.Proofs.YtcgefpklljclgaaW.PrintLast Go.Proofs.YtcgefpklljclgaaW.PrintMore
attribute [local go_sem] max2_int min2_int max_two min_two max_three min_three max_four min_four   -- for this text's walks alone
set_option linter.unusedVariables false
set_option linter.unusedSimpArgs false
/-! ### r10_Up: function 106 -/
def r10_Up.l0 : Nat → List (S31) → List ByteArray → Int → Option (List ByteArray)
 | 0, _, _, _ => none
 | k + 1, x0, x5, x6 => if x6 ≥ 0 then (if (x5.length : Int) ≤ (x0.length : Int) then (if 0 ≤ x6 then (if x6 < (x0.length : Int) then (if x5.length < 8796093022208 then ((r10_Find.f k x0 ((rd_T31 x0 x6).f1)).bind fun t7 => (r10_Up.l0 k x0 (x5 ++ [(rd_T31 x0 x6).f0]) t7)) else (none)) else (none)) else (none)) else (some x5)) else (some x5)
def r10_Up.f (k : Nat) (l0 : List (S31)) (a1 : ByteArray) : Option (List ByteArray) := (r10_Find.f k l0 a1).bind fun t1 => (r10_Up.l0 k l0 ([] : List ByteArray) t1)
theorem r10_Up.mono_l : ∀ k, (∀ y0 y1 y2, LeO (r10_Up.l0 k y0 y1 y2) (r10_Up.l0 (k + 1) y0 y1 y2))
 | 0 => fun _ _ _ r h => by simp [r10_Up.l0] at h
 | k + 1 => by
  have ih0 := r10_Up.mono_l k
  ·intro y0 y1 y2
   unfold r10_Up.l0
   repeat' first
   | (with_reducible exact ih0 _ _ _)
   | (with_reducible exact r10_Find.mono _ _ _)
   | (with_reducible exact LeO.refl _)
   | (with_reducible exact LeO.none _)
   | (with_reducible refine LeO.ite ?_ ?_)
   | (with_reducible refine LeO.bind ?_ (fun _ => ?_))
   | exact ih0 _ _ _
   | exact r10_Find.mono _ _ _
   | exact LeO.none _
   | refine LeO.ite ?_ ?_
   | refine LeO.bind ?_ (fun _ => ?_)
theorem r10_Up.mono : ∀ a0 a1 k, LeO (r10_Up.f k a0 a1) (r10_Up.f (k + 1) a0 a1) := by
 intro a0 a1 k
 have ih0 := r10_Up.mono_l k
 unfold r10_Up.f
 repeat' first
   | (with_reducible exact ih0 _ _ _)
   | (with_reducible exact r10_Find.mono _ _ _)
   | (with_reducible exact LeO.refl _)
   | (with_reducible exact LeO.none _)
   | (with_reducible refine LeO.ite ?_ ?_)
   | (with_reducible refine LeO.bind ?_ (fun _ => ?_))
   | exact ih0 _ _ _
   | exact r10_Find.mono _ _ _
   | exact LeO.none _
   | refine LeO.ite ?_ ?_
   | refine LeO.bind ?_ (fun _ => ?_)
set_option maxHeartbeats 8000000 in
set_option maxRecDepth 100000 in
theorem r10_Up.calls (k : Nat) (A0 : Option Addr) (c0 : Nat) (l0 : List (S31)) (a1 : ByteArray) (r : List ByteArray) (w : World) (hr0 : Kd.C k31 w A0 l0.length l0) (hc0 : l0.length ≤ c0) (h : r10_Up.f k l0 a1 = some r) :
  Calls Try.prog 106 #[.slice A0 l0.length c0, .string a1] w fun e w' => ∃ v0_ : Value, e = .returned (v0_) ∧ Kd.R Kd.string 9 w' w.heap.size (fun _ => True) v0_ r ∧ Below w.heap.size w w' := by
 have HR0 := Aside0.mk hr0
 have HC0 := Aside0.mk hc0
 clear hr0 hc0
 have HB := Aside0.mk (Below.refl w.heap.size w)
 have H : ((r10_Find.f k l0 a1).bind fun t1 => (r10_Up.l0 k l0 ([] : List ByteArray) t1)) = some r := h
 clear h
 replace H := Option.bind_eq_some_iff.mp H
 obtain ⟨t1, A30, H⟩ := H
 replace H : (r10_Up.l0 k l0 ([] : List ByteArray) t1) = some r := H
 have A3 := Aside0.mk A30
 clear A30
 have H' := Aside0.mk H
 clear H
 go_enter Try.func106, Try.ntmps106
 go_wp2_with (first|((with_reducible refine gate_callee (f := 50) rfl ?_);refine goesL_ (some 9) rfl rfl Try.func50 (by kernel_rfl) rfl #[.slice A0 l0.length c0, .string a1] rfl (by (try simp only [List.map_toArray, List.map_cons, List.map_nil]);first|done|rfl|(simp only [List.length_drop, List.length_take];rfl)) ?_;(with_reducible refine (r10_Find.calls k _ _ l0 a1 t1 _ ?side1 ?side2 A3.out).mono ?_);(case side1 => repeat (first|exact HR0.out|(with_reducible refine Kd.C_alloc ?_ _)|(with_reducible refine Kd.C_drewN ?_ _)|(with_reducible refine Kd.C_drew ?_)));(case side2 => exact HC0.out);rintro e w' ⟨rfl, ⟨nd, rfl⟩⟩;refine ⟨_, rfl, ?_⟩))
 go_loopg [5, 6] k (fun kq v5 v6 w' => ∃ (x5_1 : List ByteArray) (x6_1 : Int), v6 = .int .i64 x6_1 ∧ Aside0 (r10_Up.l0 kq l0 x5_1 x6_1 = some r) ∧ Aside0 (kq ≤ k) ∧ Aside0 (Kd.R Kd.string 9 w' w.heap.size (fun _ => True) v5 x5_1) ∧ Aside0 (Below w.heap.size w w'))
 case atStart => exact ⟨(([] : List ByteArray)), (t1), (by first|rfl|(simp;done)|(simp [*];done)), H', ⟨Nat.le_refl _⟩, ⟨by first|exact Kd.R_nil _ _ _ _ _|exact Kd.N_nil _ _ _ _ _|exact Kd.V_nil _ _ _ _ _|exact Kd.Q_nil _ _ _ _ _|exact Kd.S_nil _ _ _ _ _⟩, ⟨by repeat (first|(with_reducible first|exact HB.out|apply below_alloc|apply pw_below_drewN|apply below_drew1)|exact HB.out)⟩⟩
 case round =>
  clear H'
  try clear c1
  try clear p2
  obtain ⟨x5_1, x6_1, rfl, HA, HK1, HO_5, HB⟩ := hrel
  cases gk with
  | zero => exact absurd HA.out (by simp [r10_Up.l0])
  | succ k1 =>
   have H := HA.out
   clear HA
   simp only [r10_Up.l0] at H
   by_cases c4 : x6_1 ≥ 0
   ·rw [if_pos c4] at H
    have c4b0 : decide (0 ≤ x6_1) = true := decide_eq_true c4
    clear c4
    by_cases c5 : (x5_1.length : Int) ≤ (l0.length : Int)
    ·rw [if_pos c5] at H
     have c5b0 : decide ((x5_1.length : Int) ≤ (l0.length : Int)) = true := decide_eq_true c5
     have c5b1 : decide (x5_1.length ≤ l0.length) = true := decide_eq_true (Int.ofNat_le.mp c5)
     clear c5
     by_cases c6 : 0 ≤ x6_1
     ·rw [if_pos c6] at H
      have c6b0 : decide (0 ≤ x6_1) = true := decide_eq_true c6
      clear c6
      by_cases c7 : x6_1 < (l0.length : Int)
      ·rw [if_pos c7] at H
       have c7b0 : decide (x6_1 < (l0.length : Int)) = true := decide_eq_true c7
       clear c7
       by_cases c8 : x5_1.length < 8796093022208
       ·rw [if_pos c8] at H
        have LMc8 := Aside0.mk c8
        clear c8
        obtain ⟨y3, hy3⟩ : ∃ y_ : List ByteArray, y_ = (x5_1 ++ [(rd_T31 l0 x6_1).f0]) := ⟨_, rfl⟩
        replace H : ((r10_Find.f k1 l0 ((rd_T31 l0 x6_1).f1)).bind fun t7 => (r10_Up.l0 k1 l0 y3 t7)) = some r := by first|(rw [hy3];with_reducible exact H)|(have H2_ := (Option.bind_some _ _).symm.trans H;rw [hy3];with_reducible exact H2_)|(have H2_ := (Option.bind_some _ _).symm.trans H;with_reducible exact H2_)|with_reducible exact H|(rw [hy3];exact H)|exact H
        have Ny3 := Aside0.mk hy3
        clear hy3
        replace H := Option.bind_eq_some_iff.mp H
        obtain ⟨t7, A90, H⟩ := H
        replace H : (r10_Up.l0 k1 l0 y3 t7) = some r := H
        have A9 := Aside0.mk A90
        clear A90
        have H' := Aside0.mk H
        clear H
        obtain ⟨Ao10, co10, eo10⟩ := Kd.R_slice HO_5.out
        subst eo10
        have p2 : 0 ≤ (x6_1 : Int) := of_decide_eq_true (by first|(with_reducible assumption)|assumption)
        have q2 : x6_1 < (l0.length : Int) := of_decide_eq_true (by first|(with_reducible assumption)|assumption)
        obtain ⟨ad2, e2, hx2_0, hx2_1, hx2_2, hx2_3, hx2_4, hx2_5, hx2_6, hx2_7, hx2_8, hx2_9, hx2_10, hx2_11⟩ := at_T31 HR0.out x6_1 p2 q2
        cases e2
        replace hx2_0 := (HB.out.cell (World.block_lt_of_cell? w _ hx2_0)).trans hx2_0
        replace hx2_1 := (HB.out.cell (World.block_lt_of_cell? w _ hx2_1)).trans hx2_1
        replace hx2_2 := (HB.out.cell (World.block_lt_of_cell? w _ hx2_2)).trans hx2_2
        replace hx2_3 := (HB.out.cell (World.block_lt_of_cell? w _ hx2_3)).trans hx2_3
        replace hx2_4 := (HB.out.cell (World.block_lt_of_cell? w _ hx2_4)).trans hx2_4
        replace hx2_5 := (HB.out.cell (World.block_lt_of_cell? w _ hx2_5)).trans hx2_5
        replace hx2_6 := (HB.out.cell (World.block_lt_of_cell? w _ hx2_6)).trans hx2_6
        replace hx2_7 := (HB.out.cell (World.block_lt_of_cell? w _ hx2_7)).trans hx2_7
        replace hx2_8 := (HB.out.cell (World.block_lt_of_cell? w _ hx2_8)).trans hx2_8
        replace hx2_9 := (HB.out.cell (World.block_lt_of_cell? w _ hx2_9)).trans hx2_9
        replace hx2_10 := (HB.out.cell (World.block_lt_of_cell? w _ hx2_10)).trans hx2_10
        replace hx2_11 := (HB.out.cell (World.block_lt_of_cell? w _ hx2_11)).trans hx2_11
        replace p2 := eq_true p2
        replace q2 := eq_true q2
        go_wp2_with (first|((with_reducible refine gate_builtin (b := .append) (xs := #[.tmp 26, .tmp 32]) rfl ?_);(try (refine gate_guard (by rfl) ?_;dsimp only));at_builtin;refine Kd.R_append Kd.string (w0 := w) w.heap.size rfl (.tmp 26) (.tmp 32) 74 9 (.string ⟨#[]⟩) 16 rfl Try.underlying74 info9 rfl (by decide) (by omega) (.slice Ao10 x5_1.length co10) x5_1 ((rd_T31 l0 x6_1).f0) [.string ((rd_T31 l0 x6_1).f0)] (fun _ => True) (fun _ => False) rfl rfl ?aP (fun _ hk => hk.elim) ?aF ?aO ?aB ?aS ?aL ?_;(case aP => exact rfl);(case aB => exact (by repeat (first|(with_reducible first|exact HB.out|apply below_alloc|apply pw_below_drewN|apply below_drew1)|exact HB.out)));(case aF => exact (fun _ _ => trivial));(case aO => exact (by (with_reducible repeat (first|apply Kd.R_alloc|apply Kd.R_drewN|apply Kd.R_drew));exact HO_5.out));(case aS => exact (below_size (by repeat (first|(with_reducible first|exact HB.out|apply below_alloc|apply pw_below_drewN|apply below_drew1)|exact HB.out))));(case aL => have := LMc8.out;omega);intro v4 w11 ho hb hg hat;rw [← Ny3.out] at ho;have n0_ := Aside0.mk (hb);have n1_ := Aside0.mk (ho);clear HB;clear HO_5;have HB := n0_;have HO5 := n1_;clear n0_ n1_;clear ho hb hg hat;have p6 : 0 ≤ (x6_1 : Int) := of_decide_eq_true (by first|(with_reducible assumption)|assumption);have q6 : x6_1 < (l0.length : Int) := of_decide_eq_true (by first|(with_reducible assumption)|assumption);obtain ⟨ad6, e6, hx6_0, hx6_1, hx6_2, hx6_3, hx6_4, hx6_5, hx6_6, hx6_7, hx6_8, hx6_9, hx6_10, hx6_11⟩ := at_T31 HR0.out x6_1 p6 q6;obtain rfl : ad2 = ad6 := (by injection e6);replace hx6_0 := (HB.out.cell (World.block_lt_of_cell? w _ hx6_0)).trans hx6_0;replace hx6_1 := (HB.out.cell (World.block_lt_of_cell? w _ hx6_1)).trans hx6_1;replace hx6_2 := (HB.out.cell (World.block_lt_of_cell? w _ hx6_2)).trans hx6_2;replace hx6_3 := (HB.out.cell (World.block_lt_of_cell? w _ hx6_3)).trans hx6_3;replace hx6_4 := (HB.out.cell (World.block_lt_of_cell? w _ hx6_4)).trans hx6_4;replace hx6_5 := (HB.out.cell (World.block_lt_of_cell? w _ hx6_5)).trans hx6_5;replace hx6_6 := (HB.out.cell (World.block_lt_of_cell? w _ hx6_6)).trans hx6_6;replace hx6_7 := (HB.out.cell (World.block_lt_of_cell? w _ hx6_7)).trans hx6_7;replace hx6_8 := (HB.out.cell (World.block_lt_of_cell? w _ hx6_8)).trans hx6_8;replace hx6_9 := (HB.out.cell (World.block_lt_of_cell? w _ hx6_9)).trans hx6_9;replace hx6_10 := (HB.out.cell (World.block_lt_of_cell? w _ hx6_10)).trans hx6_10;replace hx6_11 := (HB.out.cell (World.block_lt_of_cell? w _ hx6_11)).trans hx6_11;replace p6 := eq_true p6;replace q6 := eq_true q6)|((with_reducible refine gate_callee (f := 50) rfl ?_);refine goesL_ (some 25) rfl rfl Try.func50 (by kernel_rfl) rfl #[.slice (some ad2) l0.length c0, .string ((rd_T31 l0 x6_1).f1)] rfl (by (try simp only [List.map_toArray, List.map_cons, List.map_nil]);first|done|rfl|(simp only [List.length_drop, List.length_take];rfl)) ?_;(with_reducible refine (r10_Find.calls k1 _ _ l0 ((rd_T31 l0 x6_1).f1) t7 _ ?side1 ?side2 A9.out).mono ?_);(case side1 => repeat (first|exact (Kd.C_below HR0.out HB.out)|(with_reducible refine Kd.C_alloc ?_ _)|(with_reducible refine Kd.C_drewN ?_ _)|(with_reducible refine Kd.C_drew ?_)));(case side2 => exact HC0.out);rintro e w' ⟨rfl, ⟨nd, rfl⟩⟩;refine ⟨_, rfl, ?_⟩))
        go_roundg k1
        case measure => have := HK1.out; omega
        case rel => exact ⟨(y3), (t7), (by first|rfl|(simp;done)|(simp [*];done)), H', ⟨by have := HK1.out;omega⟩, ⟨by (with_reducible repeat (first|apply Kd.R_alloc|apply Kd.R_drewN|apply Kd.R_drew));exact HO5.out⟩, ⟨by repeat (first|(with_reducible first|exact HB.out|apply below_alloc|apply pw_below_drewN|apply below_drew1)|exact HB.out)⟩⟩
       ·rw [if_neg c8] at H
        exact absurd H (by simp)
      ·rw [if_neg c7] at H
       exact absurd H (by simp)
     ·rw [if_neg c6] at H
      exact absurd H (by simp)
    ·rw [if_neg c5] at H
     have c5b0 : decide ((x5_1.length : Int) ≤ (l0.length : Int)) = false := decide_eq_false c5
     have c5b1 : decide (x5_1.length ≤ l0.length) = false := decide_eq_false (fun h => c5 (Int.ofNat_le.mpr h))
     clear c5
     obtain rfl := Option.some.inj H
     obtain ⟨Ao12, co12, eo12⟩ := Kd.R_slice HO_5.out
     subst eo12
     go_wp2
     go_ret
     exact ⟨_, by first|rfl|(simp [errW_none, errW_some] <;> rfl)|(simp [*, errW_none, errW_some] <;> rfl), by (with_reducible repeat (first|apply Kd.R_alloc|apply Kd.R_drewN|apply Kd.R_drew));exact HO_5.out, by repeat (first|(with_reducible first|exact HB.out|apply below_alloc|apply pw_below_drewN|apply below_drew1)|exact HB.out)⟩
   ·rw [if_neg c4] at H
    have c4b0 : decide (0 ≤ x6_1) = false := decide_eq_false c4
    clear c4
    obtain rfl := Option.some.inj H
    go_wp2
    go_ret
    exact ⟨_, by first|rfl|(simp [errW_none, errW_some] <;> rfl)|(simp [*, errW_none, errW_some] <;> rfl), by (with_reducible repeat (first|apply Kd.R_alloc|apply Kd.R_drewN|apply Kd.R_drew));exact HO_5.out, by repeat (first|(with_reducible first|exact HB.out|apply below_alloc|apply pw_below_drewN|apply below_drew1)|exact HB.out)⟩
end Go.Proofs.Ytcgefpklljclgaa.Print

namespace Go.Proofs.Ytcgefpklljclgaa.Print
open Go.RowKit Go.Proofs.YtcgefpklljclgaaW.PrintWords Go.Proofs.YtcgefpklljclgaaW.PrintLast Go.Proofs.YtcgefpklljclgaaW.PrintMore
attribute [local go_sem] max2_int min2_int max_two min_two max_three min_three max_four min_four   -- for this text's walks alone
set_option linter.unusedVariables false
set_option linter.unusedSimpArgs false
attribute [local go_sem high] eqA27
mutual
def r10_Right.l0 : Nat → List (S31) → Int → Option (Bool)
 | 0, _, _ => none
 | k + 1, x0, x3 => if x3 < (x0.length : Int) then (if 0 ≤ x3 then ((r10_MayName.f ((rd_T31 x0 x3).f0)).bind fun t3 => (if t3 = true then (if x3 > 0 then (if 0 ≤ (wrap64 (x3 - 1)) then (if (wrap64 (x3 - 1)) < (x0.length : Int) then (if ((Op.bytesLess (((rd_T31 x0 (wrap64 (x3 - 1))).f0).toList) (((rd_T31 x0 x3).f0).toList)) = true) then ((r10_MayVec.f ((rd_T31 x0 x3).f2.f0) ((rd_T31 x0 x3).f2.f1) ((rd_T31 x0 x3).f2.f2)).bind fun t5 => (if t5 = true then ((r10_MayVec.f ((rd_T31 x0 x3).f3.f0) ((rd_T31 x0 x3).f3.f1) ((rd_T31 x0 x3).f3.f2)).bind fun t6 => (if t6 = true then (if ((rd_T31 x0 x3).f1).toList = ([] : List UInt8) then (if ((rd_T31 x0 x3).f5) < 1 then (some false) else (if ((rd_T31 x0 x3).f5) > 9007199254740992 then (some false) else ((r10_Le.f ((rd_T31 x0 x3).f4.f0) ((rd_T31 x0 x3).f4.f1) ((rd_T31 x0 x3).f4.f2) ((rd_T31 x0 x3).f2.f0) ((rd_T31 x0 x3).f2.f1) ((rd_T31 x0 x3).f2.f2)).bind fun t7 => (if t7 = true then ((r10_MayVec.f ((rd_T31 x0 x3).f4.f0) ((rd_T31 x0 x3).f4.f1) ((rd_T31 x0 x3).f4.f2)).bind fun t8 => (if t8 = true then (r10_Right.l0 k x0 (wrap64 (x3 + 1))) else (some false))) else (some false))))) else ((r10_Find.f k x0 ((rd_T31 x0 x3).f1)).bind fun t9 => (if t9 < 0 then (some false) else (if ((rd_T31 x0 x3).f5) < 1 then (some false) else (if ((rd_T31 x0 x3).f5) > 9007199254740992 then (some false) else ((r10_Le.f ((rd_T31 x0 x3).f4.f0) ((rd_T31 x0 x3).f4.f1) ((rd_T31 x0 x3).f4.f2) ((rd_T31 x0 x3).f2.f0) ((rd_T31 x0 x3).f2.f1) ((rd_T31 x0 x3).f2.f2)).bind fun t10 => (if t10 = true then ((r10_MayVec.f ((rd_T31 x0 x3).f4.f0) ((rd_T31 x0 x3).f4.f1) ((rd_T31 x0 x3).f4.f2)).bind fun t11 => (if t11 = true then (r10_Right.l0 k x0 (wrap64 (x3 + 1))) else (some false))) else (some false)))))))) else (some false))) else (some false))) else (some false)) else (none)) else (none)) else ((r10_MayVec.f ((rd_T31 x0 x3).f2.f0) ((rd_T31 x0 x3).f2.f1) ((rd_T31 x0 x3).f2.f2)).bind fun t12 => (if t12 = true then ((r10_MayVec.f ((rd_T31 x0 x3).f3.f0) ((rd_T31 x0 x3).f3.f1) ((rd_T31 x0 x3).f3.f2)).bind fun t13 => (if t13 = true then (if ((rd_T31 x0 x3).f1).toList = ([] : List UInt8) then (if ((rd_T31 x0 x3).f5) < 1 then (some false) else (if ((rd_T31 x0 x3).f5) > 9007199254740992 then (some false) else ((r10_Le.f ((rd_T31 x0 x3).f4.f0) ((rd_T31 x0 x3).f4.f1) ((rd_T31 x0 x3).f4.f2) ((rd_T31 x0 x3).f2.f0) ((rd_T31 x0 x3).f2.f1) ((rd_T31 x0 x3).f2.f2)).bind fun t14 => (if t14 = true then ((r10_MayVec.f ((rd_T31 x0 x3).f4.f0) ((rd_T31 x0 x3).f4.f1) ((rd_T31 x0 x3).f4.f2)).bind fun t15 => (if t15 = true then (r10_Right.l0 k x0 (wrap64 (x3 + 1))) else (some false))) else (some false))))) else ((r10_Find.f k x0 ((rd_T31 x0 x3).f1)).bind fun t16 => (if t16 < 0 then (some false) else (if ((rd_T31 x0 x3).f5) < 1 then (some false) else (if ((rd_T31 x0 x3).f5) > 9007199254740992 then (some false) else ((r10_Le.f ((rd_T31 x0 x3).f4.f0) ((rd_T31 x0 x3).f4.f1) ((rd_T31 x0 x3).f4.f2) ((rd_T31 x0 x3).f2.f0) ((rd_T31 x0 x3).f2.f1) ((rd_T31 x0 x3).f2.f2)).bind fun t17 => (if t17 = true then ((r10_MayVec.f ((rd_T31 x0 x3).f4.f0) ((rd_T31 x0 x3).f4.f1) ((rd_T31 x0 x3).f4.f2)).bind fun t18 => (if t18 = true then (r10_Right.l0 k x0 (wrap64 (x3 + 1))) else (some false))) else (some false)))))))) else (some false))) else (some false)))) else (some false))) else (none)) else (r10_Right.l1 k x0 0)
def r10_Right.l1 : Nat → List (S31) → Int → Option (Bool)
 | 0, _, _ => none
 | k + 1, x0, x5 => if x5 < (x0.length : Int) then (if 0 ≤ x5 then (r10_Right.l2 k x0 x5 0 ((rd_T31 x0 x5).f3.f0) ((rd_T31 x0 x5).f3.f1) ((rd_T31 x0 x5).f3.f2)) else (none)) else (some true)
def r10_Right.l2 : Nat → List (S31) → Int → Int → Int → Int → Int → Option (Bool)
 | 0, _, _, _, _, _, _ => none
 | k + 1, x0, x5, x7, x21000, x21001, x21002 => if x7 < (x0.length : Int) then (if 0 ≤ x7 then (if 0 ≤ x5 then (if x5 < (x0.length : Int) then (if ((rd_T31 x0 x7).f1).toList = ((rd_T31 x0 x5).f0).toList then ((r10_Add.f x21000 x21001 x21002 ((rd_T31 x0 x7).f4.f0) ((rd_T31 x0 x7).f4.f1) ((rd_T31 x0 x7).f4.f2)).bind fun bt24 => (r10_Right.l2 k x0 x5 (wrap64 (x7 + 1)) bt24.1 bt24.2.1 bt24.2.2)) else (r10_Right.l2 k x0 x5 (wrap64 (x7 + 1)) x21000 x21001 x21002)) else (none)) else (none)) else (none)) else (if 0 ≤ x5 then (if x5 < (x0.length : Int) then (if (!(x21000 == ((rd_T31 x0 x5).f4.f0)) || (!(x21001 == ((rd_T31 x0 x5).f4.f1)) || (!(x21002 == ((rd_T31 x0 x5).f4.f2))))) = true then (some false) else ((r10_Up.f k x0 ((rd_T31 x0 x5).f0)).bind fun t29 => (if (t29.length : Int) > (x0.length : Int) then (some false) else (r10_Right.l1 k x0 (wrap64 (x5 + 1)))))) else (none)) else (none))
end
def r10_Right.f (k : Nat) (l0 : List (S31)) : Option (Bool) := if (l0.length : Int) > 120 then (some false) else (r10_Right.l0 k l0 0)
theorem r10_Right.mono_l : ∀ k, (∀ y0 y1, LeO (r10_Right.l0 k y0 y1) (r10_Right.l0 (k + 1) y0 y1)) ∧ (∀ y0 y1, LeO (r10_Right.l1 k y0 y1) (r10_Right.l1 (k + 1) y0 y1)) ∧ (∀ y0 y1 y2 y3 y4 y5, LeO (r10_Right.l2 k y0 y1 y2 y3 y4 y5) (r10_Right.l2 (k + 1) y0 y1 y2 y3 y4 y5))
 | 0 => ⟨fun _ _ r h => by simp [r10_Right.l0] at h, fun _ _ r h => by simp [r10_Right.l1] at h, fun _ _ _ _ _ _ r h => by simp [r10_Right.l2] at h⟩
 | k + 1 => by
  obtain ⟨ih0, ih1, ih2⟩ := r10_Right.mono_l k
  refine ⟨?_, ?_, ?_⟩
  ·intro y0 y1
   unfold r10_Right.l0
   repeat' first
   | (with_reducible exact ih0 _ _)
   | (with_reducible exact ih1 _ _)
   | (with_reducible exact ih2 _ _ _ _ _ _)
   | (with_reducible exact r10_Find.mono _ _ _)
   | (with_reducible exact r10_Up.mono _ _ _)
   | (with_reducible exact LeO.refl _)
   | (with_reducible exact LeO.none _)
   | (with_reducible refine LeO.ite ?_ ?_)
   | (with_reducible refine LeO.bind ?_ (fun _ => ?_))
   | exact ih0 _ _
   | exact ih1 _ _
   | exact ih2 _ _ _ _ _ _
   | exact r10_Find.mono _ _ _
   | exact r10_Up.mono _ _ _
   | exact LeO.none _
   | refine LeO.ite ?_ ?_
   | refine LeO.bind ?_ (fun _ => ?_)
  ·intro y0 y1
   unfold r10_Right.l1
   repeat' first
   | (with_reducible exact ih0 _ _)
   | (with_reducible exact ih1 _ _)
   | (with_reducible exact ih2 _ _ _ _ _ _)
   | (with_reducible exact r10_Find.mono _ _ _)
   | (with_reducible exact r10_Up.mono _ _ _)
   | (with_reducible exact LeO.refl _)
   | (with_reducible exact LeO.none _)
   | (with_reducible refine LeO.ite ?_ ?_)
   | (with_reducible refine LeO.bind ?_ (fun _ => ?_))
   | exact ih0 _ _
   | exact ih1 _ _
   | exact ih2 _ _ _ _ _ _
   | exact r10_Find.mono _ _ _
   | exact r10_Up.mono _ _ _
   | exact LeO.none _
   | refine LeO.ite ?_ ?_
   | refine LeO.bind ?_ (fun _ => ?_)
  ·intro y0 y1 y2 y3 y4 y5
   unfold r10_Right.l2
   repeat' first
   | (with_reducible exact ih0 _ _)
   | (with_reducible exact ih1 _ _)
   | (with_reducible exact ih2 _ _ _ _ _ _)
   | (with_reducible exact r10_Find.mono _ _ _)
   | (with_reducible exact r10_Up.mono _ _ _)
   | (with_reducible exact LeO.refl _)
   | (with_reducible exact LeO.none _)
   | (with_reducible refine LeO.ite ?_ ?_)
   | (with_reducible refine LeO.bind ?_ (fun _ => ?_))
   | exact ih0 _ _
   | exact ih1 _ _
   | exact ih2 _ _ _ _ _ _
   | exact r10_Find.mono _ _ _
   | exact r10_Up.mono _ _ _
   | exact LeO.none _
   | refine LeO.ite ?_ ?_
   | refine LeO.bind ?_ (fun _ => ?_)
theorem r10_Right.mono : ∀ a0 k, LeO (r10_Right.f k a0) (r10_Right.f (k + 1) a0) := by
 intro a0 k
 obtain ⟨ih0, ih1, ih2⟩ := r10_Right.mono_l k
 unfold r10_Right.f
 repeat' first
   | (with_reducible exact ih0 _ _)
   | (with_reducible exact ih1 _ _)
   | (with_reducible exact ih2 _ _ _ _ _ _)
   | (with_reducible exact r10_Find.mono _ _ _)
   | (with_reducible exact r10_Up.mono _ _ _)
   | (with_reducible exact LeO.refl _)
   | (with_reducible exact LeO.none _)
   | (with_reducible refine LeO.ite ?_ ?_)
   | (with_reducible refine LeO.bind ?_ (fun _ => ?_))
   | exact ih0 _ _
   | exact ih1 _ _
   | exact ih2 _ _ _ _ _ _
   | exact r10_Find.mono _ _ _
   | exact r10_Up.mono _ _ _
   | exact LeO.none _
   | refine LeO.ite ?_ ?_
   | refine LeO.bind ?_ (fun _ => ?_)
def r10_Right.T7 : Bool × List (List Nat × List Nat) := (true, [([], []), ([0], [0]), ([1], [1]), ([2], [2]), ([3, 2], [3]), ([4], [4]), ([5, 4], [4, 5]), ([6, 4, 4], [4, 6]), ([7], [7]), ([7], [7]), ([9, 7], [7, 9]), ([8, 10, 7], [7, 8, 10]), ([11, 7], [7, 11]), ([12, 7], [7, 12]), ([7], [7]), ([14, 7], [7, 14]), ([13, 15, 7], [7, 13, 15]), ([7, 16, 4], [4, 7, 16]), ([4, 17], [4, 17]), ([18, 7], [18]), ([19], [19]), ([20, 19], [19, 20]), ([21, 19, 19], [19, 21]), ([22, 19], [19, 22]), ([19, 23], [19, 23]), ([24, 22], [24]), ([25], [25]), ([26, 25], [25, 26]), ([27, 25, 25], [25, 27]), ([28, 25], [25, 28]), ([25, 29], [25, 29]), ([30, 28], [30]), ([31], [31]), ([32, 31], [31, 32]), ([33, 31], [31, 33]), ([34, 31, 31], [31, 34]), ([35], [35]), ([35], [35]), ([37, 35], [35, 37]), ([36, 38, 35, 35], [35, 36, 38]), ([39, 35], [35, 39]), ([35, 40, 31], [31, 35, 40]), ([31, 41], [31, 41]), ([42, 39], [42]), ([43], [43]), ([44, 43], [43, 44]), ([45, 43], [43, 45]), ([43, 46], [43, 46]), ([47, 43], [47]), ([48], [48]), ([49, 48], [48, 49]), ([50, 48], [48, 50]), ([48, 51], [48, 51]), ([52, 48], [52]), ([53], [53]), ([54, 53], [53, 54]), ([53], [53]), ([56, 53], [53, 56]), ([55, 57, 53, 53], [53, 55, 57]), ([58, 53], [53, 58]), ([53, 59], [53, 59]), ([60, 58], [60]), ([61], [61]), ([62, 61], [61, 62]), ([63, 61, 61], [61, 63]), ([64, 61], [61, 64]), ([61, 65], [61, 65])])
def r10_Right.B7 : List Nat := [0, 1, 3, 7, 15, 31, 63, 127, 255, 255, 767, 2047, 4095, 8191, 255, 16639, 65535, 131071, 262143, 524287, 1048575, 2097151, 4194303, 8388607, 16777215, 33554431, 67108863, 134217727, 268435455, 536870911, 1073741823, 2147483647, 4294967295, 8589934591, 17179869183, 34359738367, 68719476735, 68719476735, 206158430207, 549755813887, 1099511627775, 2199023255551, 4398046511103, 8796093022207, 17592186044415, 35184372088831, 70368744177663, 140737488355327, 281474976710655, 562949953421311, 1125899906842623, 2251799813685247, 4503599627370495, 9007199254740991, 18014398509481983, 36028797018963967, 18014398509481983, 90071992547409919, 288230376151711743, 576460752303423487, 1152921504606846975, 2305843009213693951, 4611686018427387903, 9223372036854775807, 18446744073709551615, 36893488147419103231, 73786976294838206463]
theorem r10_Right.tab7 : rtab .any (opsOf Try.f41 7) = r10_Right.T7 := by kernel_rfl
theorem r10_Right.bits7 : waitsOk r10_Right.T7.2 r10_Right.B7 = true := by kernel_rfl
def r10_Right.T16 : Bool × List (List Nat × List Nat) := (true, [([], []), ([], []), ([0, 1], [0, 1]), ([2], [2]), ([3], [3]), ([], []), ([], []), ([5, 6], [5, 6]), ([7], [7]), ([8], [8]), ([4, 9], [4, 9])])
def r10_Right.B16 : List Nat := [0, 0, 3, 7, 15, 0, 0, 96, 224, 480, 1023]
theorem r10_Right.tab16 : rtab .any (opsOf Try.f41 16) = r10_Right.T16 := by kernel_rfl
theorem r10_Right.bits16 : waitsOk r10_Right.T16.2 r10_Right.B16 = true := by kernel_rfl
def r10_Right.T17 : Bool × List (List Nat × List Nat) := (true, [([], []), ([], []), ([], []), ([1, 2], [1, 2]), ([3], [3]), ([4], [4]), ([0, 5], [0, 5]), ([6, 6, 0, 1, 2, 3, 4, 5, 6], [6])])
def r10_Right.B17 : List Nat := [0, 0, 0, 6, 14, 30, 63, 127]
theorem r10_Right.tab17 : rtab .any (opsOf Try.f41 17) = r10_Right.T17 := by kernel_rfl
theorem r10_Right.bits17 : waitsOk r10_Right.T17.2 r10_Right.B17 = true := by kernel_rfl
def r10_Right.T18 : Bool × List (List Nat × List Nat) := (true, [([], []), ([], []), ([], []), ([1, 2], [1, 2]), ([3], [3]), ([4], [4]), ([0, 5], [0, 5]), ([6], [6]), ([7], [7]), ([7], [7]), ([7], [7]), ([9, 10, 7], [7, 9, 10]), ([11, 7], [7, 11]), ([12, 7], [7, 12]), ([8, 13, 7, 7], [7, 8, 13]), ([14, 7], [7, 14]), ([7], [7]), ([16, 7], [7, 16]), ([15, 17, 7], [7, 15, 17]), ([7, 18], [7, 18])])
def r10_Right.B18 : List Nat := [0, 0, 0, 6, 14, 30, 63, 127, 255, 255, 255, 1791, 3839, 7935, 16383, 32767, 255, 65791, 262143, 524287]
theorem r10_Right.tab18 : rtab .any (opsOf Try.f41 18) = r10_Right.T18 := by kernel_rfl
theorem r10_Right.bits18 : waitsOk r10_Right.T18.2 r10_Right.B18 = true := by kernel_rfl
/-- what has come up: the first k -/
def r10_Right.tk (k : Nat) : Array Bool := (List.replicate k true ++ List.replicate (67 - k) false).toArray
set_option maxHeartbeats 8000000 in
set_option maxRecDepth 100000 in
theorem r10_Right.calls (k : Nat) (A0 : Option Addr) (c0 : Nat) (l0 : List (S31)) (r : Bool) (w : World) (hr0 : Kd.C k31 w A0 l0.length l0) (hc0 : l0.length ≤ c0) (h : r10_Right.f k l0 = some r) :
  Calls Try.prog 41 #[.slice A0 l0.length c0] w fun e w' => e = .returned (.bool r) ∧ Below w.heap.size w w' := by
 have hu31 := Try.underlying31
 have hu27 := Try.underlying27
 have HR0 := Aside0.mk hr0
 have HC0 := Aside0.mk hc0
 clear hr0 hc0
 have HB := Aside0.mk (Below.refl w.heap.size w)
 have H : (if (l0.length : Int) > 120 then (some false) else (r10_Right.l0 k l0 0)) = some r := h
 clear h
 by_cases c2 : (l0.length : Int) > 120
 ·rw [if_pos c2] at H
  have c2b0 : decide (120 < (l0.length : Int)) = true := decide_eq_true c2
  have c2b1 : decide (120 < l0.length) = true := decide_eq_true (by omega)
  clear c2
  obtain rfl := Option.some.inj H
  go_enter Try.func41, Try.ntmps41
  go_wp2
  go_ret
  exact ⟨by first|rfl|(simp [errW_none, errW_some] <;> rfl)|(simp [*, errW_none, errW_some] <;> rfl), by repeat (first|(with_reducible first|exact HB.out|apply below_alloc|apply pw_below_drewN|apply below_drew1)|exact HB.out)⟩
 ·rw [if_neg c2] at H
  have c2b0 : decide (120 < (l0.length : Int)) = false := decide_eq_false c2
  have c2b1 : decide (120 < l0.length) = false := decide_eq_false (by omega)
  clear c2
  have H' := Aside0.mk H
  clear H
  go_enter Try.func41, Try.ntmps41
  go_wp2
  go_loopg [3] k (fun kq v3 w' => ∃ (x3_1 : Int), v3 = .int .i64 x3_1 ∧ Aside0 (r10_Right.l0 kq l0 x3_1 = some r) ∧ Aside0 (kq ≤ k) ∧ Aside0 (Below w.heap.size w w'))
  case atStart => exact ⟨(0), (by first|rfl|(simp;done)|(simp [*];done)), H', ⟨Nat.le_refl _⟩, ⟨by repeat (first|(with_reducible first|exact HB.out|apply below_alloc|apply pw_below_drewN|apply below_drew1)|exact HB.out)⟩⟩
  case round =>
   clear H'
   try clear c2
   try clear c2b0
   try clear c2b1
   try clear p2
   obtain ⟨x3_1, rfl, HA, HK1, HB⟩ := hrel
   cases gk with
   | zero => exact absurd HA.out (by simp [r10_Right.l0])
   | succ k1 =>
    have H := HA.out
    clear HA
    simp only [r10_Right.l0] at H
    by_cases c3 : x3_1 < (l0.length : Int)
    ·rw [if_pos c3] at H
     have c3b0 : decide (x3_1 < (l0.length : Int)) = true := decide_eq_true c3
     clear c3
     by_cases c4 : 0 ≤ x3_1
     ·rw [if_pos c4] at H
      have c4b0 : decide (0 ≤ x3_1) = true := decide_eq_true c4
      clear c4
      have HC7 := Aside0.mk H
      clear H
      have p1 : 0 ≤ (x3_1 : Int) := of_decide_eq_true (by first|(with_reducible assumption)|assumption)
      have q1 : x3_1 < (l0.length : Int) := of_decide_eq_true (by first|(with_reducible assumption)|assumption)
      obtain ⟨ad1, e1, hx1_0, hx1_1, hx1_2, hx1_3, hx1_4, hx1_5, hx1_6, hx1_7, hx1_8, hx1_9, hx1_10, hx1_11⟩ := at_T31 HR0.out x3_1 p1 q1
      cases e1
      replace hx1_0 := (HB.out.cell (World.block_lt_of_cell? w _ hx1_0)).trans hx1_0
      replace hx1_1 := (HB.out.cell (World.block_lt_of_cell? w _ hx1_1)).trans hx1_1
      replace hx1_2 := (HB.out.cell (World.block_lt_of_cell? w _ hx1_2)).trans hx1_2
      replace hx1_3 := (HB.out.cell (World.block_lt_of_cell? w _ hx1_3)).trans hx1_3
      replace hx1_4 := (HB.out.cell (World.block_lt_of_cell? w _ hx1_4)).trans hx1_4
      replace hx1_5 := (HB.out.cell (World.block_lt_of_cell? w _ hx1_5)).trans hx1_5
      replace hx1_6 := (HB.out.cell (World.block_lt_of_cell? w _ hx1_6)).trans hx1_6
      replace hx1_7 := (HB.out.cell (World.block_lt_of_cell? w _ hx1_7)).trans hx1_7
      replace hx1_8 := (HB.out.cell (World.block_lt_of_cell? w _ hx1_8)).trans hx1_8
      replace hx1_9 := (HB.out.cell (World.block_lt_of_cell? w _ hx1_9)).trans hx1_9
      replace hx1_10 := (HB.out.cell (World.block_lt_of_cell? w _ hx1_10)).trans hx1_10
      replace hx1_11 := (HB.out.cell (World.block_lt_of_cell? w _ hx1_11)).trans hx1_11
      replace p1 := eq_true p1
      replace q1 := eq_true q1
      try go_wp2_with (first|((with_reducible refine gate_dst (N := 4) rfl ?_);(try (refine gate_guard (by rfl) ?_;dsimp only));refine box_event ?hg (N := 4) ?hd (cs := #[.string (⟨#[]⟩ : ByteArray), .string (⟨#[]⟩ : ByteArray), .int .i64 0, .int .i64 0, .int .i64 0, .int .i64 0, .int .i64 0, .int .i64 0, .int .i64 0, .int .i64 0, .int .i64 0, .int .i64 0]) (t := 31) ?hr ?_;(case hd => rfl);(case hg => rfl);(case hr => first|(go_simp;done)|(go_simp;rfl));intro gb2 hg w18 hbox hb;have n0_ := Aside0.mk (below_step (by repeat (first|(with_reducible first|exact HB.out|apply below_alloc|apply pw_below_drewN|apply below_drew1)|exact HB.out)) hb);have n1_ := Aside0.mk (hbox);have n2_ := Aside0.mk ((by rw [hg];exact (below_size (by repeat (first|(with_reducible first|exact HB.out|apply below_alloc|apply pw_below_drewN|apply below_drew1)|exact HB.out))) : w.heap.size ≤ gb2));have n3_ := Aside0.mk ((by rw [hg];exact (below_size (by repeat (first|(with_reducible first|exact HB.out|apply below_alloc|apply pw_below_drewN|apply below_drew1)|exact HB.out))) : w.heap.size ≤ gb2));clear HB;have HB := n0_;have BK2 := n1_;have GW2 := n2_;have GE2 := n3_;clear n0_ n1_ n2_ n3_;clear hb hbox hg;have hcz19_0 : w18.cell? ⟨gb2, 0, none⟩ = some (.string (⟨#[]⟩ : ByteArray)) := (blk_cell BK2.out 0).trans rfl;have hcz19_1 : w18.cell? ⟨gb2, 1, none⟩ = some (.string (⟨#[]⟩ : ByteArray)) := (blk_cell BK2.out 1).trans rfl;have hcz19_2 : w18.cell? ⟨gb2, 2, none⟩ = some (.int .i64 0) := (blk_cell BK2.out 2).trans rfl;have hcz19_3 : w18.cell? ⟨gb2, 3, none⟩ = some (.int .i64 0) := (blk_cell BK2.out 3).trans rfl;have hcz19_4 : w18.cell? ⟨gb2, 4, none⟩ = some (.int .i64 0) := (blk_cell BK2.out 4).trans rfl;have hcz19_5 : w18.cell? ⟨gb2, 5, none⟩ = some (.int .i64 0) := (blk_cell BK2.out 5).trans rfl;have hcz19_6 : w18.cell? ⟨gb2, 6, none⟩ = some (.int .i64 0) := (blk_cell BK2.out 6).trans rfl;have hcz19_7 : w18.cell? ⟨gb2, 7, none⟩ = some (.int .i64 0) := (blk_cell BK2.out 7).trans rfl;have hcz19_8 : w18.cell? ⟨gb2, 8, none⟩ = some (.int .i64 0) := (blk_cell BK2.out 8).trans rfl;have hcz19_9 : w18.cell? ⟨gb2, 9, none⟩ = some (.int .i64 0) := (blk_cell BK2.out 9).trans rfl;have hcz19_10 : w18.cell? ⟨gb2, 10, none⟩ = some (.int .i64 0) := (blk_cell BK2.out 10).trans rfl;have hcz19_11 : w18.cell? ⟨gb2, 11, none⟩ = some (.int .i64 0) := (blk_cell BK2.out 11).trans rfl;have hfz19_0 := blk_frozen BK2.out 0;have hfz19_1 := blk_frozen BK2.out 1;have hfz19_2 := blk_frozen BK2.out 2;have hfz19_3 := blk_frozen BK2.out 3;have hfz19_4 := blk_frozen BK2.out 4;have hfz19_5 := blk_frozen BK2.out 5;have hfz19_6 := blk_frozen BK2.out 6;have hfz19_7 := blk_frozen BK2.out 7;have hfz19_8 := blk_frozen BK2.out 8;have hfz19_9 := blk_frozen BK2.out 9;have hfz19_10 := blk_frozen BK2.out 10;have hfz19_11 := blk_frozen BK2.out 11))
      have n0_ : Aside0 (((((((((((((w18.setCell ⟨gb2, 0, none⟩ (.string ((rd_T31 l0 x3_1).f0))).setCell ⟨gb2, 1, none⟩ (.string ((rd_T31 l0 x3_1).f1))).setCell ⟨gb2, 2, none⟩ (.int .i64 ((rd_T31 l0 x3_1).f2.f0))).setCell ⟨gb2, 3, none⟩ (.int .i64 ((rd_T31 l0 x3_1).f2.f1))).setCell ⟨gb2, 4, none⟩ (.int .i64 ((rd_T31 l0 x3_1).f2.f2))).setCell ⟨gb2, 5, none⟩ (.int .i64 ((rd_T31 l0 x3_1).f3.f0))).setCell ⟨gb2, 6, none⟩ (.int .i64 ((rd_T31 l0 x3_1).f3.f1))).setCell ⟨gb2, 7, none⟩ (.int .i64 ((rd_T31 l0 x3_1).f3.f2))).setCell ⟨gb2, 8, none⟩ (.int .i64 ((rd_T31 l0 x3_1).f4.f0))).setCell ⟨gb2, 9, none⟩ (.int .i64 ((rd_T31 l0 x3_1).f4.f1))).setCell ⟨gb2, 10, none⟩ (.int .i64 ((rd_T31 l0 x3_1).f4.f2))).setCell ⟨gb2, 11, none⟩ (.int .i64 ((rd_T31 l0 x3_1).f5))).heap[gb2]? = some (.cells #[.string ((rd_T31 l0 x3_1).f0), .string ((rd_T31 l0 x3_1).f1), .int .i64 ((rd_T31 l0 x3_1).f2.f0), .int .i64 ((rd_T31 l0 x3_1).f2.f1), .int .i64 ((rd_T31 l0 x3_1).f2.f2), .int .i64 ((rd_T31 l0 x3_1).f3.f0), .int .i64 ((rd_T31 l0 x3_1).f3.f1), .int .i64 ((rd_T31 l0 x3_1).f3.f2), .int .i64 ((rd_T31 l0 x3_1).f4.f0), .int .i64 ((rd_T31 l0 x3_1).f4.f1), .int .i64 ((rd_T31 l0 x3_1).f4.f2), .int .i64 ((rd_T31 l0 x3_1).f5)] 31 (0, 0))) := ⟨by (with_reducible repeat (first|refine blk_drewN ?_ _|refine blk_drew ?_|refine blk_alloc ?_ _));refine blk_put (cs := #[.string ((rd_T31 l0 x3_1).f0), .string ((rd_T31 l0 x3_1).f1), .int .i64 ((rd_T31 l0 x3_1).f2.f0), .int .i64 ((rd_T31 l0 x3_1).f2.f1), .int .i64 ((rd_T31 l0 x3_1).f2.f2), .int .i64 ((rd_T31 l0 x3_1).f3.f0), .int .i64 ((rd_T31 l0 x3_1).f3.f1), .int .i64 ((rd_T31 l0 x3_1).f3.f2), .int .i64 ((rd_T31 l0 x3_1).f4.f0), .int .i64 ((rd_T31 l0 x3_1).f4.f1), .int .i64 ((rd_T31 l0 x3_1).f4.f2), .int .i64 0]) ?_ 11 _ rfl;(with_reducible repeat (first|refine blk_drewN ?_ _|refine blk_drew ?_|refine blk_alloc ?_ _));refine blk_put (cs := #[.string ((rd_T31 l0 x3_1).f0), .string ((rd_T31 l0 x3_1).f1), .int .i64 ((rd_T31 l0 x3_1).f2.f0), .int .i64 ((rd_T31 l0 x3_1).f2.f1), .int .i64 ((rd_T31 l0 x3_1).f2.f2), .int .i64 ((rd_T31 l0 x3_1).f3.f0), .int .i64 ((rd_T31 l0 x3_1).f3.f1), .int .i64 ((rd_T31 l0 x3_1).f3.f2), .int .i64 ((rd_T31 l0 x3_1).f4.f0), .int .i64 ((rd_T31 l0 x3_1).f4.f1), .int .i64 0, .int .i64 0]) ?_ 10 _ rfl;(with_reducible repeat (first|refine blk_drewN ?_ _|refine blk_drew ?_|refine blk_alloc ?_ _));refine blk_put (cs := #[.string ((rd_T31 l0 x3_1).f0), .string ((rd_T31 l0 x3_1).f1), .int .i64 ((rd_T31 l0 x3_1).f2.f0), .int .i64 ((rd_T31 l0 x3_1).f2.f1), .int .i64 ((rd_T31 l0 x3_1).f2.f2), .int .i64 ((rd_T31 l0 x3_1).f3.f0), .int .i64 ((rd_T31 l0 x3_1).f3.f1), .int .i64 ((rd_T31 l0 x3_1).f3.f2), .int .i64 ((rd_T31 l0 x3_1).f4.f0), .int .i64 0, .int .i64 0, .int .i64 0]) ?_ 9 _ rfl;(with_reducible repeat (first|refine blk_drewN ?_ _|refine blk_drew ?_|refine blk_alloc ?_ _));refine blk_put (cs := #[.string ((rd_T31 l0 x3_1).f0), .string ((rd_T31 l0 x3_1).f1), .int .i64 ((rd_T31 l0 x3_1).f2.f0), .int .i64 ((rd_T31 l0 x3_1).f2.f1), .int .i64 ((rd_T31 l0 x3_1).f2.f2), .int .i64 ((rd_T31 l0 x3_1).f3.f0), .int .i64 ((rd_T31 l0 x3_1).f3.f1), .int .i64 ((rd_T31 l0 x3_1).f3.f2), .int .i64 0, .int .i64 0, .int .i64 0, .int .i64 0]) ?_ 8 _ rfl;(with_reducible repeat (first|refine blk_drewN ?_ _|refine blk_drew ?_|refine blk_alloc ?_ _));refine blk_put (cs := #[.string ((rd_T31 l0 x3_1).f0), .string ((rd_T31 l0 x3_1).f1), .int .i64 ((rd_T31 l0 x3_1).f2.f0), .int .i64 ((rd_T31 l0 x3_1).f2.f1), .int .i64 ((rd_T31 l0 x3_1).f2.f2), .int .i64 ((rd_T31 l0 x3_1).f3.f0), .int .i64 ((rd_T31 l0 x3_1).f3.f1), .int .i64 0, .int .i64 0, .int .i64 0, .int .i64 0, .int .i64 0]) ?_ 7 _ rfl;(with_reducible repeat (first|refine blk_drewN ?_ _|refine blk_drew ?_|refine blk_alloc ?_ _));refine blk_put (cs := #[.string ((rd_T31 l0 x3_1).f0), .string ((rd_T31 l0 x3_1).f1), .int .i64 ((rd_T31 l0 x3_1).f2.f0), .int .i64 ((rd_T31 l0 x3_1).f2.f1), .int .i64 ((rd_T31 l0 x3_1).f2.f2), .int .i64 ((rd_T31 l0 x3_1).f3.f0), .int .i64 0, .int .i64 0, .int .i64 0, .int .i64 0, .int .i64 0, .int .i64 0]) ?_ 6 _ rfl;(with_reducible repeat (first|refine blk_drewN ?_ _|refine blk_drew ?_|refine blk_alloc ?_ _));refine blk_put (cs := #[.string ((rd_T31 l0 x3_1).f0), .string ((rd_T31 l0 x3_1).f1), .int .i64 ((rd_T31 l0 x3_1).f2.f0), .int .i64 ((rd_T31 l0 x3_1).f2.f1), .int .i64 ((rd_T31 l0 x3_1).f2.f2), .int .i64 0, .int .i64 0, .int .i64 0, .int .i64 0, .int .i64 0, .int .i64 0, .int .i64 0]) ?_ 5 _ rfl;(with_reducible repeat (first|refine blk_drewN ?_ _|refine blk_drew ?_|refine blk_alloc ?_ _));refine blk_put (cs := #[.string ((rd_T31 l0 x3_1).f0), .string ((rd_T31 l0 x3_1).f1), .int .i64 ((rd_T31 l0 x3_1).f2.f0), .int .i64 ((rd_T31 l0 x3_1).f2.f1), .int .i64 0, .int .i64 0, .int .i64 0, .int .i64 0, .int .i64 0, .int .i64 0, .int .i64 0, .int .i64 0]) ?_ 4 _ rfl;(with_reducible repeat (first|refine blk_drewN ?_ _|refine blk_drew ?_|refine blk_alloc ?_ _));refine blk_put (cs := #[.string ((rd_T31 l0 x3_1).f0), .string ((rd_T31 l0 x3_1).f1), .int .i64 ((rd_T31 l0 x3_1).f2.f0), .int .i64 0, .int .i64 0, .int .i64 0, .int .i64 0, .int .i64 0, .int .i64 0, .int .i64 0, .int .i64 0, .int .i64 0]) ?_ 3 _ rfl;(with_reducible repeat (first|refine blk_drewN ?_ _|refine blk_drew ?_|refine blk_alloc ?_ _));refine blk_put (cs := #[.string ((rd_T31 l0 x3_1).f0), .string ((rd_T31 l0 x3_1).f1), .int .i64 0, .int .i64 0, .int .i64 0, .int .i64 0, .int .i64 0, .int .i64 0, .int .i64 0, .int .i64 0, .int .i64 0, .int .i64 0]) ?_ 2 _ rfl;(with_reducible repeat (first|refine blk_drewN ?_ _|refine blk_drew ?_|refine blk_alloc ?_ _));refine blk_put (cs := #[.string ((rd_T31 l0 x3_1).f0), .string (⟨#[]⟩ : ByteArray), .int .i64 0, .int .i64 0, .int .i64 0, .int .i64 0, .int .i64 0, .int .i64 0, .int .i64 0, .int .i64 0, .int .i64 0, .int .i64 0]) ?_ 1 _ rfl;(with_reducible repeat (first|refine blk_drewN ?_ _|refine blk_drew ?_|refine blk_alloc ?_ _));refine blk_put (cs := #[.string (⟨#[]⟩ : ByteArray), .string (⟨#[]⟩ : ByteArray), .int .i64 0, .int .i64 0, .int .i64 0, .int .i64 0, .int .i64 0, .int .i64 0, .int .i64 0, .int .i64 0, .int .i64 0, .int .i64 0]) ?_ 0 _ rfl;(with_reducible repeat (first|refine blk_drewN ?_ _|refine blk_drew ?_|refine blk_alloc ?_ _));exact BK2.out⟩
      have n1_ : Aside0 (Below w.heap.size w ((((((((((((w18.setCell ⟨gb2, 0, none⟩ (.string ((rd_T31 l0 x3_1).f0))).setCell ⟨gb2, 1, none⟩ (.string ((rd_T31 l0 x3_1).f1))).setCell ⟨gb2, 2, none⟩ (.int .i64 ((rd_T31 l0 x3_1).f2.f0))).setCell ⟨gb2, 3, none⟩ (.int .i64 ((rd_T31 l0 x3_1).f2.f1))).setCell ⟨gb2, 4, none⟩ (.int .i64 ((rd_T31 l0 x3_1).f2.f2))).setCell ⟨gb2, 5, none⟩ (.int .i64 ((rd_T31 l0 x3_1).f3.f0))).setCell ⟨gb2, 6, none⟩ (.int .i64 ((rd_T31 l0 x3_1).f3.f1))).setCell ⟨gb2, 7, none⟩ (.int .i64 ((rd_T31 l0 x3_1).f3.f2))).setCell ⟨gb2, 8, none⟩ (.int .i64 ((rd_T31 l0 x3_1).f4.f0))).setCell ⟨gb2, 9, none⟩ (.int .i64 ((rd_T31 l0 x3_1).f4.f1))).setCell ⟨gb2, 10, none⟩ (.int .i64 ((rd_T31 l0 x3_1).f4.f2))).setCell ⟨gb2, 11, none⟩ (.int .i64 ((rd_T31 l0 x3_1).f5)))) := ⟨by repeat (first|(with_reducible first|exact HB.out|apply below_alloc|apply pw_below_drewN|apply below_drew1|refine below_set ?_ GE2.out)|exact HB.out)⟩
      (try clear BK2)
      (try clear HB)
      generalize ((((((((((((w18.setCell ⟨gb2, 0, none⟩ (.string ((rd_T31 l0 x3_1).f0))).setCell ⟨gb2, 1, none⟩ (.string ((rd_T31 l0 x3_1).f1))).setCell ⟨gb2, 2, none⟩ (.int .i64 ((rd_T31 l0 x3_1).f2.f0))).setCell ⟨gb2, 3, none⟩ (.int .i64 ((rd_T31 l0 x3_1).f2.f1))).setCell ⟨gb2, 4, none⟩ (.int .i64 ((rd_T31 l0 x3_1).f2.f2))).setCell ⟨gb2, 5, none⟩ (.int .i64 ((rd_T31 l0 x3_1).f3.f0))).setCell ⟨gb2, 6, none⟩ (.int .i64 ((rd_T31 l0 x3_1).f3.f1))).setCell ⟨gb2, 7, none⟩ (.int .i64 ((rd_T31 l0 x3_1).f3.f2))).setCell ⟨gb2, 8, none⟩ (.int .i64 ((rd_T31 l0 x3_1).f4.f0))).setCell ⟨gb2, 9, none⟩ (.int .i64 ((rd_T31 l0 x3_1).f4.f1))).setCell ⟨gb2, 10, none⟩ (.int .i64 ((rd_T31 l0 x3_1).f4.f2))).setCell ⟨gb2, 11, none⟩ (.int .i64 ((rd_T31 l0 x3_1).f5))) = w20 at n0_ n1_ ⊢
      have BK2 := n0_
      have HB := n1_
      clear n0_ n1_
      have b0 : w20.cell? ⟨gb2, 0, none⟩ = some (.string ((rd_T31 l0 x3_1).f0)) := (blk_cell BK2.out 0).trans rfl
      have b1 : w20.cell? ⟨gb2, 1, none⟩ = some (.string ((rd_T31 l0 x3_1).f1)) := (blk_cell BK2.out 1).trans rfl
      have b2 : w20.cell? ⟨gb2, 2, none⟩ = some (.int .i64 ((rd_T31 l0 x3_1).f2.f0)) := (blk_cell BK2.out 2).trans rfl
      have b3 : w20.cell? ⟨gb2, 3, none⟩ = some (.int .i64 ((rd_T31 l0 x3_1).f2.f1)) := (blk_cell BK2.out 3).trans rfl
      have b4 : w20.cell? ⟨gb2, 4, none⟩ = some (.int .i64 ((rd_T31 l0 x3_1).f2.f2)) := (blk_cell BK2.out 4).trans rfl
      have b5 : w20.cell? ⟨gb2, 5, none⟩ = some (.int .i64 ((rd_T31 l0 x3_1).f3.f0)) := (blk_cell BK2.out 5).trans rfl
      have b6 : w20.cell? ⟨gb2, 6, none⟩ = some (.int .i64 ((rd_T31 l0 x3_1).f3.f1)) := (blk_cell BK2.out 6).trans rfl
      have b7 : w20.cell? ⟨gb2, 7, none⟩ = some (.int .i64 ((rd_T31 l0 x3_1).f3.f2)) := (blk_cell BK2.out 7).trans rfl
      have b8 : w20.cell? ⟨gb2, 8, none⟩ = some (.int .i64 ((rd_T31 l0 x3_1).f4.f0)) := (blk_cell BK2.out 8).trans rfl
      have b9 : w20.cell? ⟨gb2, 9, none⟩ = some (.int .i64 ((rd_T31 l0 x3_1).f4.f1)) := (blk_cell BK2.out 9).trans rfl
      have b10 : w20.cell? ⟨gb2, 10, none⟩ = some (.int .i64 ((rd_T31 l0 x3_1).f4.f2)) := (blk_cell BK2.out 10).trans rfl
      have b11 : w20.cell? ⟨gb2, 11, none⟩ = some (.int .i64 ((rd_T31 l0 x3_1).f5)) := (blk_cell BK2.out 11).trans rfl
      obtain ⟨t3, A50, H⟩ := Option.bind_eq_some_iff.mp HC7.out
      have A5 := Aside0.mk A50
      have HC := Aside0.mk H
      clear A50 H HC7
      have c9 : 0 < x3_1 → 0 ≤ wrap64 (x3_1 - 1) ∧ wrap64 (x3_1 - 1) < (l0.length : Int) := fun q => by have := of_eq_true p1; have := of_eq_true q1; have : l0.length ≤ 9223372036854775807 := HR0.out.2.1; unfold wrap64; omega
      by_cases c7 : x3_1 > 0
      obtain ⟨c9, c10⟩ := c9 c7
      have c7b0 : decide (0 < x3_1) = true := decide_eq_true c7
      obtain ⟨ji8, hji8⟩ : ∃ j_ : Int, (wrap64 (x3_1 - 1)) = j_ := ⟨_, rfl⟩
      rw [hji8] at c9 c10
      have hji8w : (IntKind.i64.wrap (x3_1 - 1)) = ji8 := (i64_w _).trans hji8
      obtain ⟨ad7, e7, hp, -⟩ := at_T31 HR0.out ji8 c9 c10
      obtain rfl : ad1 = ad7 := (by injection e7)
      replace hp := (HB.out.cell (World.block_lt_of_cell? w _ hp)).trans hp
      have p7 := eq_true c9
      have q7 := eq_true c10
      have C7 := Aside0.mk c7
      have C9 := Aside0.mk c9
      have C10 := Aside0.mk c10
      clear c7 c9 c10
      rotate_left
      have c7b0 : decide (0 < x3_1) = false := decide_eq_false c7
      have N7 := Aside0.mk c7
      clear c7 c9
      all_goals (
        have HBc := Aside0.mk (below_drew1 (Below.refl w20.heap.size w20))
        first | (refine start_ (n := 67) (S := fun w' => w'.cell? ⟨gb2, 0, none⟩ = some (.string ((rd_T31 l0 x3_1).f0)) ∧ w'.cell? ⟨gb2, 1, none⟩ = some (.string ((rd_T31 l0 x3_1).f1)) ∧ w'.cell? ⟨gb2, 2, none⟩ = some (.int .i64 ((rd_T31 l0 x3_1).f2.f0)) ∧ w'.cell? ⟨gb2, 3, none⟩ = some (.int .i64 ((rd_T31 l0 x3_1).f2.f1)) ∧ w'.cell? ⟨gb2, 4, none⟩ = some (.int .i64 ((rd_T31 l0 x3_1).f2.f2)) ∧ w'.cell? ⟨gb2, 5, none⟩ = some (.int .i64 ((rd_T31 l0 x3_1).f3.f0)) ∧ w'.cell? ⟨gb2, 6, none⟩ = some (.int .i64 ((rd_T31 l0 x3_1).f3.f1)) ∧ w'.cell? ⟨gb2, 7, none⟩ = some (.int .i64 ((rd_T31 l0 x3_1).f3.f2)) ∧ w'.cell? ⟨gb2, 8, none⟩ = some (.int .i64 ((rd_T31 l0 x3_1).f4.f0)) ∧ w'.cell? ⟨gb2, 9, none⟩ = some (.int .i64 ((rd_T31 l0 x3_1).f4.f1)) ∧ w'.cell? ⟨gb2, 10, none⟩ = some (.int .i64 ((rd_T31 l0 x3_1).f4.f2)) ∧ w'.cell? ⟨gb2, 11, none⟩ = some (.int .i64 ((rd_T31 l0 x3_1).f5)) ∧ w'.cell? (ad1.add (((ji8)).toNat * 12)) = some (.string ((rd_T31 l0 (ji8)).f0))) (ds := []) #[false, false, false, false, false, false, false, false, false, false, false, false, false, false, false, false, false, false, false, false, false, false, false, false, false, false, false, false, false, false, false, false, false, false, false, false, false, false, false, false, false, false, false, false, false, false, false, false, false, false, false, false, false, false, false, false, false, false, false, false, false, false, false, false, false, false, false] (by kernel_rfl) rfl rfl ?_ (fun hHeld => ?_); (refine ⟨?_, ?_, ?_, ?_, ?_, ?_, ?_, ?_, ?_, ?_, ?_, ?_, ?_⟩ <;> first | exact pw_cell_below HBc.out (by assumption) | (go_keep; done))) | (refine start_ (n := 67) (S := fun w' => w'.cell? ⟨gb2, 0, none⟩ = some (.string ((rd_T31 l0 x3_1).f0)) ∧ w'.cell? ⟨gb2, 1, none⟩ = some (.string ((rd_T31 l0 x3_1).f1)) ∧ w'.cell? ⟨gb2, 2, none⟩ = some (.int .i64 ((rd_T31 l0 x3_1).f2.f0)) ∧ w'.cell? ⟨gb2, 3, none⟩ = some (.int .i64 ((rd_T31 l0 x3_1).f2.f1)) ∧ w'.cell? ⟨gb2, 4, none⟩ = some (.int .i64 ((rd_T31 l0 x3_1).f2.f2)) ∧ w'.cell? ⟨gb2, 5, none⟩ = some (.int .i64 ((rd_T31 l0 x3_1).f3.f0)) ∧ w'.cell? ⟨gb2, 6, none⟩ = some (.int .i64 ((rd_T31 l0 x3_1).f3.f1)) ∧ w'.cell? ⟨gb2, 7, none⟩ = some (.int .i64 ((rd_T31 l0 x3_1).f3.f2)) ∧ w'.cell? ⟨gb2, 8, none⟩ = some (.int .i64 ((rd_T31 l0 x3_1).f4.f0)) ∧ w'.cell? ⟨gb2, 9, none⟩ = some (.int .i64 ((rd_T31 l0 x3_1).f4.f1)) ∧ w'.cell? ⟨gb2, 10, none⟩ = some (.int .i64 ((rd_T31 l0 x3_1).f4.f2)) ∧ w'.cell? ⟨gb2, 11, none⟩ = some (.int .i64 ((rd_T31 l0 x3_1).f5))) (ds := []) #[false, false, false, false, false, false, false, false, false, false, false, false, false, false, false, false, false, false, false, false, false, false, false, false, false, false, false, false, false, false, false, false, false, false, false, false, false, false, false, false, false, false, false, false, false, false, false, false, false, false, false, false, false, false, false, false, false, false, false, false, false, false, false, false, false, false, false] (by kernel_rfl) rfl rfl ?_ (fun hHeld => ?_); (refine ⟨?_, ?_, ?_, ?_, ?_, ?_, ?_, ?_, ?_, ?_, ?_, ?_⟩ <;> first | exact pw_cell_below HBc.out (by assumption) | (go_keep; done)))
        refine with_tabW r10_Right.tab7 r10_Right.bits7 (fun HT_ HW_ => ?_)
        generalize w20.drew = wd at HBc hHeld ⊢)
      all_goals (refine pure_ (i := 0) (N := some 21) (v := ?_) (a' := ?_) (r10_Right.tk 1) rfl rfl (any_of HT_.out (by kernel_rfl)) (fun _ _ _ h => h) (Or.inl ⟨by rfl, ?_⟩) ?_ ?_;rotate_left;(intro w';go_simp;with_reducible rfl);rotate_left;(simp only [Act.put, List.setIfInBounds_toArray, List.set_cons_zero, List.set_cons_succ, i64_w, i32_w];rfl))
      all_goals (refine take_ (i := 1) (N := some 22) (v := ?_) (a' := ?_) (r10_Right.tk 2) rfl rfl (take_ofW HT_.out HW_.out (by kernel_rfl)) (fun _ _ _ h => h) (Or.inl ⟨by rfl, ?_⟩) hHeld ?_ ?_;rotate_left;(intro w' hSw;(try dsimp only at hSw);go_simp;with_reducible rfl);rotate_left;(simp only [Act.put, List.setIfInBounds_toArray, List.set_cons_zero, List.set_cons_succ, i64_w, i32_w];rfl))
      all_goals (refine one_ (i := 2) (N := some 23) (r10_Right.tk 3) rfl rfl (one_of HT_.out (by kernel_rfl)) (by decide) (fun K hK => ?_);refine goes_ Try.func105 (by kernel_rfl) rfl #[.string ((rd_T31 l0 x3_1).f0)] (by rfl) rfl rfl (by (try simp only [List.map_toArray, List.map_cons, List.map_nil]);first|done|rfl|(simp only [List.length_drop, List.length_take];rfl)) ?_;with_reducible refine (r10_MayName.calls _ _ _ A5.out).mono ?_;rintro e wx2 ⟨rfl, hd⟩;have hb := hd.below;clear hd;refine ⟨_, rfl, ?_⟩;have HBn := Aside0.mk (below_step HBc.out hb);clear HBc;have HBc := HBn;clear HBn;refine hK.out _ _ (by first|exact ⟨pw_cell_below hb hHeld.1, pw_cell_below hb hHeld.2.1, pw_cell_below hb hHeld.2.2.1, pw_cell_below hb hHeld.2.2.2.1, pw_cell_below hb hHeld.2.2.2.2.1, pw_cell_below hb hHeld.2.2.2.2.2.1, pw_cell_below hb hHeld.2.2.2.2.2.2.1, pw_cell_below hb hHeld.2.2.2.2.2.2.2.1, pw_cell_below hb hHeld.2.2.2.2.2.2.2.2.1, pw_cell_below hb hHeld.2.2.2.2.2.2.2.2.2.1, pw_cell_below hb hHeld.2.2.2.2.2.2.2.2.2.2.1, pw_cell_below hb hHeld.2.2.2.2.2.2.2.2.2.2.2.1, pw_cell_below hb hHeld.2.2.2.2.2.2.2.2.2.2.2.2⟩|exact ⟨pw_cell_below hb hHeld.1, pw_cell_below hb hHeld.2.1, pw_cell_below hb hHeld.2.2.1, pw_cell_below hb hHeld.2.2.2.1, pw_cell_below hb hHeld.2.2.2.2.1, pw_cell_below hb hHeld.2.2.2.2.2.1, pw_cell_below hb hHeld.2.2.2.2.2.2.1, pw_cell_below hb hHeld.2.2.2.2.2.2.2.1, pw_cell_below hb hHeld.2.2.2.2.2.2.2.2.1, pw_cell_below hb hHeld.2.2.2.2.2.2.2.2.2.1, pw_cell_below hb hHeld.2.2.2.2.2.2.2.2.2.2.1, pw_cell_below hb hHeld.2.2.2.2.2.2.2.2.2.2.2⟩) (fun hHeld => ?_);clear hK K hb;refine norm_ (a' := ?_) ?_ ?_;rotate_left;(show Act.put _ (some 23) _ = _;simp only [Act.put, List.setIfInBounds_toArray, List.set_cons_zero, List.set_cons_succ, i64_w, i32_w];rfl))
      all_goals (try (have H := HC.out; clear HC; by_cases c6 : t3 = true; (case' pos => subst c6; rw [if_pos rfl] at H; have HC := Aside0.mk H; clear H); (case' neg => rw [if_neg c6] at H; have q_ : t3 = false := Bool.eq_false_iff.mpr c6; subst q_; clear c6; have HC := Aside0.mk H; clear H)))
      all_goals (refine pure_ (i := 3) (N := some 24) (v := ?_) (a' := ?_) (r10_Right.tk 4) rfl rfl (any_of HT_.out (by kernel_rfl)) (fun _ _ _ h => h) (Or.inl ⟨by rfl, ?_⟩) ?_ ?_;rotate_left;(intro w';go_simp;with_reducible rfl);rotate_left;(simp only [Act.put, List.setIfInBounds_toArray, List.set_cons_zero, List.set_cons_succ, i64_w, i32_w];rfl))
      all_goals (refine pure_ (i := 4) (N := some 25) (v := ?_) (a' := ?_) (r10_Right.tk 5) rfl rfl (any_of HT_.out (by kernel_rfl)) (fun _ _ _ h => h) (Or.inl ⟨by rfl, ?_⟩) ?_ ?_;rotate_left;(intro w';go_simp;with_reducible rfl);rotate_left;(simp only [Act.put, List.setIfInBounds_toArray, List.set_cons_zero, List.set_cons_succ, i64_w, i32_w];rfl))
      all_goals (first|(refine pure_ (i := 5) (N := some 26) (v := ?_) (a' := ?_) (r10_Right.tk 6) rfl rfl (any_of HT_.out (by kernel_rfl)) (fun _ _ _ h => h) (Or.inl ⟨by rfl, ?_⟩) ?_ ?_;rotate_left;(intro w';go_simp;with_reducible rfl);rotate_left;(simp only [Act.put, List.setIfInBounds_toArray, List.set_cons_zero, List.set_cons_succ, i64_w, i32_w];rfl))|(refine pure_ (i := 5) (N := some 26) (v := undef) (a' := ?_) (r10_Right.tk 6) rfl rfl (any_of HT_.out (by kernel_rfl)) (fun _ _ _ h => h) (Or.inr ⟨by rfl, rfl⟩) ?_ ?_;rotate_left;(simp only [Act.put, List.setIfInBounds_toArray, List.set_cons_zero, List.set_cons_succ, i64_w, i32_w];rfl)))
      all_goals (first|(refine pure_ (i := 6) (N := some 27) (v := ?_) (a' := ?_) (r10_Right.tk 7) rfl rfl (any_of HT_.out (by kernel_rfl)) (fun _ _ _ h => h) (Or.inl ⟨by rfl, ?_⟩) ?_ ?_;rotate_left;(intro w';go_simp;with_reducible rfl);rotate_left;(simp only [Act.put, List.setIfInBounds_toArray, List.set_cons_zero, List.set_cons_succ, i64_w, i32_w];rfl))|(refine pure_ (i := 6) (N := some 27) (v := undef) (a' := ?_) (r10_Right.tk 7) rfl rfl (any_of HT_.out (by kernel_rfl)) (fun _ _ _ h => h) (Or.inr ⟨by rfl, rfl⟩) ?_ ?_;rotate_left;(simp only [Act.put, List.setIfInBounds_toArray, List.set_cons_zero, List.set_cons_succ, i64_w, i32_w];rfl)))
      all_goals (first|(refine pure_ (i := 7) (N := some 28) (v := ?_) (a' := ?_) (r10_Right.tk 8) rfl rfl (any_of HT_.out (by kernel_rfl)) (fun _ _ _ h => h) (Or.inl ⟨by rfl, ?_⟩) ?_ ?_;rotate_left;(intro w';go_simp;with_reducible rfl);rotate_left;(simp only [Act.put, List.setIfInBounds_toArray, List.set_cons_zero, List.set_cons_succ, i64_w, i32_w];rfl))|(refine pure_ (i := 7) (N := some 28) (v := undef) (a' := ?_) (r10_Right.tk 8) rfl rfl (any_of HT_.out (by kernel_rfl)) (fun _ _ _ h => h) (Or.inr ⟨by rfl, rfl⟩) ?_ ?_;rotate_left;(simp only [Act.put, List.setIfInBounds_toArray, List.set_cons_zero, List.set_cons_succ, i64_w, i32_w];rfl)))
      all_goals (first|(refine pure_ (i := 8) (N := some 29) (v := ?_) (a' := ?_) (r10_Right.tk 9) rfl rfl (any_of HT_.out (by kernel_rfl)) (fun _ _ _ h => h) (Or.inl ⟨by rfl, ?_⟩) ?_ ?_;rotate_left;(intro w';go_simp;with_reducible rfl);rotate_left;(simp only [Act.put, List.setIfInBounds_toArray, List.set_cons_zero, List.set_cons_succ, i64_w, i32_w];rfl))|(refine pure_ (i := 8) (N := some 29) (v := undef) (a' := ?_) (r10_Right.tk 9) rfl rfl (any_of HT_.out (by kernel_rfl)) (fun _ _ _ h => h) (Or.inr ⟨by rfl, rfl⟩) ?_ ?_;rotate_left;(simp only [Act.put, List.setIfInBounds_toArray, List.set_cons_zero, List.set_cons_succ, i64_w, i32_w];rfl)))
      all_goals (first|(refine pure_ (i := 9) (N := some 30) (v := ?_) (a' := ?_) (r10_Right.tk 10) rfl rfl (any_of HT_.out (by kernel_rfl)) (fun _ _ _ h => h) (Or.inl ⟨by rfl, ?_⟩) ?_ ?_;rotate_left;(intro w';go_simp;with_reducible rfl);rotate_left;(simp only [Act.put, List.setIfInBounds_toArray, List.set_cons_zero, List.set_cons_succ, i64_w, i32_w];rfl))|(refine pure_ (i := 9) (N := some 30) (v := undef) (a' := ?_) (r10_Right.tk 10) rfl rfl (any_of HT_.out (by kernel_rfl)) (fun _ _ _ h => h) (Or.inr ⟨by rfl, rfl⟩) ?_ ?_;rotate_left;(simp only [Act.put, List.setIfInBounds_toArray, List.set_cons_zero, List.set_cons_succ, i64_w, i32_w];rfl)))
      all_goals (first|(refine pure_ (i := 10) (N := some 31) (v := ?_) (a' := ?_) (r10_Right.tk 11) rfl rfl (any_of HT_.out (by kernel_rfl)) (fun _ _ _ h => h) (Or.inl ⟨by rfl, ?_⟩) ?_ ?_;rotate_left;(intro w';go_simp;with_reducible rfl);rotate_left;(simp only [Act.put, List.setIfInBounds_toArray, List.set_cons_zero, List.set_cons_succ, i64_w, i32_w];rfl))|(refine pure_ (i := 10) (N := some 31) (v := undef) (a' := ?_) (r10_Right.tk 11) rfl rfl (any_of HT_.out (by kernel_rfl)) (fun _ _ _ h => h) (Or.inr ⟨by rfl, rfl⟩) ?_ ?_;rotate_left;(simp only [Act.put, List.setIfInBounds_toArray, List.set_cons_zero, List.set_cons_succ, i64_w, i32_w];rfl)))
      all_goals (first|(refine pure_ (i := 11) (N := some 32) (v := ?_) (a' := ?_) (r10_Right.tk 12) rfl rfl (any_of HT_.out (by kernel_rfl)) (fun _ _ _ h => h) (Or.inl ⟨by rfl, ?_⟩) ?_ ?_;rotate_left;(intro w';go_simp;with_reducible rfl);rotate_left;(simp only [Act.put, List.setIfInBounds_toArray, List.set_cons_zero, List.set_cons_succ, i64_w, i32_w];rfl))|(refine pure_ (i := 11) (N := some 32) (v := undef) (a' := ?_) (r10_Right.tk 12) rfl rfl (any_of HT_.out (by kernel_rfl)) (fun _ _ _ h => h) (Or.inr ⟨by rfl, rfl⟩) ?_ ?_;rotate_left;(simp only [Act.put, List.setIfInBounds_toArray, List.set_cons_zero, List.set_cons_succ, i64_w, i32_w];rfl)))
      all_goals (first|(refine pure_ (i := 12) (N := some 33) (v := ?_) (a' := ?_) (r10_Right.tk 13) rfl rfl (any_of HT_.out (by kernel_rfl)) (fun _ _ _ h => h) (Or.inl ⟨by rfl, ?_⟩) ?_ ?_;rotate_left;(intro w';go_simp;with_reducible rfl);rotate_left;(simp only [Act.put, List.setIfInBounds_toArray, List.set_cons_zero, List.set_cons_succ, i64_w, i32_w];rfl))|(refine pure_ (i := 12) (N := some 33) (v := undef) (a' := ?_) (r10_Right.tk 13) rfl rfl (any_of HT_.out (by kernel_rfl)) (fun _ _ _ h => h) (Or.inr ⟨by rfl, rfl⟩) ?_ ?_;rotate_left;(simp only [Act.put, List.setIfInBounds_toArray, List.set_cons_zero, List.set_cons_succ, i64_w, i32_w];rfl)))
      all_goals (try (have H := HC.out; clear HC; rw [if_neg N7.out] at H; have HC := Aside0.mk H; clear H))
      all_goals (try (have H := HC.out; clear HC; rw [if_pos C7.out, hji8, if_pos C9.out, if_pos C10.out] at H; by_cases c11 : ((Op.bytesLess (((rd_T31 l0 ji8).f0).toList) (((rd_T31 l0 x3_1).f0).toList)) = true); (case' pos => rw [if_pos c11] at H; have c11b0 : (Op.bytesLess (((rd_T31 l0 ji8).f0).toList) (((rd_T31 l0 x3_1).f0).toList)) = true := c11; clear c11; have HC := Aside0.mk H; clear H); (case' neg => rw [if_neg c11] at H; have c11b0 : (Op.bytesLess (((rd_T31 l0 ji8).f0).toList) (((rd_T31 l0 x3_1).f0).toList)) = false := Bool.eq_false_iff.mpr c11; clear c11; have HC := Aside0.mk H; clear H)))
      all_goals (first|(refine take_ (i := 13) (N := some 34) (v := ?_) (a' := ?_) (r10_Right.tk 14) rfl rfl (take_ofW HT_.out HW_.out (by kernel_rfl)) (fun _ _ _ h => h) (Or.inl ⟨by rfl, ?_⟩) hHeld ?_ ?_;rotate_left;(intro w' hSw;(try dsimp only at hSw);go_simp;with_reducible rfl);rotate_left;(simp only [Act.put, List.setIfInBounds_toArray, List.set_cons_zero, List.set_cons_succ, i64_w, i32_w];rfl))|(refine pure_ (i := 13) (N := some 34) (v := undef) (a' := ?_) (r10_Right.tk 14) rfl rfl (any_of HT_.out (by kernel_rfl)) (fun _ _ _ h => h) (Or.inr ⟨by rfl, rfl⟩) ?_ ?_;rotate_left;(simp only [Act.put, List.setIfInBounds_toArray, List.set_cons_zero, List.set_cons_succ, i64_w, i32_w];rfl)))
      all_goals (first|(refine pure_ (i := 14) (N := some 35) (v := ?_) (a' := ?_) (r10_Right.tk 15) rfl rfl (any_of HT_.out (by kernel_rfl)) (fun _ _ _ h => h) (Or.inl ⟨by rfl, ?_⟩) ?_ ?_;rotate_left;(intro w';go_simp;with_reducible rfl);rotate_left;(simp only [Act.put, List.setIfInBounds_toArray, List.set_cons_zero, List.set_cons_succ, i64_w, i32_w];rfl))|(refine pure_ (i := 14) (N := some 35) (v := undef) (a' := ?_) (r10_Right.tk 15) rfl rfl (any_of HT_.out (by kernel_rfl)) (fun _ _ _ h => h) (Or.inr ⟨by rfl, rfl⟩) ?_ ?_;rotate_left;(simp only [Act.put, List.setIfInBounds_toArray, List.set_cons_zero, List.set_cons_succ, i64_w, i32_w];rfl)))
      all_goals (first|(refine take_ (i := 15) (N := some 36) (v := ?_) (a' := ?_) (r10_Right.tk 16) rfl rfl (take_ofW HT_.out HW_.out (by kernel_rfl)) (fun _ _ _ h => h) (Or.inl ⟨by rfl, ?_⟩) hHeld ?_ ?_;rotate_left;(intro w' hSw;(try dsimp only at hSw);go_simp;with_reducible rfl);rotate_left;(simp only [Act.put, List.setIfInBounds_toArray, List.set_cons_zero, List.set_cons_succ, i64_w, i32_w];rfl))|(refine pure_ (i := 15) (N := some 36) (v := undef) (a' := ?_) (r10_Right.tk 16) rfl rfl (any_of HT_.out (by kernel_rfl)) (fun _ _ _ h => h) (Or.inr ⟨by rfl, rfl⟩) ?_ ?_;rotate_left;(simp only [Act.put, List.setIfInBounds_toArray, List.set_cons_zero, List.set_cons_succ, i64_w, i32_w];rfl)))
      all_goals (first|(refine pure_ (i := 16) (N := some 37) (v := ?_) (a' := ?_) (r10_Right.tk 17) rfl rfl (any_of HT_.out (by kernel_rfl)) (fun _ _ _ h => h) (Or.inl ⟨by rfl, ?_⟩) ?_ ?_;rotate_left;(intro w';go_simp;with_reducible rfl);rotate_left;(simp only [Act.put, List.setIfInBounds_toArray, List.set_cons_zero, List.set_cons_succ, i64_w, i32_w];rfl))|(refine pure_ (i := 16) (N := some 37) (v := undef) (a' := ?_) (r10_Right.tk 17) rfl rfl (any_of HT_.out (by kernel_rfl)) (fun _ _ _ h => h) (Or.inr ⟨by rfl, rfl⟩) ?_ ?_;rotate_left;(simp only [Act.put, List.setIfInBounds_toArray, List.set_cons_zero, List.set_cons_succ, i64_w, i32_w];rfl)))
      all_goals (first|(refine pure_ (i := 17) (N := some 38) (v := ?_) (a' := ?_) (r10_Right.tk 18) rfl rfl (any_of HT_.out (by kernel_rfl)) (fun _ _ _ h => h) (Or.inl ⟨by rfl, ?_⟩) ?_ ?_;rotate_left;(intro w';go_simp;with_reducible rfl);rotate_left;(simp only [Act.put, List.setIfInBounds_toArray, List.set_cons_zero, List.set_cons_succ, i64_w, i32_w];rfl))|(refine pure_ (i := 17) (N := some 38) (v := undef) (a' := ?_) (r10_Right.tk 18) rfl rfl (any_of HT_.out (by kernel_rfl)) (fun _ _ _ h => h) (Or.inr ⟨by rfl, rfl⟩) ?_ ?_;rotate_left;(simp only [Act.put, List.setIfInBounds_toArray, List.set_cons_zero, List.set_cons_succ, i64_w, i32_w];rfl)))
      all_goals (refine pure_ (i := 18) (N := some 39) (v := ?_) (a' := ?_) (r10_Right.tk 19) rfl rfl (any_of HT_.out (by kernel_rfl)) (fun _ _ _ h => h) (Or.inl ⟨by rfl, ?_⟩) ?_ ?_;rotate_left;(intro w';go_simp;with_reducible rfl);rotate_left;(simp only [Act.put, List.setIfInBounds_toArray, List.set_cons_zero, List.set_cons_succ, i64_w, i32_w];rfl))
      all_goals (refine pure_ (i := 19) (N := some 40) (v := ?_) (a' := ?_) (r10_Right.tk 20) rfl rfl (any_of HT_.out (by kernel_rfl)) (fun _ _ _ h => h) (Or.inl ⟨by rfl, ?_⟩) ?_ ?_;rotate_left;(intro w';go_simp;with_reducible rfl);rotate_left;(simp only [Act.put, List.setIfInBounds_toArray, List.set_cons_zero, List.set_cons_succ, i64_w, i32_w];rfl))
      all_goals (try (have H := HC.out; obtain ⟨t5, A120, H2⟩ := Option.bind_eq_some_iff.mp H; clear H HC; have A12 := Aside0.mk A120; clear A120; have HC := Aside0.mk H2; clear H2))
      all_goals (first|(refine pure_ (i := 20) (N := some 41) (v := ?_) (a' := ?_) (r10_Right.tk 21) rfl rfl (any_of HT_.out (by kernel_rfl)) (fun _ _ _ h => h) (Or.inl ⟨by rfl, ?_⟩) ?_ ?_;rotate_left;(intro w';go_simp;with_reducible rfl);rotate_left;(simp only [Act.put, List.setIfInBounds_toArray, List.set_cons_zero, List.set_cons_succ, i64_w, i32_w];rfl))|(refine pure_ (i := 20) (N := some 41) (v := undef) (a' := ?_) (r10_Right.tk 21) rfl rfl (any_of HT_.out (by kernel_rfl)) (fun _ _ _ h => h) (Or.inr ⟨by rfl, rfl⟩) ?_ ?_;rotate_left;(simp only [Act.put, List.setIfInBounds_toArray, List.set_cons_zero, List.set_cons_succ, i64_w, i32_w];rfl)))
      all_goals (first|(refine take_ (i := 21) (N := some 42) (v := ?_) (a' := ?_) (r10_Right.tk 22) rfl rfl (take_ofW HT_.out HW_.out (by kernel_rfl)) (fun _ _ _ h => h) (Or.inl ⟨by rfl, ?_⟩) hHeld ?_ ?_;rotate_left;(intro w' hSw;(try dsimp only at hSw);go_simp;with_reducible rfl);rotate_left;(simp only [Act.put, List.setIfInBounds_toArray, List.set_cons_zero, List.set_cons_succ, i64_w, i32_w];rfl))|(refine pure_ (i := 21) (N := some 42) (v := undef) (a' := ?_) (r10_Right.tk 22) rfl rfl (any_of HT_.out (by kernel_rfl)) (fun _ _ _ h => h) (Or.inr ⟨by rfl, rfl⟩) ?_ ?_;rotate_left;(simp only [Act.put, List.setIfInBounds_toArray, List.set_cons_zero, List.set_cons_succ, i64_w, i32_w];rfl)))
      all_goals (first|(refine one_ (i := 22) (N := some 43) (r10_Right.tk 23) rfl rfl (one_of HT_.out (by kernel_rfl)) (by decide) (fun K hK => ?_);refine goes_ Try.func65 (by kernel_rfl) rfl #[.agg #[.int .i64 ((rd_T31 l0 x3_1).f2.f0), .int .i64 ((rd_T31 l0 x3_1).f2.f1), .int .i64 ((rd_T31 l0 x3_1).f2.f2)]] (by rfl) rfl rfl (by (try simp only [List.map_toArray, List.map_cons, List.map_nil]);first|done|rfl|(simp only [List.length_drop, List.length_take];rfl)) ?_;with_reducible refine (r10_MayVec.calls _ _ _ _ _ A12.out).mono ?_;rintro e wx22 ⟨rfl, hb⟩;refine ⟨_, rfl, ?_⟩;have HBn := Aside0.mk (below_step HBc.out hb);clear HBc;have HBc := HBn;clear HBn;refine hK.out _ _ (by first|exact ⟨pw_cell_below hb hHeld.1, pw_cell_below hb hHeld.2.1, pw_cell_below hb hHeld.2.2.1, pw_cell_below hb hHeld.2.2.2.1, pw_cell_below hb hHeld.2.2.2.2.1, pw_cell_below hb hHeld.2.2.2.2.2.1, pw_cell_below hb hHeld.2.2.2.2.2.2.1, pw_cell_below hb hHeld.2.2.2.2.2.2.2.1, pw_cell_below hb hHeld.2.2.2.2.2.2.2.2.1, pw_cell_below hb hHeld.2.2.2.2.2.2.2.2.2.1, pw_cell_below hb hHeld.2.2.2.2.2.2.2.2.2.2.1, pw_cell_below hb hHeld.2.2.2.2.2.2.2.2.2.2.2.1, pw_cell_below hb hHeld.2.2.2.2.2.2.2.2.2.2.2.2⟩|exact ⟨pw_cell_below hb hHeld.1, pw_cell_below hb hHeld.2.1, pw_cell_below hb hHeld.2.2.1, pw_cell_below hb hHeld.2.2.2.1, pw_cell_below hb hHeld.2.2.2.2.1, pw_cell_below hb hHeld.2.2.2.2.2.1, pw_cell_below hb hHeld.2.2.2.2.2.2.1, pw_cell_below hb hHeld.2.2.2.2.2.2.2.1, pw_cell_below hb hHeld.2.2.2.2.2.2.2.2.1, pw_cell_below hb hHeld.2.2.2.2.2.2.2.2.2.1, pw_cell_below hb hHeld.2.2.2.2.2.2.2.2.2.2.1, pw_cell_below hb hHeld.2.2.2.2.2.2.2.2.2.2.2⟩) (fun hHeld => ?_);clear hK K hb;refine norm_ (a' := ?_) ?_ ?_;rotate_left;(show Act.put _ (some 43) _ = _;simp only [Act.put, List.setIfInBounds_toArray, List.set_cons_zero, List.set_cons_succ, i64_w, i32_w];rfl))|(refine pure_ (i := 22) (N := some 43) (v := undef) (a' := ?_) (r10_Right.tk 23) rfl rfl (any_of HT_.out (by kernel_rfl)) (fun _ _ _ h => h) (Or.inr ⟨by rfl, rfl⟩) ?_ ?_;rotate_left;(simp only [Act.put, List.setIfInBounds_toArray, List.set_cons_zero, List.set_cons_succ, i64_w, i32_w];rfl)))
      all_goals (try (have H := HC.out; clear HC; by_cases c13 : t5 = true; (case' pos => subst c13; rw [if_pos rfl] at H; have HC := Aside0.mk H; clear H); (case' neg => rw [if_neg c13] at H; have q_ : t5 = false := Bool.eq_false_iff.mpr c13; subst q_; clear c13; have HC := Aside0.mk H; clear H)))
      all_goals (first|(refine pure_ (i := 23) (N := some 44) (v := ?_) (a' := ?_) (r10_Right.tk 24) rfl rfl (any_of HT_.out (by kernel_rfl)) (fun _ _ _ h => h) (Or.inl ⟨by rfl, ?_⟩) ?_ ?_;rotate_left;(intro w';go_simp;with_reducible rfl);rotate_left;(simp only [Act.put, List.setIfInBounds_toArray, List.set_cons_zero, List.set_cons_succ, i64_w, i32_w];rfl))|(refine pure_ (i := 23) (N := some 44) (v := undef) (a' := ?_) (r10_Right.tk 24) rfl rfl (any_of HT_.out (by kernel_rfl)) (fun _ _ _ h => h) (Or.inr ⟨by rfl, rfl⟩) ?_ ?_;rotate_left;(simp only [Act.put, List.setIfInBounds_toArray, List.set_cons_zero, List.set_cons_succ, i64_w, i32_w];rfl)))
      all_goals (refine pure_ (i := 24) (N := some 45) (v := ?_) (a' := ?_) (r10_Right.tk 25) rfl rfl (any_of HT_.out (by kernel_rfl)) (fun _ _ _ h => h) (Or.inl ⟨by rfl, ?_⟩) ?_ ?_;rotate_left;(intro w';go_simp;with_reducible rfl);rotate_left;(simp only [Act.put, List.setIfInBounds_toArray, List.set_cons_zero, List.set_cons_succ, i64_w, i32_w];rfl))
      all_goals (refine pure_ (i := 25) (N := some 46) (v := ?_) (a' := ?_) (r10_Right.tk 26) rfl rfl (any_of HT_.out (by kernel_rfl)) (fun _ _ _ h => h) (Or.inl ⟨by rfl, ?_⟩) ?_ ?_;rotate_left;(intro w';go_simp;with_reducible rfl);rotate_left;(simp only [Act.put, List.setIfInBounds_toArray, List.set_cons_zero, List.set_cons_succ, i64_w, i32_w];rfl))
      all_goals (try (have H := HC.out; obtain ⟨t6, A140, H2⟩ := Option.bind_eq_some_iff.mp H; clear H HC; have A14 := Aside0.mk A140; clear A140; have HC := Aside0.mk H2; clear H2))
      all_goals (first|(refine pure_ (i := 26) (N := some 47) (v := ?_) (a' := ?_) (r10_Right.tk 27) rfl rfl (any_of HT_.out (by kernel_rfl)) (fun _ _ _ h => h) (Or.inl ⟨by rfl, ?_⟩) ?_ ?_;rotate_left;(intro w';go_simp;with_reducible rfl);rotate_left;(simp only [Act.put, List.setIfInBounds_toArray, List.set_cons_zero, List.set_cons_succ, i64_w, i32_w];rfl))|(refine pure_ (i := 26) (N := some 47) (v := undef) (a' := ?_) (r10_Right.tk 27) rfl rfl (any_of HT_.out (by kernel_rfl)) (fun _ _ _ h => h) (Or.inr ⟨by rfl, rfl⟩) ?_ ?_;rotate_left;(simp only [Act.put, List.setIfInBounds_toArray, List.set_cons_zero, List.set_cons_succ, i64_w, i32_w];rfl)))
      all_goals (first|(refine take_ (i := 27) (N := some 48) (v := ?_) (a' := ?_) (r10_Right.tk 28) rfl rfl (take_ofW HT_.out HW_.out (by kernel_rfl)) (fun _ _ _ h => h) (Or.inl ⟨by rfl, ?_⟩) hHeld ?_ ?_;rotate_left;(intro w' hSw;(try dsimp only at hSw);go_simp;with_reducible rfl);rotate_left;(simp only [Act.put, List.setIfInBounds_toArray, List.set_cons_zero, List.set_cons_succ, i64_w, i32_w];rfl))|(refine pure_ (i := 27) (N := some 48) (v := undef) (a' := ?_) (r10_Right.tk 28) rfl rfl (any_of HT_.out (by kernel_rfl)) (fun _ _ _ h => h) (Or.inr ⟨by rfl, rfl⟩) ?_ ?_;rotate_left;(simp only [Act.put, List.setIfInBounds_toArray, List.set_cons_zero, List.set_cons_succ, i64_w, i32_w];rfl)))
      all_goals (first|(refine one_ (i := 28) (N := some 49) (r10_Right.tk 29) rfl rfl (one_of HT_.out (by kernel_rfl)) (by decide) (fun K hK => ?_);refine goes_ Try.func65 (by kernel_rfl) rfl #[.agg #[.int .i64 ((rd_T31 l0 x3_1).f3.f0), .int .i64 ((rd_T31 l0 x3_1).f3.f1), .int .i64 ((rd_T31 l0 x3_1).f3.f2)]] (by rfl) rfl rfl (by (try simp only [List.map_toArray, List.map_cons, List.map_nil]);first|done|rfl|(simp only [List.length_drop, List.length_take];rfl)) ?_;with_reducible refine (r10_MayVec.calls _ _ _ _ _ A14.out).mono ?_;rintro e wx28 ⟨rfl, hb⟩;refine ⟨_, rfl, ?_⟩;have HBn := Aside0.mk (below_step HBc.out hb);clear HBc;have HBc := HBn;clear HBn;refine hK.out _ _ (by first|exact ⟨pw_cell_below hb hHeld.1, pw_cell_below hb hHeld.2.1, pw_cell_below hb hHeld.2.2.1, pw_cell_below hb hHeld.2.2.2.1, pw_cell_below hb hHeld.2.2.2.2.1, pw_cell_below hb hHeld.2.2.2.2.2.1, pw_cell_below hb hHeld.2.2.2.2.2.2.1, pw_cell_below hb hHeld.2.2.2.2.2.2.2.1, pw_cell_below hb hHeld.2.2.2.2.2.2.2.2.1, pw_cell_below hb hHeld.2.2.2.2.2.2.2.2.2.1, pw_cell_below hb hHeld.2.2.2.2.2.2.2.2.2.2.1, pw_cell_below hb hHeld.2.2.2.2.2.2.2.2.2.2.2.1, pw_cell_below hb hHeld.2.2.2.2.2.2.2.2.2.2.2.2⟩|exact ⟨pw_cell_below hb hHeld.1, pw_cell_below hb hHeld.2.1, pw_cell_below hb hHeld.2.2.1, pw_cell_below hb hHeld.2.2.2.1, pw_cell_below hb hHeld.2.2.2.2.1, pw_cell_below hb hHeld.2.2.2.2.2.1, pw_cell_below hb hHeld.2.2.2.2.2.2.1, pw_cell_below hb hHeld.2.2.2.2.2.2.2.1, pw_cell_below hb hHeld.2.2.2.2.2.2.2.2.1, pw_cell_below hb hHeld.2.2.2.2.2.2.2.2.2.1, pw_cell_below hb hHeld.2.2.2.2.2.2.2.2.2.2.1, pw_cell_below hb hHeld.2.2.2.2.2.2.2.2.2.2.2⟩) (fun hHeld => ?_);clear hK K hb;refine norm_ (a' := ?_) ?_ ?_;rotate_left;(show Act.put _ (some 49) _ = _;simp only [Act.put, List.setIfInBounds_toArray, List.set_cons_zero, List.set_cons_succ, i64_w, i32_w];rfl))|(refine pure_ (i := 28) (N := some 49) (v := undef) (a' := ?_) (r10_Right.tk 29) rfl rfl (any_of HT_.out (by kernel_rfl)) (fun _ _ _ h => h) (Or.inr ⟨by rfl, rfl⟩) ?_ ?_;rotate_left;(simp only [Act.put, List.setIfInBounds_toArray, List.set_cons_zero, List.set_cons_succ, i64_w, i32_w];rfl)))
      all_goals (try (have H := HC.out; clear HC; by_cases c15 : t6 = true; (case' pos => subst c15; rw [if_pos rfl] at H; have HC := Aside0.mk H; clear H); (case' neg => rw [if_neg c15] at H; have q_ : t6 = false := Bool.eq_false_iff.mpr c15; subst q_; clear c15; have HC := Aside0.mk H; clear H)))
      all_goals (first|(refine pure_ (i := 29) (N := some 50) (v := ?_) (a' := ?_) (r10_Right.tk 30) rfl rfl (any_of HT_.out (by kernel_rfl)) (fun _ _ _ h => h) (Or.inl ⟨by rfl, ?_⟩) ?_ ?_;rotate_left;(intro w';go_simp;with_reducible rfl);rotate_left;(simp only [Act.put, List.setIfInBounds_toArray, List.set_cons_zero, List.set_cons_succ, i64_w, i32_w];rfl))|(refine pure_ (i := 29) (N := some 50) (v := undef) (a' := ?_) (r10_Right.tk 30) rfl rfl (any_of HT_.out (by kernel_rfl)) (fun _ _ _ h => h) (Or.inr ⟨by rfl, rfl⟩) ?_ ?_;rotate_left;(simp only [Act.put, List.setIfInBounds_toArray, List.set_cons_zero, List.set_cons_succ, i64_w, i32_w];rfl)))
      all_goals (refine pure_ (i := 30) (N := some 51) (v := ?_) (a' := ?_) (r10_Right.tk 31) rfl rfl (any_of HT_.out (by kernel_rfl)) (fun _ _ _ h => h) (Or.inl ⟨by rfl, ?_⟩) ?_ ?_;rotate_left;(intro w';go_simp;with_reducible rfl);rotate_left;(simp only [Act.put, List.setIfInBounds_toArray, List.set_cons_zero, List.set_cons_succ, i64_w, i32_w];rfl))
      all_goals (refine pure_ (i := 31) (N := some 52) (v := ?_) (a' := ?_) (r10_Right.tk 32) rfl rfl (any_of HT_.out (by kernel_rfl)) (fun _ _ _ h => h) (Or.inl ⟨by rfl, ?_⟩) ?_ ?_;rotate_left;(intro w';go_simp;with_reducible rfl);rotate_left;(simp only [Act.put, List.setIfInBounds_toArray, List.set_cons_zero, List.set_cons_succ, i64_w, i32_w];rfl))
      all_goals (first|(refine pure_ (i := 32) (N := some 53) (v := ?_) (a' := ?_) (r10_Right.tk 33) rfl rfl (any_of HT_.out (by kernel_rfl)) (fun _ _ _ h => h) (Or.inl ⟨by rfl, ?_⟩) ?_ ?_;rotate_left;(intro w';go_simp;with_reducible rfl);rotate_left;(simp only [Act.put, List.setIfInBounds_toArray, List.set_cons_zero, List.set_cons_succ, i64_w, i32_w];rfl))|(refine pure_ (i := 32) (N := some 53) (v := undef) (a' := ?_) (r10_Right.tk 33) rfl rfl (any_of HT_.out (by kernel_rfl)) (fun _ _ _ h => h) (Or.inr ⟨by rfl, rfl⟩) ?_ ?_;rotate_left;(simp only [Act.put, List.setIfInBounds_toArray, List.set_cons_zero, List.set_cons_succ, i64_w, i32_w];rfl)))
      all_goals (first|(refine take_ (i := 33) (N := some 54) (v := ?_) (a' := ?_) (r10_Right.tk 34) rfl rfl (take_ofW HT_.out HW_.out (by kernel_rfl)) (fun _ _ _ h => h) (Or.inl ⟨by rfl, ?_⟩) hHeld ?_ ?_;rotate_left;(intro w' hSw;(try dsimp only at hSw);go_simp;with_reducible rfl);rotate_left;(simp only [Act.put, List.setIfInBounds_toArray, List.set_cons_zero, List.set_cons_succ, i64_w, i32_w];rfl))|(refine pure_ (i := 33) (N := some 54) (v := undef) (a' := ?_) (r10_Right.tk 34) rfl rfl (any_of HT_.out (by kernel_rfl)) (fun _ _ _ h => h) (Or.inr ⟨by rfl, rfl⟩) ?_ ?_;rotate_left;(simp only [Act.put, List.setIfInBounds_toArray, List.set_cons_zero, List.set_cons_succ, i64_w, i32_w];rfl)))
      all_goals (try (have H := HC.out; clear HC; by_cases c16 : ((rd_T31 l0 x3_1).f1).toList = ([] : List UInt8); (case' pos => rw [if_pos c16] at H; have c16b0 : (((rd_T31 l0 x3_1).f1).toList == ([] : List UInt8)) = true := beq_iff_eq.mpr c16; have c16b1 : (((rd_T31 l0 x3_1).f1).toList != ([] : List UInt8)) = false := bne_eq_false_iff_eq.mpr c16; have c16b2 : (((rd_T31 l0 x3_1).f1).toList).isEmpty = true := by rw [c16]; rfl); (case' neg => rw [if_neg c16] at H; have c16b0 : (((rd_T31 l0 x3_1).f1).toList == ([] : List UInt8)) = false := beq_eq_false_iff_ne.mpr c16; have c16b1 : (((rd_T31 l0 x3_1).f1).toList != ([] : List UInt8)) = true := bne_iff_ne.mpr c16; have c16b2 : (((rd_T31 l0 x3_1).f1).toList).isEmpty = false := by simpa using c16); all_goals (clear c16; have HC := Aside0.mk H; clear H)))
      all_goals (first|(refine pure_ (i := 34) (N := some 55) (v := ?_) (a' := ?_) (r10_Right.tk 35) rfl rfl (any_of HT_.out (by kernel_rfl)) (fun _ _ _ h => h) (Or.inl ⟨by rfl, ?_⟩) ?_ ?_;rotate_left;(intro w';go_simp;with_reducible rfl);rotate_left;(simp only [Act.put, List.setIfInBounds_toArray, List.set_cons_zero, List.set_cons_succ, i64_w, i32_w];rfl))|(refine pure_ (i := 34) (N := some 55) (v := undef) (a' := ?_) (r10_Right.tk 35) rfl rfl (any_of HT_.out (by kernel_rfl)) (fun _ _ _ h => h) (Or.inr ⟨by rfl, rfl⟩) ?_ ?_;rotate_left;(simp only [Act.put, List.setIfInBounds_toArray, List.set_cons_zero, List.set_cons_succ, i64_w, i32_w];rfl)))
      all_goals (first|(refine pure_ (i := 35) (N := some 56) (v := ?_) (a' := ?_) (r10_Right.tk 36) rfl rfl (any_of HT_.out (by kernel_rfl)) (fun _ _ _ h => h) (Or.inl ⟨by rfl, ?_⟩) ?_ ?_;rotate_left;(intro w';go_simp;with_reducible rfl);rotate_left;(simp only [Act.put, List.setIfInBounds_toArray, List.set_cons_zero, List.set_cons_succ, i64_w, i32_w];rfl))|(refine pure_ (i := 35) (N := some 56) (v := undef) (a' := ?_) (r10_Right.tk 36) rfl rfl (any_of HT_.out (by kernel_rfl)) (fun _ _ _ h => h) (Or.inr ⟨by rfl, rfl⟩) ?_ ?_;rotate_left;(simp only [Act.put, List.setIfInBounds_toArray, List.set_cons_zero, List.set_cons_succ, i64_w, i32_w];rfl)))
      all_goals (try (have H := HC.out; have _hf := c16b1; obtain ⟨t9, A220, H2⟩ := Option.bind_eq_some_iff.mp H; clear H HC; have A22 := Aside0.mk A220; clear A220; have HC := Aside0.mk H2; clear H2))
      all_goals (first|(refine pure_ (i := 36) (N := some 57) (v := ?_) (a' := ?_) (r10_Right.tk 37) rfl rfl (any_of HT_.out (by kernel_rfl)) (fun _ _ _ h => h) (Or.inl ⟨by rfl, ?_⟩) ?_ ?_;rotate_left;(intro w';go_simp;with_reducible rfl);rotate_left;(simp only [Act.put, List.setIfInBounds_toArray, List.set_cons_zero, List.set_cons_succ, i64_w, i32_w];rfl))|(refine pure_ (i := 36) (N := some 57) (v := undef) (a' := ?_) (r10_Right.tk 37) rfl rfl (any_of HT_.out (by kernel_rfl)) (fun _ _ _ h => h) (Or.inr ⟨by rfl, rfl⟩) ?_ ?_;rotate_left;(simp only [Act.put, List.setIfInBounds_toArray, List.set_cons_zero, List.set_cons_succ, i64_w, i32_w];rfl)))
      all_goals (first|(refine pure_ (i := 37) (N := some 58) (v := ?_) (a' := ?_) (r10_Right.tk 38) rfl rfl (any_of HT_.out (by kernel_rfl)) (fun _ _ _ h => h) (Or.inl ⟨by rfl, ?_⟩) ?_ ?_;rotate_left;(intro w';go_simp;with_reducible rfl);rotate_left;(simp only [Act.put, List.setIfInBounds_toArray, List.set_cons_zero, List.set_cons_succ, i64_w, i32_w];rfl))|(refine pure_ (i := 37) (N := some 58) (v := undef) (a' := ?_) (r10_Right.tk 38) rfl rfl (any_of HT_.out (by kernel_rfl)) (fun _ _ _ h => h) (Or.inr ⟨by rfl, rfl⟩) ?_ ?_;rotate_left;(simp only [Act.put, List.setIfInBounds_toArray, List.set_cons_zero, List.set_cons_succ, i64_w, i32_w];rfl)))
      all_goals (first|(refine take_ (i := 38) (N := some 59) (v := ?_) (a' := ?_) (r10_Right.tk 39) rfl rfl (take_ofW HT_.out HW_.out (by kernel_rfl)) (fun _ _ _ h => h) (Or.inl ⟨by rfl, ?_⟩) hHeld ?_ ?_;rotate_left;(intro w' hSw;(try dsimp only at hSw);go_simp;with_reducible rfl);rotate_left;(simp only [Act.put, List.setIfInBounds_toArray, List.set_cons_zero, List.set_cons_succ, i64_w, i32_w];rfl))|(refine pure_ (i := 38) (N := some 59) (v := undef) (a' := ?_) (r10_Right.tk 39) rfl rfl (any_of HT_.out (by kernel_rfl)) (fun _ _ _ h => h) (Or.inr ⟨by rfl, rfl⟩) ?_ ?_;rotate_left;(simp only [Act.put, List.setIfInBounds_toArray, List.set_cons_zero, List.set_cons_succ, i64_w, i32_w];rfl)))
      all_goals (first | (refine one_ (i := 39) (N := some 60) (r10_Right.tk 40) rfl rfl (one_of HT_.out (by kernel_rfl)) (by decide) (fun K hK => ?_); refine goes_ Try.func50 (by kernel_rfl) rfl #[.slice (some ad1) l0.length c0, .string ((rd_T31 l0 x3_1).f1)] (by rfl) rfl rfl (by (try simp only [List.map_toArray, List.map_cons, List.map_nil]); first | done | rfl | (simp only [List.length_drop, List.length_take]; rfl)) ?_; refine (r10_Find.calls k1 _ _ l0 _ _ _ (Kd.C_below (Kd.C_below HR0.out HB.out) HBc.out) HC0.out A22.out).mono ?_; rintro e wx39 ⟨rfl, hd⟩; have hb := hd.below; clear hd; refine ⟨_, rfl, ?_⟩; have HBn := Aside0.mk (below_step HBc.out hb); clear HBc; have HBc := HBn; clear HBn; refine hK.out _ _ (by first | exact ⟨pw_cell_below hb hHeld.1, pw_cell_below hb hHeld.2.1, pw_cell_below hb hHeld.2.2.1, pw_cell_below hb hHeld.2.2.2.1, pw_cell_below hb hHeld.2.2.2.2.1, pw_cell_below hb hHeld.2.2.2.2.2.1, pw_cell_below hb hHeld.2.2.2.2.2.2.1, pw_cell_below hb hHeld.2.2.2.2.2.2.2.1, pw_cell_below hb hHeld.2.2.2.2.2.2.2.2.1, pw_cell_below hb hHeld.2.2.2.2.2.2.2.2.2.1, pw_cell_below hb hHeld.2.2.2.2.2.2.2.2.2.2.1, pw_cell_below hb hHeld.2.2.2.2.2.2.2.2.2.2.2.1, pw_cell_below hb hHeld.2.2.2.2.2.2.2.2.2.2.2.2⟩ | exact ⟨pw_cell_below hb hHeld.1, pw_cell_below hb hHeld.2.1, pw_cell_below hb hHeld.2.2.1, pw_cell_below hb hHeld.2.2.2.1, pw_cell_below hb hHeld.2.2.2.2.1, pw_cell_below hb hHeld.2.2.2.2.2.1, pw_cell_below hb hHeld.2.2.2.2.2.2.1, pw_cell_below hb hHeld.2.2.2.2.2.2.2.1, pw_cell_below hb hHeld.2.2.2.2.2.2.2.2.1, pw_cell_below hb hHeld.2.2.2.2.2.2.2.2.2.1, pw_cell_below hb hHeld.2.2.2.2.2.2.2.2.2.2.1, pw_cell_below hb hHeld.2.2.2.2.2.2.2.2.2.2.2⟩) (fun hHeld => ?_); clear hK K hb; refine norm_ (a' := ?_) ?_ ?_; rotate_left; (show Act.put _ (some 60) _ = _; simp only [Act.put, List.setIfInBounds_toArray, List.set_cons_zero, List.set_cons_succ, i64_w, i32_w]; rfl)) | (refine pure_ (i := 39) (N := some 60) (v := undef) (a' := ?_) (r10_Right.tk 40) rfl rfl (any_of HT_.out (by kernel_rfl)) (fun _ _ _ h => h) (Or.inr ⟨by rfl, rfl⟩) ?_ ?_; rotate_left; (simp only [Act.put, List.setIfInBounds_toArray, List.set_cons_zero, List.set_cons_succ, i64_w, i32_w]; rfl)))
      all_goals (try (have H := HC.out; clear HC; by_cases c23 : t9 < 0; (case' pos => rw [if_pos c23] at H; have c23b0 : decide (t9 < 0) = true := decide_eq_true c23; clear c23; have HC := Aside0.mk H; clear H); (case' neg => rw [if_neg c23] at H; have c23b0 : decide (t9 < 0) = false := decide_eq_false c23; clear c23; have HC := Aside0.mk H; clear H)))
      all_goals (first|(refine pure_ (i := 40) (N := some 61) (v := ?_) (a' := ?_) (r10_Right.tk 41) rfl rfl (any_of HT_.out (by kernel_rfl)) (fun _ _ _ h => h) (Or.inl ⟨by rfl, ?_⟩) ?_ ?_;rotate_left;(intro w';go_simp;with_reducible rfl);rotate_left;(simp only [Act.put, List.setIfInBounds_toArray, List.set_cons_zero, List.set_cons_succ, i64_w, i32_w];rfl))|(refine pure_ (i := 40) (N := some 61) (v := undef) (a' := ?_) (r10_Right.tk 41) rfl rfl (any_of HT_.out (by kernel_rfl)) (fun _ _ _ h => h) (Or.inr ⟨by rfl, rfl⟩) ?_ ?_;rotate_left;(simp only [Act.put, List.setIfInBounds_toArray, List.set_cons_zero, List.set_cons_succ, i64_w, i32_w];rfl)))
      all_goals (first|(refine pure_ (i := 41) (N := some 62) (v := ?_) (a' := ?_) (r10_Right.tk 42) rfl rfl (any_of HT_.out (by kernel_rfl)) (fun _ _ _ h => h) (Or.inl ⟨by rfl, ?_⟩) ?_ ?_;rotate_left;(intro w';go_simp;with_reducible rfl);rotate_left;(simp only [Act.put, List.setIfInBounds_toArray, List.set_cons_zero, List.set_cons_succ, i64_w, i32_w];rfl))|(refine pure_ (i := 41) (N := some 62) (v := undef) (a' := ?_) (r10_Right.tk 42) rfl rfl (any_of HT_.out (by kernel_rfl)) (fun _ _ _ h => h) (Or.inr ⟨by rfl, rfl⟩) ?_ ?_;rotate_left;(simp only [Act.put, List.setIfInBounds_toArray, List.set_cons_zero, List.set_cons_succ, i64_w, i32_w];rfl)))
      all_goals (refine pure_ (i := 42) (N := some 63) (v := ?_) (a' := ?_) (r10_Right.tk 43) rfl rfl (any_of HT_.out (by kernel_rfl)) (fun _ _ _ h => h) (Or.inl ⟨by rfl, ?_⟩) ?_ ?_;rotate_left;(intro w';go_simp;with_reducible rfl);rotate_left;(simp only [Act.put, List.setIfInBounds_toArray, List.set_cons_zero, List.set_cons_succ, i64_w, i32_w];rfl))
      all_goals (refine pure_ (i := 43) (N := some 64) (v := ?_) (a' := ?_) (r10_Right.tk 44) rfl rfl (any_of HT_.out (by kernel_rfl)) (fun _ _ _ h => h) (Or.inl ⟨by rfl, ?_⟩) ?_ ?_;rotate_left;(intro w';go_simp;with_reducible rfl);rotate_left;(simp only [Act.put, List.setIfInBounds_toArray, List.set_cons_zero, List.set_cons_succ, i64_w, i32_w];rfl))
      all_goals (first|(refine pure_ (i := 44) (N := some 65) (v := ?_) (a' := ?_) (r10_Right.tk 45) rfl rfl (any_of HT_.out (by kernel_rfl)) (fun _ _ _ h => h) (Or.inl ⟨by rfl, ?_⟩) ?_ ?_;rotate_left;(intro w';go_simp;with_reducible rfl);rotate_left;(simp only [Act.put, List.setIfInBounds_toArray, List.set_cons_zero, List.set_cons_succ, i64_w, i32_w];rfl))|(refine pure_ (i := 44) (N := some 65) (v := undef) (a' := ?_) (r10_Right.tk 45) rfl rfl (any_of HT_.out (by kernel_rfl)) (fun _ _ _ h => h) (Or.inr ⟨by rfl, rfl⟩) ?_ ?_;rotate_left;(simp only [Act.put, List.setIfInBounds_toArray, List.set_cons_zero, List.set_cons_succ, i64_w, i32_w];rfl)))
      all_goals (first|(refine take_ (i := 45) (N := some 66) (v := ?_) (a' := ?_) (r10_Right.tk 46) rfl rfl (take_ofW HT_.out HW_.out (by kernel_rfl)) (fun _ _ _ h => h) (Or.inl ⟨by rfl, ?_⟩) hHeld ?_ ?_;rotate_left;(intro w' hSw;(try dsimp only at hSw);go_simp;with_reducible rfl);rotate_left;(simp only [Act.put, List.setIfInBounds_toArray, List.set_cons_zero, List.set_cons_succ, i64_w, i32_w];rfl))|(refine pure_ (i := 45) (N := some 66) (v := undef) (a' := ?_) (r10_Right.tk 46) rfl rfl (any_of HT_.out (by kernel_rfl)) (fun _ _ _ h => h) (Or.inr ⟨by rfl, rfl⟩) ?_ ?_;rotate_left;(simp only [Act.put, List.setIfInBounds_toArray, List.set_cons_zero, List.set_cons_succ, i64_w, i32_w];rfl)))
      all_goals (try (have H := HC.out; clear HC; by_cases c17 : (rd_T31 l0 x3_1).f5 < 1; (case' pos => rw [if_pos c17] at H; have c17b0 : decide ((rd_T31 l0 x3_1).f5 < 1) = true := decide_eq_true c17; clear c17; have HC := Aside0.mk H; clear H); (case' neg => rw [if_neg c17] at H; have c17b0 : decide ((rd_T31 l0 x3_1).f5 < 1) = false := decide_eq_false c17; clear c17; have HC := Aside0.mk H; clear H)))
      all_goals (first|(refine pure_ (i := 46) (N := some 67) (v := ?_) (a' := ?_) (r10_Right.tk 47) rfl rfl (any_of HT_.out (by kernel_rfl)) (fun _ _ _ h => h) (Or.inl ⟨by rfl, ?_⟩) ?_ ?_;rotate_left;(intro w';go_simp;with_reducible rfl);rotate_left;(simp only [Act.put, List.setIfInBounds_toArray, List.set_cons_zero, List.set_cons_succ, i64_w, i32_w];rfl))|(refine pure_ (i := 46) (N := some 67) (v := undef) (a' := ?_) (r10_Right.tk 47) rfl rfl (any_of HT_.out (by kernel_rfl)) (fun _ _ _ h => h) (Or.inr ⟨by rfl, rfl⟩) ?_ ?_;rotate_left;(simp only [Act.put, List.setIfInBounds_toArray, List.set_cons_zero, List.set_cons_succ, i64_w, i32_w];rfl)))
      all_goals (refine pure_ (i := 47) (N := some 68) (v := ?_) (a' := ?_) (r10_Right.tk 48) rfl rfl (any_of HT_.out (by kernel_rfl)) (fun _ _ _ h => h) (Or.inl ⟨by rfl, ?_⟩) ?_ ?_;rotate_left;(intro w';go_simp;with_reducible rfl);rotate_left;(simp only [Act.put, List.setIfInBounds_toArray, List.set_cons_zero, List.set_cons_succ, i64_w, i32_w];rfl))
      all_goals (refine pure_ (i := 48) (N := some 69) (v := ?_) (a' := ?_) (r10_Right.tk 49) rfl rfl (any_of HT_.out (by kernel_rfl)) (fun _ _ _ h => h) (Or.inl ⟨by rfl, ?_⟩) ?_ ?_;rotate_left;(intro w';go_simp;with_reducible rfl);rotate_left;(simp only [Act.put, List.setIfInBounds_toArray, List.set_cons_zero, List.set_cons_succ, i64_w, i32_w];rfl))
      all_goals (first|(refine pure_ (i := 49) (N := some 70) (v := ?_) (a' := ?_) (r10_Right.tk 50) rfl rfl (any_of HT_.out (by kernel_rfl)) (fun _ _ _ h => h) (Or.inl ⟨by rfl, ?_⟩) ?_ ?_;rotate_left;(intro w';go_simp;with_reducible rfl);rotate_left;(simp only [Act.put, List.setIfInBounds_toArray, List.set_cons_zero, List.set_cons_succ, i64_w, i32_w];rfl))|(refine pure_ (i := 49) (N := some 70) (v := undef) (a' := ?_) (r10_Right.tk 50) rfl rfl (any_of HT_.out (by kernel_rfl)) (fun _ _ _ h => h) (Or.inr ⟨by rfl, rfl⟩) ?_ ?_;rotate_left;(simp only [Act.put, List.setIfInBounds_toArray, List.set_cons_zero, List.set_cons_succ, i64_w, i32_w];rfl)))
      all_goals (first|(refine take_ (i := 50) (N := some 71) (v := ?_) (a' := ?_) (r10_Right.tk 51) rfl rfl (take_ofW HT_.out HW_.out (by kernel_rfl)) (fun _ _ _ h => h) (Or.inl ⟨by rfl, ?_⟩) hHeld ?_ ?_;rotate_left;(intro w' hSw;(try dsimp only at hSw);go_simp;with_reducible rfl);rotate_left;(simp only [Act.put, List.setIfInBounds_toArray, List.set_cons_zero, List.set_cons_succ, i64_w, i32_w];rfl))|(refine pure_ (i := 50) (N := some 71) (v := undef) (a' := ?_) (r10_Right.tk 51) rfl rfl (any_of HT_.out (by kernel_rfl)) (fun _ _ _ h => h) (Or.inr ⟨by rfl, rfl⟩) ?_ ?_;rotate_left;(simp only [Act.put, List.setIfInBounds_toArray, List.set_cons_zero, List.set_cons_succ, i64_w, i32_w];rfl)))
      all_goals (try (have H := HC.out; clear HC; by_cases c18 : (rd_T31 l0 x3_1).f5 > 9007199254740992; (case' pos => rw [if_pos c18] at H; have c18b0 : decide (9007199254740992 < (rd_T31 l0 x3_1).f5) = true := decide_eq_true c18; clear c18; have HC := Aside0.mk H; clear H); (case' neg => rw [if_neg c18] at H; have c18b0 : decide (9007199254740992 < (rd_T31 l0 x3_1).f5) = false := decide_eq_false c18; clear c18; have HC := Aside0.mk H; clear H)))
      all_goals (first|(refine pure_ (i := 51) (N := some 72) (v := ?_) (a' := ?_) (r10_Right.tk 52) rfl rfl (any_of HT_.out (by kernel_rfl)) (fun _ _ _ h => h) (Or.inl ⟨by rfl, ?_⟩) ?_ ?_;rotate_left;(intro w';go_simp;with_reducible rfl);rotate_left;(simp only [Act.put, List.setIfInBounds_toArray, List.set_cons_zero, List.set_cons_succ, i64_w, i32_w];rfl))|(refine pure_ (i := 51) (N := some 72) (v := undef) (a' := ?_) (r10_Right.tk 52) rfl rfl (any_of HT_.out (by kernel_rfl)) (fun _ _ _ h => h) (Or.inr ⟨by rfl, rfl⟩) ?_ ?_;rotate_left;(simp only [Act.put, List.setIfInBounds_toArray, List.set_cons_zero, List.set_cons_succ, i64_w, i32_w];rfl)))
      all_goals (refine pure_ (i := 52) (N := some 73) (v := ?_) (a' := ?_) (r10_Right.tk 53) rfl rfl (any_of HT_.out (by kernel_rfl)) (fun _ _ _ h => h) (Or.inl ⟨by rfl, ?_⟩) ?_ ?_;rotate_left;(intro w';go_simp;with_reducible rfl);rotate_left;(simp only [Act.put, List.setIfInBounds_toArray, List.set_cons_zero, List.set_cons_succ, i64_w, i32_w];rfl))
      all_goals (refine pure_ (i := 53) (N := some 74) (v := ?_) (a' := ?_) (r10_Right.tk 54) rfl rfl (any_of HT_.out (by kernel_rfl)) (fun _ _ _ h => h) (Or.inl ⟨by rfl, ?_⟩) ?_ ?_;rotate_left;(intro w';go_simp;with_reducible rfl);rotate_left;(simp only [Act.put, List.setIfInBounds_toArray, List.set_cons_zero, List.set_cons_succ, i64_w, i32_w];rfl))
      all_goals (try (have H := HC.out; obtain ⟨t7, A390, H2⟩ := Option.bind_eq_some_iff.mp H; clear H HC; have A39 := Aside0.mk A390; clear A390; have HC := Aside0.mk H2; clear H2))
      all_goals (first|(refine pure_ (i := 54) (N := some 75) (v := ?_) (a' := ?_) (r10_Right.tk 55) rfl rfl (any_of HT_.out (by kernel_rfl)) (fun _ _ _ h => h) (Or.inl ⟨by rfl, ?_⟩) ?_ ?_;rotate_left;(intro w';go_simp;with_reducible rfl);rotate_left;(simp only [Act.put, List.setIfInBounds_toArray, List.set_cons_zero, List.set_cons_succ, i64_w, i32_w];rfl))|(refine pure_ (i := 54) (N := some 75) (v := undef) (a' := ?_) (r10_Right.tk 55) rfl rfl (any_of HT_.out (by kernel_rfl)) (fun _ _ _ h => h) (Or.inr ⟨by rfl, rfl⟩) ?_ ?_;rotate_left;(simp only [Act.put, List.setIfInBounds_toArray, List.set_cons_zero, List.set_cons_succ, i64_w, i32_w];rfl)))
      all_goals (first|(refine take_ (i := 55) (N := some 76) (v := ?_) (a' := ?_) (r10_Right.tk 56) rfl rfl (take_ofW HT_.out HW_.out (by kernel_rfl)) (fun _ _ _ h => h) (Or.inl ⟨by rfl, ?_⟩) hHeld ?_ ?_;rotate_left;(intro w' hSw;(try dsimp only at hSw);go_simp;with_reducible rfl);rotate_left;(simp only [Act.put, List.setIfInBounds_toArray, List.set_cons_zero, List.set_cons_succ, i64_w, i32_w];rfl))|(refine pure_ (i := 55) (N := some 76) (v := undef) (a' := ?_) (r10_Right.tk 56) rfl rfl (any_of HT_.out (by kernel_rfl)) (fun _ _ _ h => h) (Or.inr ⟨by rfl, rfl⟩) ?_ ?_;rotate_left;(simp only [Act.put, List.setIfInBounds_toArray, List.set_cons_zero, List.set_cons_succ, i64_w, i32_w];rfl)))
      all_goals (first|(refine pure_ (i := 56) (N := some 77) (v := ?_) (a' := ?_) (r10_Right.tk 57) rfl rfl (any_of HT_.out (by kernel_rfl)) (fun _ _ _ h => h) (Or.inl ⟨by rfl, ?_⟩) ?_ ?_;rotate_left;(intro w';go_simp;with_reducible rfl);rotate_left;(simp only [Act.put, List.setIfInBounds_toArray, List.set_cons_zero, List.set_cons_succ, i64_w, i32_w];rfl))|(refine pure_ (i := 56) (N := some 77) (v := undef) (a' := ?_) (r10_Right.tk 57) rfl rfl (any_of HT_.out (by kernel_rfl)) (fun _ _ _ h => h) (Or.inr ⟨by rfl, rfl⟩) ?_ ?_;rotate_left;(simp only [Act.put, List.setIfInBounds_toArray, List.set_cons_zero, List.set_cons_succ, i64_w, i32_w];rfl)))
      all_goals (first|(refine take_ (i := 57) (N := some 78) (v := ?_) (a' := ?_) (r10_Right.tk 58) rfl rfl (take_ofW HT_.out HW_.out (by kernel_rfl)) (fun _ _ _ h => h) (Or.inl ⟨by rfl, ?_⟩) hHeld ?_ ?_;rotate_left;(intro w' hSw;(try dsimp only at hSw);go_simp;with_reducible rfl);rotate_left;(simp only [Act.put, List.setIfInBounds_toArray, List.set_cons_zero, List.set_cons_succ, i64_w, i32_w];rfl))|(refine pure_ (i := 57) (N := some 78) (v := undef) (a' := ?_) (r10_Right.tk 58) rfl rfl (any_of HT_.out (by kernel_rfl)) (fun _ _ _ h => h) (Or.inr ⟨by rfl, rfl⟩) ?_ ?_;rotate_left;(simp only [Act.put, List.setIfInBounds_toArray, List.set_cons_zero, List.set_cons_succ, i64_w, i32_w];rfl)))
      all_goals (first|(refine one_ (i := 58) (N := some 79) (r10_Right.tk 59) rfl rfl (one_of HT_.out (by kernel_rfl)) (by decide) (fun K hK => ?_);refine goes_ Try.func34 (by kernel_rfl) rfl #[.agg #[.int .i64 ((rd_T31 l0 x3_1).f4.f0), .int .i64 ((rd_T31 l0 x3_1).f4.f1), .int .i64 ((rd_T31 l0 x3_1).f4.f2)], .agg #[.int .i64 ((rd_T31 l0 x3_1).f2.f0), .int .i64 ((rd_T31 l0 x3_1).f2.f1), .int .i64 ((rd_T31 l0 x3_1).f2.f2)]] (by rfl) rfl rfl (by (try simp only [List.map_toArray, List.map_cons, List.map_nil]);first|done|rfl|(simp only [List.length_drop, List.length_take];rfl)) ?_;with_reducible refine (r10_Le.calls _ _ _ _ _ _ _ _ A39.out).mono ?_;rintro e wx58 ⟨rfl, hb⟩;refine ⟨_, rfl, ?_⟩;have HBn := Aside0.mk (below_step HBc.out hb);clear HBc;have HBc := HBn;clear HBn;refine hK.out _ _ (by first|exact ⟨pw_cell_below hb hHeld.1, pw_cell_below hb hHeld.2.1, pw_cell_below hb hHeld.2.2.1, pw_cell_below hb hHeld.2.2.2.1, pw_cell_below hb hHeld.2.2.2.2.1, pw_cell_below hb hHeld.2.2.2.2.2.1, pw_cell_below hb hHeld.2.2.2.2.2.2.1, pw_cell_below hb hHeld.2.2.2.2.2.2.2.1, pw_cell_below hb hHeld.2.2.2.2.2.2.2.2.1, pw_cell_below hb hHeld.2.2.2.2.2.2.2.2.2.1, pw_cell_below hb hHeld.2.2.2.2.2.2.2.2.2.2.1, pw_cell_below hb hHeld.2.2.2.2.2.2.2.2.2.2.2.1, pw_cell_below hb hHeld.2.2.2.2.2.2.2.2.2.2.2.2⟩|exact ⟨pw_cell_below hb hHeld.1, pw_cell_below hb hHeld.2.1, pw_cell_below hb hHeld.2.2.1, pw_cell_below hb hHeld.2.2.2.1, pw_cell_below hb hHeld.2.2.2.2.1, pw_cell_below hb hHeld.2.2.2.2.2.1, pw_cell_below hb hHeld.2.2.2.2.2.2.1, pw_cell_below hb hHeld.2.2.2.2.2.2.2.1, pw_cell_below hb hHeld.2.2.2.2.2.2.2.2.1, pw_cell_below hb hHeld.2.2.2.2.2.2.2.2.2.1, pw_cell_below hb hHeld.2.2.2.2.2.2.2.2.2.2.1, pw_cell_below hb hHeld.2.2.2.2.2.2.2.2.2.2.2⟩) (fun hHeld => ?_);clear hK K hb;refine norm_ (a' := ?_) ?_ ?_;rotate_left;(show Act.put _ (some 79) _ = _;simp only [Act.put, List.setIfInBounds_toArray, List.set_cons_zero, List.set_cons_succ, i64_w, i32_w];rfl))|(refine pure_ (i := 58) (N := some 79) (v := undef) (a' := ?_) (r10_Right.tk 59) rfl rfl (any_of HT_.out (by kernel_rfl)) (fun _ _ _ h => h) (Or.inr ⟨by rfl, rfl⟩) ?_ ?_;rotate_left;(simp only [Act.put, List.setIfInBounds_toArray, List.set_cons_zero, List.set_cons_succ, i64_w, i32_w];rfl)))
      all_goals (try (have H := HC.out; clear HC; by_cases c40 : t7 = true; (case' pos => subst c40; rw [if_pos rfl] at H; have HC := Aside0.mk H; clear H); (case' neg => rw [if_neg c40] at H; have q_ : t7 = false := Bool.eq_false_iff.mpr c40; subst q_; clear c40; have HC := Aside0.mk H; clear H)))
      all_goals (first|(refine pure_ (i := 59) (N := some 80) (v := ?_) (a' := ?_) (r10_Right.tk 60) rfl rfl (any_of HT_.out (by kernel_rfl)) (fun _ _ _ h => h) (Or.inl ⟨by rfl, ?_⟩) ?_ ?_;rotate_left;(intro w';go_simp;with_reducible rfl);rotate_left;(simp only [Act.put, List.setIfInBounds_toArray, List.set_cons_zero, List.set_cons_succ, i64_w, i32_w];rfl))|(refine pure_ (i := 59) (N := some 80) (v := undef) (a' := ?_) (r10_Right.tk 60) rfl rfl (any_of HT_.out (by kernel_rfl)) (fun _ _ _ h => h) (Or.inr ⟨by rfl, rfl⟩) ?_ ?_;rotate_left;(simp only [Act.put, List.setIfInBounds_toArray, List.set_cons_zero, List.set_cons_succ, i64_w, i32_w];rfl)))
      all_goals (refine pure_ (i := 60) (N := some 81) (v := ?_) (a' := ?_) (r10_Right.tk 61) rfl rfl (any_of HT_.out (by kernel_rfl)) (fun _ _ _ h => h) (Or.inl ⟨by rfl, ?_⟩) ?_ ?_;rotate_left;(intro w';go_simp;with_reducible rfl);rotate_left;(simp only [Act.put, List.setIfInBounds_toArray, List.set_cons_zero, List.set_cons_succ, i64_w, i32_w];rfl))
      all_goals (refine pure_ (i := 61) (N := some 82) (v := ?_) (a' := ?_) (r10_Right.tk 62) rfl rfl (any_of HT_.out (by kernel_rfl)) (fun _ _ _ h => h) (Or.inl ⟨by rfl, ?_⟩) ?_ ?_;rotate_left;(intro w';go_simp;with_reducible rfl);rotate_left;(simp only [Act.put, List.setIfInBounds_toArray, List.set_cons_zero, List.set_cons_succ, i64_w, i32_w];rfl))
      all_goals (try (have H := HC.out; obtain ⟨t8, A580, H2⟩ := Option.bind_eq_some_iff.mp H; clear H HC; have A58 := Aside0.mk A580; clear A580; have HC := Aside0.mk H2; clear H2))
      all_goals (first|(refine pure_ (i := 62) (N := some 83) (v := ?_) (a' := ?_) (r10_Right.tk 63) rfl rfl (any_of HT_.out (by kernel_rfl)) (fun _ _ _ h => h) (Or.inl ⟨by rfl, ?_⟩) ?_ ?_;rotate_left;(intro w';go_simp;with_reducible rfl);rotate_left;(simp only [Act.put, List.setIfInBounds_toArray, List.set_cons_zero, List.set_cons_succ, i64_w, i32_w];rfl))|(refine pure_ (i := 62) (N := some 83) (v := undef) (a' := ?_) (r10_Right.tk 63) rfl rfl (any_of HT_.out (by kernel_rfl)) (fun _ _ _ h => h) (Or.inr ⟨by rfl, rfl⟩) ?_ ?_;rotate_left;(simp only [Act.put, List.setIfInBounds_toArray, List.set_cons_zero, List.set_cons_succ, i64_w, i32_w];rfl)))
      all_goals (first|(refine take_ (i := 63) (N := some 84) (v := ?_) (a' := ?_) (r10_Right.tk 64) rfl rfl (take_ofW HT_.out HW_.out (by kernel_rfl)) (fun _ _ _ h => h) (Or.inl ⟨by rfl, ?_⟩) hHeld ?_ ?_;rotate_left;(intro w' hSw;(try dsimp only at hSw);go_simp;with_reducible rfl);rotate_left;(simp only [Act.put, List.setIfInBounds_toArray, List.set_cons_zero, List.set_cons_succ, i64_w, i32_w];rfl))|(refine pure_ (i := 63) (N := some 84) (v := undef) (a' := ?_) (r10_Right.tk 64) rfl rfl (any_of HT_.out (by kernel_rfl)) (fun _ _ _ h => h) (Or.inr ⟨by rfl, rfl⟩) ?_ ?_;rotate_left;(simp only [Act.put, List.setIfInBounds_toArray, List.set_cons_zero, List.set_cons_succ, i64_w, i32_w];rfl)))
      all_goals (first|(refine one_ (i := 64) (N := some 85) (r10_Right.tk 65) rfl rfl (one_of HT_.out (by kernel_rfl)) (by decide) (fun K hK => ?_);refine goes_ Try.func65 (by kernel_rfl) rfl #[.agg #[.int .i64 ((rd_T31 l0 x3_1).f4.f0), .int .i64 ((rd_T31 l0 x3_1).f4.f1), .int .i64 ((rd_T31 l0 x3_1).f4.f2)]] (by rfl) rfl rfl (by (try simp only [List.map_toArray, List.map_cons, List.map_nil]);first|done|rfl|(simp only [List.length_drop, List.length_take];rfl)) ?_;with_reducible refine (r10_MayVec.calls _ _ _ _ _ A58.out).mono ?_;rintro e wx64 ⟨rfl, hb⟩;refine ⟨_, rfl, ?_⟩;have HBn := Aside0.mk (below_step HBc.out hb);clear HBc;have HBc := HBn;clear HBn;refine hK.out _ _ (by first|exact ⟨pw_cell_below hb hHeld.1, pw_cell_below hb hHeld.2.1, pw_cell_below hb hHeld.2.2.1, pw_cell_below hb hHeld.2.2.2.1, pw_cell_below hb hHeld.2.2.2.2.1, pw_cell_below hb hHeld.2.2.2.2.2.1, pw_cell_below hb hHeld.2.2.2.2.2.2.1, pw_cell_below hb hHeld.2.2.2.2.2.2.2.1, pw_cell_below hb hHeld.2.2.2.2.2.2.2.2.1, pw_cell_below hb hHeld.2.2.2.2.2.2.2.2.2.1, pw_cell_below hb hHeld.2.2.2.2.2.2.2.2.2.2.1, pw_cell_below hb hHeld.2.2.2.2.2.2.2.2.2.2.2.1, pw_cell_below hb hHeld.2.2.2.2.2.2.2.2.2.2.2.2⟩|exact ⟨pw_cell_below hb hHeld.1, pw_cell_below hb hHeld.2.1, pw_cell_below hb hHeld.2.2.1, pw_cell_below hb hHeld.2.2.2.1, pw_cell_below hb hHeld.2.2.2.2.1, pw_cell_below hb hHeld.2.2.2.2.2.1, pw_cell_below hb hHeld.2.2.2.2.2.2.1, pw_cell_below hb hHeld.2.2.2.2.2.2.2.1, pw_cell_below hb hHeld.2.2.2.2.2.2.2.2.1, pw_cell_below hb hHeld.2.2.2.2.2.2.2.2.2.1, pw_cell_below hb hHeld.2.2.2.2.2.2.2.2.2.2.1, pw_cell_below hb hHeld.2.2.2.2.2.2.2.2.2.2.2⟩) (fun hHeld => ?_);clear hK K hb;refine norm_ (a' := ?_) ?_ ?_;rotate_left;(show Act.put _ (some 85) _ = _;simp only [Act.put, List.setIfInBounds_toArray, List.set_cons_zero, List.set_cons_succ, i64_w, i32_w];rfl))|(refine pure_ (i := 64) (N := some 85) (v := undef) (a' := ?_) (r10_Right.tk 65) rfl rfl (any_of HT_.out (by kernel_rfl)) (fun _ _ _ h => h) (Or.inr ⟨by rfl, rfl⟩) ?_ ?_;rotate_left;(simp only [Act.put, List.setIfInBounds_toArray, List.set_cons_zero, List.set_cons_succ, i64_w, i32_w];rfl)))
      all_goals (try (have H := HC.out; clear HC; by_cases c59 : t8 = true; (case' pos => subst c59; rw [if_pos rfl] at H; have HC := Aside0.mk H; clear H); (case' neg => rw [if_neg c59] at H; have q_ : t8 = false := Bool.eq_false_iff.mpr c59; subst q_; clear c59; have HC := Aside0.mk H; clear H)))
      all_goals (first|(refine pure_ (i := 65) (N := some 86) (v := ?_) (a' := ?_) (r10_Right.tk 66) rfl rfl (any_of HT_.out (by kernel_rfl)) (fun _ _ _ h => h) (Or.inl ⟨by rfl, ?_⟩) ?_ ?_;rotate_left;(intro w';go_simp;with_reducible rfl);rotate_left;(simp only [Act.put, List.setIfInBounds_toArray, List.set_cons_zero, List.set_cons_succ, i64_w, i32_w];rfl))|(refine pure_ (i := 65) (N := some 86) (v := undef) (a' := ?_) (r10_Right.tk 66) rfl rfl (any_of HT_.out (by kernel_rfl)) (fun _ _ _ h => h) (Or.inr ⟨by rfl, rfl⟩) ?_ ?_;rotate_left;(simp only [Act.put, List.setIfInBounds_toArray, List.set_cons_zero, List.set_cons_succ, i64_w, i32_w];rfl)))
      all_goals (refine pure_ (i := 66) (N := some 87) (v := ?_) (a' := ?_) (r10_Right.tk 67) rfl rfl (any_of HT_.out (by kernel_rfl)) (fun _ _ _ h => h) (Or.inl ⟨by rfl, ?_⟩) ?_ ?_;rotate_left;(intro w';go_simp;with_reducible rfl);rotate_left;(simp only [Act.put, List.setIfInBounds_toArray, List.set_cons_zero, List.set_cons_succ, i64_w, i32_w];rfl))
      all_goals (refine done_ (done_of HT_.out (by kernel_rfl)) ?_; try go_wp2)
      all_goals (first|(obtain rfl := Option.some.inj HC.out;go_wp2;go_ret;exact ⟨rfl, below_step HB.out HBc.out⟩)|(go_roundg k1;(case measure => have := HK1.out;omega);(case rel => exact ⟨(wrap64 (x3_1 + 1)), (by first|rfl|(simp;done)|(simp [*];done)), HC, ⟨by have := HK1.out;omega⟩, ⟨below_step HB.out HBc.out⟩⟩)))
     ·rw [if_neg c4] at H
      exact absurd H (by simp)
    ·rw [if_neg c3] at H
     have c3b0 : decide (x3_1 < (l0.length : Int)) = false := decide_eq_false c3
     clear c3
     have H' := Aside0.mk H
     clear H
     go_wp2
     go_loopg [5] k1 (fun kq v5 w' => ∃ (x5_2 : Int), v5 = .int .i64 x5_2 ∧ Aside0 (r10_Right.l1 kq l0 x5_2 = some r) ∧ Aside0 (kq ≤ k1) ∧ Aside0 (Below w.heap.size w w'))
     case atStart => exact ⟨(0), (by first|rfl|(simp;done)|(simp [*];done)), H', ⟨Nat.le_refl _⟩, ⟨by repeat (first|(with_reducible first|exact HB.out|apply below_alloc|apply pw_below_drewN|apply below_drew1)|exact HB.out)⟩⟩
     case round =>
      clear H'
      try clear c1
      try clear p1
      try clear q1
      try clear hx1
      try clear p2
      try clear c3
      try clear c3b0
      try clear c4
      try clear c6
      try clear c10
      try clear c105
      try clear hcz229_0
      try clear hcz229_1
      try clear hcz229_10
      try clear hcz229_11
      try clear hcz229_2
      try clear hcz229_3
      try clear hcz229_4
      try clear hcz229_5
      try clear hcz229_6
      try clear hcz229_7
      try clear hcz229_8
      try clear hcz229_9
      try clear hfz229_0
      try clear hfz229_1
      try clear hfz229_10
      try clear hfz229_11
      try clear hfz229_2
      try clear hfz229_3
      try clear hfz229_4
      try clear hfz229_5
      try clear hfz229_6
      try clear hfz229_7
      try clear hfz229_8
      try clear hfz229_9
      try clear hx1_0
      try clear hx1_1
      try clear hx1_10
      try clear hx1_11
      try clear hx1_2
      try clear hx1_3
      try clear hx1_4
      try clear hx1_5
      try clear hx1_6
      try clear hx1_7
      try clear hx1_8
      try clear hx1_9
      try clear p1
      try clear q1
      obtain ⟨x5_2, rfl, HA, HK2, HB⟩ := hrel
      cases gk with
      | zero => exact absurd HA.out (by simp [r10_Right.l1])
      | succ k2 =>
       have H := HA.out
       clear HA
       simp only [r10_Right.l1] at H
       by_cases c232 : x5_2 < (l0.length : Int)
       ·rw [if_pos c232] at H
        have c232b0 : decide (x5_2 < (l0.length : Int)) = true := decide_eq_true c232
        clear c232
        by_cases c233 : 0 ≤ x5_2
        ·rw [if_pos c233] at H
         have c233b0 : decide (0 ≤ x5_2) = true := decide_eq_true c233
         clear c233
         have H' := Aside0.mk H
         clear H
         have p19 : 0 ≤ (x5_2 : Int) := of_decide_eq_true (by first|(with_reducible assumption)|assumption)
         have q19 : x5_2 < (l0.length : Int) := of_decide_eq_true (by first|(with_reducible assumption)|assumption)
         obtain ⟨ad19, e19, hx19_0, hx19_1, hx19_2, hx19_3, hx19_4, hx19_5, hx19_6, hx19_7, hx19_8, hx19_9, hx19_10, hx19_11⟩ := at_T31 HR0.out x5_2 p19 q19
         cases e19
         replace hx19_0 := (HB.out.cell (World.block_lt_of_cell? w _ hx19_0)).trans hx19_0
         replace hx19_1 := (HB.out.cell (World.block_lt_of_cell? w _ hx19_1)).trans hx19_1
         replace hx19_2 := (HB.out.cell (World.block_lt_of_cell? w _ hx19_2)).trans hx19_2
         replace hx19_3 := (HB.out.cell (World.block_lt_of_cell? w _ hx19_3)).trans hx19_3
         replace hx19_4 := (HB.out.cell (World.block_lt_of_cell? w _ hx19_4)).trans hx19_4
         replace hx19_5 := (HB.out.cell (World.block_lt_of_cell? w _ hx19_5)).trans hx19_5
         replace hx19_6 := (HB.out.cell (World.block_lt_of_cell? w _ hx19_6)).trans hx19_6
         replace hx19_7 := (HB.out.cell (World.block_lt_of_cell? w _ hx19_7)).trans hx19_7
         replace hx19_8 := (HB.out.cell (World.block_lt_of_cell? w _ hx19_8)).trans hx19_8
         replace hx19_9 := (HB.out.cell (World.block_lt_of_cell? w _ hx19_9)).trans hx19_9
         replace hx19_10 := (HB.out.cell (World.block_lt_of_cell? w _ hx19_10)).trans hx19_10
         replace hx19_11 := (HB.out.cell (World.block_lt_of_cell? w _ hx19_11)).trans hx19_11
         replace p19 := eq_true p19
         replace q19 := eq_true q19
         go_wp2_with (first|((with_reducible refine gate_dst (N := 6) rfl ?_);(try (refine gate_guard (by rfl) ?_;dsimp only));refine box_event ?hg (N := 6) ?hd (cs := #[.int .i64 0, .int .i64 0, .int .i64 0]) (t := 27) ?hr ?_;(case hd => rfl);(case hg => rfl);(case hr => first|(go_simp;done)|(go_simp;rfl));intro gb20 hg w234 hbox hb;have n0_ := Aside0.mk (below_step (by repeat (first|(with_reducible first|exact HB.out|apply below_alloc|apply pw_below_drewN|apply below_drew1)|exact HB.out)) hb);have n1_ := Aside0.mk (hbox);have n2_ := Aside0.mk ((by rw [hg];exact (below_size (by repeat (first|(with_reducible first|exact HB.out|apply below_alloc|apply pw_below_drewN|apply below_drew1)|exact HB.out))) : w.heap.size ≤ gb20));have n3_ := Aside0.mk ((by rw [hg];exact (below_size (by repeat (first|(with_reducible first|exact HB.out|apply below_alloc|apply pw_below_drewN|apply below_drew1)|exact HB.out))) : w.heap.size ≤ gb20));clear HB;have HB := n0_;have BK20 := n1_;have GW20 := n2_;have GE20 := n3_;clear n0_ n1_ n2_ n3_;clear hb hbox hg;have hcz235_0 : w234.cell? ⟨gb20, 0, none⟩ = some (.int .i64 0) := (blk_cell BK20.out 0).trans rfl;have hcz235_1 : w234.cell? ⟨gb20, 1, none⟩ = some (.int .i64 0) := (blk_cell BK20.out 1).trans rfl;have hcz235_2 : w234.cell? ⟨gb20, 2, none⟩ = some (.int .i64 0) := (blk_cell BK20.out 2).trans rfl;have hfz235_0 := blk_frozen BK20.out 0;have hfz235_1 := blk_frozen BK20.out 1;have hfz235_2 := blk_frozen BK20.out 2))
         go_loopg [7] k2 (fun kq v7 w' => ∃ (x7_3 : Int) (x21000_3 : Int) (x21001_3 : Int) (x21002_3 : Int), v7 = .int .i64 x7_3 ∧ Aside0 (r10_Right.l2 kq l0 x5_2 x7_3 x21000_3 x21001_3 x21002_3 = some r) ∧ Aside0 (kq ≤ k2) ∧ Aside0 (w'.heap[gb20]? = some (.cells #[.int .i64 x21000_3, .int .i64 x21001_3, .int .i64 x21002_3] 27 (0, 0))) ∧ Aside0 (Below w.heap.size w w'))
         case atStart => exact ⟨(0), ((rd_T31 l0 x5_2).f3.f0), ((rd_T31 l0 x5_2).f3.f1), ((rd_T31 l0 x5_2).f3.f2), (by first|rfl|(simp;done)|(simp [*];done)), H', ⟨Nat.le_refl _⟩, ⟨by (with_reducible repeat (first|refine blk_drewN ?_ _|refine blk_drew ?_|refine blk_alloc ?_ _));refine blk_put (cs := #[.int .i64 ((rd_T31 l0 x5_2).f3.f0), .int .i64 ((rd_T31 l0 x5_2).f3.f1), .int .i64 0]) ?_ 2 _ rfl;(with_reducible repeat (first|refine blk_drewN ?_ _|refine blk_drew ?_|refine blk_alloc ?_ _));refine blk_put (cs := #[.int .i64 ((rd_T31 l0 x5_2).f3.f0), .int .i64 0, .int .i64 0]) ?_ 1 _ rfl;(with_reducible repeat (first|refine blk_drewN ?_ _|refine blk_drew ?_|refine blk_alloc ?_ _));refine blk_put (cs := #[.int .i64 0, .int .i64 0, .int .i64 0]) ?_ 0 _ rfl;(with_reducible repeat (first|refine blk_drewN ?_ _|refine blk_drew ?_|refine blk_alloc ?_ _));exact BK20.out⟩, ⟨by repeat (first|(with_reducible first|exact HB.out|apply below_alloc|apply pw_below_drewN|apply below_drew1|refine below_set ?_ GE20.out)|exact HB.out)⟩⟩
         case round =>
          clear H'
          try clear c1
          try clear p1
          try clear q1
          try clear hx1
          try clear c2
          try clear p2
          try clear c3
          try clear c3b0
          try clear c4
          try clear c6
          try clear c10
          try clear p19
          try clear q19
          try clear hx19
          try clear c23
          try clear c105
          try clear c232
          try clear c232b0
          try clear c233
          try clear c233b0
          try clear hcz229_0
          try clear hcz229_1
          try clear hcz229_10
          try clear hcz229_11
          try clear hcz229_2
          try clear hcz229_3
          try clear hcz229_4
          try clear hcz229_5
          try clear hcz229_6
          try clear hcz229_7
          try clear hcz229_8
          try clear hcz229_9
          try clear hcz235_0
          try clear hcz235_1
          try clear hcz235_2
          try clear hfz229_0
          try clear hfz229_1
          try clear hfz229_10
          try clear hfz229_11
          try clear hfz229_2
          try clear hfz229_3
          try clear hfz229_4
          try clear hfz229_5
          try clear hfz229_6
          try clear hfz229_7
          try clear hfz229_8
          try clear hfz229_9
          try clear hfz235_0
          try clear hfz235_1
          try clear hfz235_2
          try clear hx19_0
          try clear hx19_1
          try clear hx19_10
          try clear hx19_11
          try clear hx19_2
          try clear hx19_3
          try clear hx19_4
          try clear hx19_5
          try clear hx19_6
          try clear hx19_7
          try clear hx19_8
          try clear hx19_9
          try clear hx1_0
          try clear hx1_1
          try clear hx1_10
          try clear hx1_11
          try clear hx1_2
          try clear hx1_3
          try clear hx1_4
          try clear hx1_5
          try clear hx1_6
          try clear hx1_7
          try clear hx1_8
          try clear hx1_9
          try clear p1
          try clear p19
          try clear p2
          try clear q1
          try clear q19
          obtain ⟨x7_3, x21000_3, x21001_3, x21002_3, rfl, HA, HK3, BK20, HB⟩ := hrel
          cases gk with
          | zero => exact absurd HA.out (by simp [r10_Right.l2])
          | succ k3 =>
           have H := HA.out
           clear HA
           simp only [r10_Right.l2] at H
           by_cases c236 : x7_3 < (l0.length : Int)
           ·rw [if_pos c236] at H
            have c236b0 : decide (x7_3 < (l0.length : Int)) = true := decide_eq_true c236
            clear c236
            by_cases c237 : 0 ≤ x7_3
            ·rw [if_pos c237] at H
             have c237b0 : decide (0 ≤ x7_3) = true := decide_eq_true c237
             clear c237
             by_cases c238 : 0 ≤ x5_2
             ·rw [if_pos c238] at H
              have c238b0 : decide (0 ≤ x5_2) = true := decide_eq_true c238
              clear c238
              by_cases c239 : x5_2 < (l0.length : Int)
              ·rw [if_pos c239] at H
               have c239b0 : decide (x5_2 < (l0.length : Int)) = true := decide_eq_true c239
               clear c239
               by_cases c240 : ((rd_T31 l0 x7_3).f1).toList = ((rd_T31 l0 x5_2).f0).toList
               ·rw [if_pos c240] at H
                have c240b0 : (((rd_T31 l0 x7_3).f1).toList == ((rd_T31 l0 x5_2).f0).toList) = true := beq_iff_eq.mpr c240
                have c240b1 : (((rd_T31 l0 x7_3).f1).toList != ((rd_T31 l0 x5_2).f0).toList) = false := bne_eq_false_iff_eq.mpr c240
                clear c240
                replace H := Option.bind_eq_some_iff.mp H
                obtain ⟨⟨t24, t25, t26⟩, A2410, H⟩ := H
                replace H : (r10_Right.l2 k3 l0 x5_2 (wrap64 (x7_3 + 1)) t24 t25 t26) = some r := H
                have A241 := Aside0.mk A2410
                clear A2410
                have H' := Aside0.mk H
                clear H
                try go_wp2
                have n0_ := Aside0.mk (blk_drew BK20.out)
                have n1_ := Aside0.mk (below_drew1 HB.out)
                clear BK20
                clear HB
                have BK20 := n0_
                have HB := n1_
                clear n0_ n1_
                have p21 : 0 ≤ (x7_3 : Int) := of_decide_eq_true (by first|(with_reducible assumption)|assumption)
                have q21 : x7_3 < (l0.length : Int) := of_decide_eq_true (by first|(with_reducible assumption)|assumption)
                obtain ⟨ad21, e21, hx21_0, hx21_1, hx21_2, hx21_3, hx21_4, hx21_5, hx21_6, hx21_7, hx21_8, hx21_9, hx21_10, hx21_11⟩ := at_T31 HR0.out x7_3 p21 q21
                have hw21_11 := hx21_11
                have hw21_10 := hx21_10
                have hw21_9 := hx21_9
                have hw21_8 := hx21_8
                have hw21_7 := hx21_7
                have hw21_6 := hx21_6
                have hw21_5 := hx21_5
                have hw21_4 := hx21_4
                have hw21_3 := hx21_3
                have hw21_2 := hx21_2
                have hw21_1 := hx21_1
                have hw21_0 := hx21_0
                obtain rfl : ad19 = ad21 := (by injection e21)
                replace hx21_0 := (HB.out.cell (World.block_lt_of_cell? w _ hx21_0)).trans hx21_0
                replace hx21_1 := (HB.out.cell (World.block_lt_of_cell? w _ hx21_1)).trans hx21_1
                replace hx21_2 := (HB.out.cell (World.block_lt_of_cell? w _ hx21_2)).trans hx21_2
                replace hx21_3 := (HB.out.cell (World.block_lt_of_cell? w _ hx21_3)).trans hx21_3
                replace hx21_4 := (HB.out.cell (World.block_lt_of_cell? w _ hx21_4)).trans hx21_4
                replace hx21_5 := (HB.out.cell (World.block_lt_of_cell? w _ hx21_5)).trans hx21_5
                replace hx21_6 := (HB.out.cell (World.block_lt_of_cell? w _ hx21_6)).trans hx21_6
                replace hx21_7 := (HB.out.cell (World.block_lt_of_cell? w _ hx21_7)).trans hx21_7
                replace hx21_8 := (HB.out.cell (World.block_lt_of_cell? w _ hx21_8)).trans hx21_8
                replace hx21_9 := (HB.out.cell (World.block_lt_of_cell? w _ hx21_9)).trans hx21_9
                replace hx21_10 := (HB.out.cell (World.block_lt_of_cell? w _ hx21_10)).trans hx21_10
                replace hx21_11 := (HB.out.cell (World.block_lt_of_cell? w _ hx21_11)).trans hx21_11
                replace p21 := eq_true p21
                replace q21 := eq_true q21
                have p22 : 0 ≤ (x5_2 : Int) := of_decide_eq_true (by first|(with_reducible assumption)|assumption)
                have q22 : x5_2 < (l0.length : Int) := of_decide_eq_true (by first|(with_reducible assumption)|assumption)
                obtain ⟨ad22, e22, hx22_0, hx22_1, hx22_2, hx22_3, hx22_4, hx22_5, hx22_6, hx22_7, hx22_8, hx22_9, hx22_10, hx22_11⟩ := at_T31 HR0.out x5_2 p22 q22
                have hw22_11 := hx22_11
                have hw22_10 := hx22_10
                have hw22_9 := hx22_9
                have hw22_8 := hx22_8
                have hw22_7 := hx22_7
                have hw22_6 := hx22_6
                have hw22_5 := hx22_5
                have hw22_4 := hx22_4
                have hw22_3 := hx22_3
                have hw22_2 := hx22_2
                have hw22_1 := hx22_1
                have hw22_0 := hx22_0
                obtain rfl : ad19 = ad22 := (by injection e22)
                replace hx22_0 := (HB.out.cell (World.block_lt_of_cell? w _ hx22_0)).trans hx22_0
                replace hx22_1 := (HB.out.cell (World.block_lt_of_cell? w _ hx22_1)).trans hx22_1
                replace hx22_2 := (HB.out.cell (World.block_lt_of_cell? w _ hx22_2)).trans hx22_2
                replace hx22_3 := (HB.out.cell (World.block_lt_of_cell? w _ hx22_3)).trans hx22_3
                replace hx22_4 := (HB.out.cell (World.block_lt_of_cell? w _ hx22_4)).trans hx22_4
                replace hx22_5 := (HB.out.cell (World.block_lt_of_cell? w _ hx22_5)).trans hx22_5
                replace hx22_6 := (HB.out.cell (World.block_lt_of_cell? w _ hx22_6)).trans hx22_6
                replace hx22_7 := (HB.out.cell (World.block_lt_of_cell? w _ hx22_7)).trans hx22_7
                replace hx22_8 := (HB.out.cell (World.block_lt_of_cell? w _ hx22_8)).trans hx22_8
                replace hx22_9 := (HB.out.cell (World.block_lt_of_cell? w _ hx22_9)).trans hx22_9
                replace hx22_10 := (HB.out.cell (World.block_lt_of_cell? w _ hx22_10)).trans hx22_10
                replace hx22_11 := (HB.out.cell (World.block_lt_of_cell? w _ hx22_11)).trans hx22_11
                replace p22 := eq_true p22
                replace q22 := eq_true q22
                refine start_ (n := 11) (S := fun w' => w'.cell? (ad19.add ((x7_3).toNat * 12)) = some (.string ((rd_T31 l0 x7_3).f0)) ∧ w'.cell? ⟨(ad19.add ((x7_3).toNat * 12)).block, (ad19.add ((x7_3).toNat * 12)).off + 1, none⟩ = some (.string ((rd_T31 l0 x7_3).f1)) ∧ w'.cell? ⟨(ad19.add ((x7_3).toNat * 12)).block, (ad19.add ((x7_3).toNat * 12)).off + 2, none⟩ = some (.int .i64 ((rd_T31 l0 x7_3).f2.f0)) ∧ w'.cell? ⟨(ad19.add ((x7_3).toNat * 12)).block, (ad19.add ((x7_3).toNat * 12)).off + 3, none⟩ = some (.int .i64 ((rd_T31 l0 x7_3).f2.f1)) ∧ w'.cell? ⟨(ad19.add ((x7_3).toNat * 12)).block, (ad19.add ((x7_3).toNat * 12)).off + 4, none⟩ = some (.int .i64 ((rd_T31 l0 x7_3).f2.f2)) ∧ w'.cell? ⟨(ad19.add ((x7_3).toNat * 12)).block, (ad19.add ((x7_3).toNat * 12)).off + 5, none⟩ = some (.int .i64 ((rd_T31 l0 x7_3).f3.f0)) ∧ w'.cell? ⟨(ad19.add ((x7_3).toNat * 12)).block, (ad19.add ((x7_3).toNat * 12)).off + 6, none⟩ = some (.int .i64 ((rd_T31 l0 x7_3).f3.f1)) ∧ w'.cell? ⟨(ad19.add ((x7_3).toNat * 12)).block, (ad19.add ((x7_3).toNat * 12)).off + 7, none⟩ = some (.int .i64 ((rd_T31 l0 x7_3).f3.f2)) ∧ w'.cell? ⟨(ad19.add ((x7_3).toNat * 12)).block, (ad19.add ((x7_3).toNat * 12)).off + 8, none⟩ = some (.int .i64 ((rd_T31 l0 x7_3).f4.f0)) ∧ w'.cell? ⟨(ad19.add ((x7_3).toNat * 12)).block, (ad19.add ((x7_3).toNat * 12)).off + 9, none⟩ = some (.int .i64 ((rd_T31 l0 x7_3).f4.f1)) ∧ w'.cell? ⟨(ad19.add ((x7_3).toNat * 12)).block, (ad19.add ((x7_3).toNat * 12)).off + 10, none⟩ = some (.int .i64 ((rd_T31 l0 x7_3).f4.f2)) ∧ w'.cell? ⟨(ad19.add ((x7_3).toNat * 12)).block, (ad19.add ((x7_3).toNat * 12)).off + 11, none⟩ = some (.int .i64 ((rd_T31 l0 x7_3).f5)) ∧ w'.cell? (ad19.add ((x5_2).toNat * 12)) = some (.string ((rd_T31 l0 x5_2).f0)) ∧ w'.cell? ⟨(ad19.add ((x5_2).toNat * 12)).block, (ad19.add ((x5_2).toNat * 12)).off + 1, none⟩ = some (.string ((rd_T31 l0 x5_2).f1)) ∧ w'.cell? ⟨(ad19.add ((x5_2).toNat * 12)).block, (ad19.add ((x5_2).toNat * 12)).off + 2, none⟩ = some (.int .i64 ((rd_T31 l0 x5_2).f2.f0)) ∧ w'.cell? ⟨(ad19.add ((x5_2).toNat * 12)).block, (ad19.add ((x5_2).toNat * 12)).off + 3, none⟩ = some (.int .i64 ((rd_T31 l0 x5_2).f2.f1)) ∧ w'.cell? ⟨(ad19.add ((x5_2).toNat * 12)).block, (ad19.add ((x5_2).toNat * 12)).off + 4, none⟩ = some (.int .i64 ((rd_T31 l0 x5_2).f2.f2)) ∧ w'.cell? ⟨(ad19.add ((x5_2).toNat * 12)).block, (ad19.add ((x5_2).toNat * 12)).off + 5, none⟩ = some (.int .i64 ((rd_T31 l0 x5_2).f3.f0)) ∧ w'.cell? ⟨(ad19.add ((x5_2).toNat * 12)).block, (ad19.add ((x5_2).toNat * 12)).off + 6, none⟩ = some (.int .i64 ((rd_T31 l0 x5_2).f3.f1)) ∧ w'.cell? ⟨(ad19.add ((x5_2).toNat * 12)).block, (ad19.add ((x5_2).toNat * 12)).off + 7, none⟩ = some (.int .i64 ((rd_T31 l0 x5_2).f3.f2)) ∧ w'.cell? ⟨(ad19.add ((x5_2).toNat * 12)).block, (ad19.add ((x5_2).toNat * 12)).off + 8, none⟩ = some (.int .i64 ((rd_T31 l0 x5_2).f4.f0)) ∧ w'.cell? ⟨(ad19.add ((x5_2).toNat * 12)).block, (ad19.add ((x5_2).toNat * 12)).off + 9, none⟩ = some (.int .i64 ((rd_T31 l0 x5_2).f4.f1)) ∧ w'.cell? ⟨(ad19.add ((x5_2).toNat * 12)).block, (ad19.add ((x5_2).toNat * 12)).off + 10, none⟩ = some (.int .i64 ((rd_T31 l0 x5_2).f4.f2)) ∧ w'.cell? ⟨(ad19.add ((x5_2).toNat * 12)).block, (ad19.add ((x5_2).toNat * 12)).off + 11, none⟩ = some (.int .i64 ((rd_T31 l0 x5_2).f5))) (ds := []) #[false, false, false, false, false, false, false, false, false, false, false] (by kernel_rfl) rfl rfl ⟨((HB.out.cell (World.block_lt_of_cell? w _ hw21_0)).trans hw21_0), ((HB.out.cell (World.block_lt_of_cell? w _ hw21_1)).trans hw21_1), ((HB.out.cell (World.block_lt_of_cell? w _ hw21_2)).trans hw21_2), ((HB.out.cell (World.block_lt_of_cell? w _ hw21_3)).trans hw21_3), ((HB.out.cell (World.block_lt_of_cell? w _ hw21_4)).trans hw21_4), ((HB.out.cell (World.block_lt_of_cell? w _ hw21_5)).trans hw21_5), ((HB.out.cell (World.block_lt_of_cell? w _ hw21_6)).trans hw21_6), ((HB.out.cell (World.block_lt_of_cell? w _ hw21_7)).trans hw21_7), ((HB.out.cell (World.block_lt_of_cell? w _ hw21_8)).trans hw21_8), ((HB.out.cell (World.block_lt_of_cell? w _ hw21_9)).trans hw21_9), ((HB.out.cell (World.block_lt_of_cell? w _ hw21_10)).trans hw21_10), ((HB.out.cell (World.block_lt_of_cell? w _ hw21_11)).trans hw21_11), ((HB.out.cell (World.block_lt_of_cell? w _ hw22_0)).trans hw22_0), ((HB.out.cell (World.block_lt_of_cell? w _ hw22_1)).trans hw22_1), ((HB.out.cell (World.block_lt_of_cell? w _ hw22_2)).trans hw22_2), ((HB.out.cell (World.block_lt_of_cell? w _ hw22_3)).trans hw22_3), ((HB.out.cell (World.block_lt_of_cell? w _ hw22_4)).trans hw22_4), ((HB.out.cell (World.block_lt_of_cell? w _ hw22_5)).trans hw22_5), ((HB.out.cell (World.block_lt_of_cell? w _ hw22_6)).trans hw22_6), ((HB.out.cell (World.block_lt_of_cell? w _ hw22_7)).trans hw22_7), ((HB.out.cell (World.block_lt_of_cell? w _ hw22_8)).trans hw22_8), ((HB.out.cell (World.block_lt_of_cell? w _ hw22_9)).trans hw22_9), ((HB.out.cell (World.block_lt_of_cell? w _ hw22_10)).trans hw22_10), ((HB.out.cell (World.block_lt_of_cell? w _ hw22_11)).trans hw22_11)⟩ (fun hHeld => ?_); refine with_tabW r10_Right.tab16 r10_Right.bits16 (fun HT_ HW_ => ?_)
                generalize wr.drew = w242 at BK20 HB hx21_0 hx21_1 hx21_10 hx21_11 hx21_2 hx21_3 hx21_4 hx21_5 hx21_6 hx21_7 hx21_8 hx21_9 hx22_0 hx22_1 hx22_10 hx22_11 hx22_2 hx22_3 hx22_4 hx22_5 hx22_6 hx22_7 hx22_8 hx22_9 hHeld ⊢
                refine pure_ (i := 0) (N := some 105) (v := ?_) (a' := ?_) #[true, false, false, false, false, false, false, false, false, false, false] rfl rfl (any_of HT_.out (by kernel_rfl)) (fun _ _ _ h => h) (Or.inl ⟨by rfl, ?_⟩) ?_ ?_
                rotate_left
                ·intro w'
                 go_simp
                 with_reducible rfl
                rotate_left
                ·simp only [Act.put, List.setIfInBounds_toArray, List.set_cons_zero, List.set_cons_succ, i64_w, i32_w]
                 rfl
                refine pure_ (i := 1) (N := some 106) (v := ?_) (a' := ?_) #[true, true, false, false, false, false, false, false, false, false, false] rfl rfl (any_of HT_.out (by kernel_rfl)) (fun _ _ _ h => h) (Or.inl ⟨by rfl, ?_⟩) ?_ ?_
                rotate_left
                ·intro w'
                 go_simp
                 with_reducible rfl
                rotate_left
                ·simp only [Act.put, List.setIfInBounds_toArray, List.set_cons_zero, List.set_cons_succ, i64_w, i32_w]
                 rfl
                refine pure_ (i := 2) (N := some 107) (v := ?_) (a' := ?_) #[true, true, true, false, false, false, false, false, false, false, false] rfl rfl (any_of HT_.out (by kernel_rfl)) (fun _ _ _ h => h) (Or.inl ⟨by rfl, ?_⟩) ?_ ?_
                rotate_left
                ·intro w'
                 go_simp
                 with_reducible rfl
                rotate_left
                ·simp only [Act.put, List.setIfInBounds_toArray, List.set_cons_zero, List.set_cons_succ, i64_w, i32_w]
                 rfl
                refine pure_ (i := 3) (N := some 108) (v := ?_) (a' := ?_) #[true, true, true, true, false, false, false, false, false, false, false] rfl rfl (any_of HT_.out (by kernel_rfl)) (fun _ _ _ h => h) (Or.inl ⟨by rfl, ?_⟩) ?_ ?_
                rotate_left
                ·intro w'
                 go_simp
                 with_reducible rfl
                rotate_left
                ·simp only [Act.put, List.setIfInBounds_toArray, List.set_cons_zero, List.set_cons_succ, i64_w, i32_w]
                 rfl
                refine pure_ (i := 5) (N := some 110) (v := ?_) (a' := ?_) #[true, true, true, true, false, true, false, false, false, false, false] rfl rfl (any_of HT_.out (by kernel_rfl)) (fun _ _ _ h => h) (Or.inl ⟨by rfl, ?_⟩) ?_ ?_
                rotate_left
                ·intro w'
                 go_simp
                 with_reducible rfl
                rotate_left
                ·simp only [Act.put, List.setIfInBounds_toArray, List.set_cons_zero, List.set_cons_succ, i64_w, i32_w]
                 rfl
                refine pure_ (i := 6) (N := some 111) (v := ?_) (a' := ?_) #[true, true, true, true, false, true, true, false, false, false, false] rfl rfl (any_of HT_.out (by kernel_rfl)) (fun _ _ _ h => h) (Or.inl ⟨by rfl, ?_⟩) ?_ ?_
                rotate_left
                ·intro w'
                 go_simp
                 with_reducible rfl
                rotate_left
                ·simp only [Act.put, List.setIfInBounds_toArray, List.set_cons_zero, List.set_cons_succ, i64_w, i32_w]
                 rfl
                refine pure_ (i := 7) (N := some 112) (v := ?_) (a' := ?_) #[true, true, true, true, false, true, true, true, false, false, false] rfl rfl (any_of HT_.out (by kernel_rfl)) (fun _ _ _ h => h) (Or.inl ⟨by rfl, ?_⟩) ?_ ?_
                rotate_left
                ·intro w'
                 go_simp
                 with_reducible rfl
                rotate_left
                ·simp only [Act.put, List.setIfInBounds_toArray, List.set_cons_zero, List.set_cons_succ, i64_w, i32_w]
                 rfl
                refine pure_ (i := 8) (N := some 113) (v := ?_) (a' := ?_) #[true, true, true, true, false, true, true, true, true, false, false] rfl rfl (any_of HT_.out (by kernel_rfl)) (fun _ _ _ h => h) (Or.inl ⟨by rfl, ?_⟩) ?_ ?_
                rotate_left
                ·intro w'
                 go_simp
                 with_reducible rfl
                rotate_left
                ·simp only [Act.put, List.setIfInBounds_toArray, List.set_cons_zero, List.set_cons_succ, i64_w, i32_w]
                 rfl
                refine take_ (i := 4) (N := some 109) (v := ?_) (a' := ?_) #[true, true, true, true, true, true, true, true, true, false, false] rfl rfl (take_ofW HT_.out HW_.out (by kernel_rfl)) (fun _ _ _ h => h) (Or.inl ⟨by rfl, ?_⟩) hHeld ?_ ?_
                rotate_left
                ·rintro w' ⟨s0, s1, s2, s3, s4, s5, s6, s7, s8, s9, s10, s11, s12, s13, s14, s15, s16, s17, s18, s19, s20, s21, s22, s23⟩
                 go_simp
                 with_reducible rfl
                rotate_left
                ·simp only [Act.put, List.setIfInBounds_toArray, List.set_cons_zero, List.set_cons_succ, i64_w, i32_w]
                 rfl
                refine take_ (i := 9) (N := some 114) (v := ?_) (a' := ?_) #[true, true, true, true, true, true, true, true, true, true, false] rfl rfl (take_ofW HT_.out HW_.out (by kernel_rfl)) (fun _ _ _ h => h) (Or.inl ⟨by rfl, ?_⟩) hHeld ?_ ?_
                rotate_left
                ·rintro w' ⟨s0, s1, s2, s3, s4, s5, s6, s7, s8, s9, s10, s11, s12, s13, s14, s15, s16, s17, s18, s19, s20, s21, s22, s23⟩
                 go_simp
                 with_reducible rfl
                rotate_left
                ·simp only [Act.put, List.setIfInBounds_toArray, List.set_cons_zero, List.set_cons_succ, i64_w, i32_w]
                 rfl
                refine pure_ (i := 10) (N := some 115) (v := ?_) (a' := ?_) #[true, true, true, true, true, true, true, true, true, true, true] rfl rfl (any_of HT_.out (by kernel_rfl)) (fun _ _ _ h => h) (Or.inl ⟨by rfl, ?_⟩) ?_ ?_
                rotate_left
                ·intro w'
                 go_simp
                 with_reducible rfl
                rotate_left
                ·simp only [Act.put, List.setIfInBounds_toArray, List.set_cons_zero, List.set_cons_succ, i64_w, i32_w]
                 rfl
                refine done_ (done_of HT_.out (by kernel_rfl)) ?_
                try go_wp2
                have n0_ := Aside0.mk (blk_drew BK20.out)
                have n1_ := Aside0.mk (below_drew1 HB.out)
                clear BK20
                clear HB
                have BK20 := n0_
                have HB := n1_
                clear n0_ n1_
                have p23 : 0 ≤ (x7_3 : Int) := of_decide_eq_true (by first|(with_reducible assumption)|assumption)
                have q23 : x7_3 < (l0.length : Int) := of_decide_eq_true (by first|(with_reducible assumption)|assumption)
                obtain ⟨ad23, e23, hx23_0, hx23_1, hx23_2, hx23_3, hx23_4, hx23_5, hx23_6, hx23_7, hx23_8, hx23_9, hx23_10, hx23_11⟩ := at_T31 HR0.out x7_3 p23 q23
                have hw23_11 := hx23_11
                have hw23_10 := hx23_10
                have hw23_9 := hx23_9
                have hw23_8 := hx23_8
                have hw23_7 := hx23_7
                have hw23_6 := hx23_6
                have hw23_5 := hx23_5
                have hw23_4 := hx23_4
                have hw23_3 := hx23_3
                have hw23_2 := hx23_2
                have hw23_1 := hx23_1
                have hw23_0 := hx23_0
                obtain rfl : ad19 = ad23 := (by injection e23)
                replace hx23_0 := (HB.out.cell (World.block_lt_of_cell? w _ hx23_0)).trans hx23_0
                replace hx23_1 := (HB.out.cell (World.block_lt_of_cell? w _ hx23_1)).trans hx23_1
                replace hx23_2 := (HB.out.cell (World.block_lt_of_cell? w _ hx23_2)).trans hx23_2
                replace hx23_3 := (HB.out.cell (World.block_lt_of_cell? w _ hx23_3)).trans hx23_3
                replace hx23_4 := (HB.out.cell (World.block_lt_of_cell? w _ hx23_4)).trans hx23_4
                replace hx23_5 := (HB.out.cell (World.block_lt_of_cell? w _ hx23_5)).trans hx23_5
                replace hx23_6 := (HB.out.cell (World.block_lt_of_cell? w _ hx23_6)).trans hx23_6
                replace hx23_7 := (HB.out.cell (World.block_lt_of_cell? w _ hx23_7)).trans hx23_7
                replace hx23_8 := (HB.out.cell (World.block_lt_of_cell? w _ hx23_8)).trans hx23_8
                replace hx23_9 := (HB.out.cell (World.block_lt_of_cell? w _ hx23_9)).trans hx23_9
                replace hx23_10 := (HB.out.cell (World.block_lt_of_cell? w _ hx23_10)).trans hx23_10
                replace hx23_11 := (HB.out.cell (World.block_lt_of_cell? w _ hx23_11)).trans hx23_11
                replace p23 := eq_true p23
                replace q23 := eq_true q23
                refine start_ (n := 8) (S := fun w' => w'.cell? ⟨gb20, 0, none⟩ = some (.int .i64 x21000_3) ∧ w'.cell? ⟨gb20, 1, none⟩ = some (.int .i64 x21001_3) ∧ w'.cell? ⟨gb20, 2, none⟩ = some (.int .i64 x21002_3) ∧ w'.cell? (ad19.add ((x7_3).toNat * 12)) = some (.string ((rd_T31 l0 x7_3).f0)) ∧ w'.cell? ⟨(ad19.add ((x7_3).toNat * 12)).block, (ad19.add ((x7_3).toNat * 12)).off + 1, none⟩ = some (.string ((rd_T31 l0 x7_3).f1)) ∧ w'.cell? ⟨(ad19.add ((x7_3).toNat * 12)).block, (ad19.add ((x7_3).toNat * 12)).off + 2, none⟩ = some (.int .i64 ((rd_T31 l0 x7_3).f2.f0)) ∧ w'.cell? ⟨(ad19.add ((x7_3).toNat * 12)).block, (ad19.add ((x7_3).toNat * 12)).off + 3, none⟩ = some (.int .i64 ((rd_T31 l0 x7_3).f2.f1)) ∧ w'.cell? ⟨(ad19.add ((x7_3).toNat * 12)).block, (ad19.add ((x7_3).toNat * 12)).off + 4, none⟩ = some (.int .i64 ((rd_T31 l0 x7_3).f2.f2)) ∧ w'.cell? ⟨(ad19.add ((x7_3).toNat * 12)).block, (ad19.add ((x7_3).toNat * 12)).off + 5, none⟩ = some (.int .i64 ((rd_T31 l0 x7_3).f3.f0)) ∧ w'.cell? ⟨(ad19.add ((x7_3).toNat * 12)).block, (ad19.add ((x7_3).toNat * 12)).off + 6, none⟩ = some (.int .i64 ((rd_T31 l0 x7_3).f3.f1)) ∧ w'.cell? ⟨(ad19.add ((x7_3).toNat * 12)).block, (ad19.add ((x7_3).toNat * 12)).off + 7, none⟩ = some (.int .i64 ((rd_T31 l0 x7_3).f3.f2)) ∧ w'.cell? ⟨(ad19.add ((x7_3).toNat * 12)).block, (ad19.add ((x7_3).toNat * 12)).off + 8, none⟩ = some (.int .i64 ((rd_T31 l0 x7_3).f4.f0)) ∧ w'.cell? ⟨(ad19.add ((x7_3).toNat * 12)).block, (ad19.add ((x7_3).toNat * 12)).off + 9, none⟩ = some (.int .i64 ((rd_T31 l0 x7_3).f4.f1)) ∧ w'.cell? ⟨(ad19.add ((x7_3).toNat * 12)).block, (ad19.add ((x7_3).toNat * 12)).off + 10, none⟩ = some (.int .i64 ((rd_T31 l0 x7_3).f4.f2)) ∧ w'.cell? ⟨(ad19.add ((x7_3).toNat * 12)).block, (ad19.add ((x7_3).toNat * 12)).off + 11, none⟩ = some (.int .i64 ((rd_T31 l0 x7_3).f5))) (ds := [7]) #[false, false, false, false, false, false, false, false] (by kernel_rfl) rfl rfl ⟨(blk_cell BK20.out 0).trans rfl, (blk_cell BK20.out 1).trans rfl, (blk_cell BK20.out 2).trans rfl, ((HB.out.cell (World.block_lt_of_cell? w _ hw23_0)).trans hw23_0), ((HB.out.cell (World.block_lt_of_cell? w _ hw23_1)).trans hw23_1), ((HB.out.cell (World.block_lt_of_cell? w _ hw23_2)).trans hw23_2), ((HB.out.cell (World.block_lt_of_cell? w _ hw23_3)).trans hw23_3), ((HB.out.cell (World.block_lt_of_cell? w _ hw23_4)).trans hw23_4), ((HB.out.cell (World.block_lt_of_cell? w _ hw23_5)).trans hw23_5), ((HB.out.cell (World.block_lt_of_cell? w _ hw23_6)).trans hw23_6), ((HB.out.cell (World.block_lt_of_cell? w _ hw23_7)).trans hw23_7), ((HB.out.cell (World.block_lt_of_cell? w _ hw23_8)).trans hw23_8), ((HB.out.cell (World.block_lt_of_cell? w _ hw23_9)).trans hw23_9), ((HB.out.cell (World.block_lt_of_cell? w _ hw23_10)).trans hw23_10), ((HB.out.cell (World.block_lt_of_cell? w _ hw23_11)).trans hw23_11)⟩ (fun hHeld => ?_); refine with_tabW r10_Right.tab17 r10_Right.bits17 (fun HT_ HW_ => ?_)
                generalize w242.drew = w243 at BK20 HB hx23_0 hx23_1 hx23_10 hx23_11 hx23_2 hx23_3 hx23_4 hx23_5 hx23_6 hx23_7 hx23_8 hx23_9 hHeld ⊢
                refine pure_ (i := 1) (N := some 117) (v := ?_) (a' := ?_) #[false, true, false, false, false, false, false, false] rfl rfl (any_of HT_.out (by kernel_rfl)) (fun _ _ _ h => h) (Or.inl ⟨by rfl, ?_⟩) ?_ ?_
                rotate_left
                ·intro w'
                 go_simp
                 with_reducible rfl
                rotate_left
                ·simp only [Act.put, List.setIfInBounds_toArray, List.set_cons_zero, List.set_cons_succ, i64_w, i32_w]
                 rfl
                refine pure_ (i := 2) (N := some 118) (v := ?_) (a' := ?_) #[false, true, true, false, false, false, false, false] rfl rfl (any_of HT_.out (by kernel_rfl)) (fun _ _ _ h => h) (Or.inl ⟨by rfl, ?_⟩) ?_ ?_
                rotate_left
                ·intro w'
                 go_simp
                 with_reducible rfl
                rotate_left
                ·simp only [Act.put, List.setIfInBounds_toArray, List.set_cons_zero, List.set_cons_succ, i64_w, i32_w]
                 rfl
                refine pure_ (i := 3) (N := some 119) (v := ?_) (a' := ?_) #[false, true, true, true, false, false, false, false] rfl rfl (any_of HT_.out (by kernel_rfl)) (fun _ _ _ h => h) (Or.inl ⟨by rfl, ?_⟩) ?_ ?_
                rotate_left
                ·intro w'
                 go_simp
                 with_reducible rfl
                rotate_left
                ·simp only [Act.put, List.setIfInBounds_toArray, List.set_cons_zero, List.set_cons_succ, i64_w, i32_w]
                 rfl
                refine pure_ (i := 4) (N := some 120) (v := ?_) (a' := ?_) #[false, true, true, true, true, false, false, false] rfl rfl (any_of HT_.out (by kernel_rfl)) (fun _ _ _ h => h) (Or.inl ⟨by rfl, ?_⟩) ?_ ?_
                rotate_left
                ·intro w'
                 go_simp
                 with_reducible rfl
                rotate_left
                ·simp only [Act.put, List.setIfInBounds_toArray, List.set_cons_zero, List.set_cons_succ, i64_w, i32_w]
                 rfl
                refine take_ (i := 0) (N := some 116) (v := ?_) (a' := ?_) #[true, true, true, true, true, false, false, false] rfl rfl (take_ofW HT_.out HW_.out (by kernel_rfl)) (fun _ _ _ h => h) (Or.inl ⟨by rfl, ?_⟩) hHeld ?_ ?_
                rotate_left
                ·rintro w' ⟨s0, s1, s2, s3, s4, s5, s6, s7, s8, s9, s10, s11, s12, s13, s14⟩
                 go_simp
                 with_reducible rfl
                rotate_left
                ·simp only [Act.put, List.setIfInBounds_toArray, List.set_cons_zero, List.set_cons_succ, i64_w, i32_w]
                 rfl
                refine take_ (i := 5) (N := some 121) (v := ?_) (a' := ?_) #[true, true, true, true, true, true, false, false] rfl rfl (take_ofW HT_.out HW_.out (by kernel_rfl)) (fun _ _ _ h => h) (Or.inl ⟨by rfl, ?_⟩) hHeld ?_ ?_
                rotate_left
                ·rintro w' ⟨s0, s1, s2, s3, s4, s5, s6, s7, s8, s9, s10, s11, s12, s13, s14⟩
                 go_simp
                 with_reducible rfl
                rotate_left
                ·simp only [Act.put, List.setIfInBounds_toArray, List.set_cons_zero, List.set_cons_succ, i64_w, i32_w]
                 rfl
                refine one_ (i := 6) (N := some 122) #[true, true, true, true, true, true, true, false] rfl rfl (one_of HT_.out (by kernel_rfl)) (by decide) (fun K hK => ?_)
                refine goes_ Try.func63 (by kernel_rfl) rfl #[.agg #[.int .i64 x21000_3, .int .i64 x21001_3, .int .i64 x21002_3], .agg #[.int .i64 ((rd_T31 l0 x7_3).f4.f0), .int .i64 ((rd_T31 l0 x7_3).f4.f1), .int .i64 ((rd_T31 l0 x7_3).f4.f2)]] (by rfl) rfl rfl (by (try simp only [List.map_toArray, List.map_cons, List.map_nil]); first | done | rfl | (simp only [List.length_drop, List.length_take]; rfl)) ?_
                with_reducible refine (r10_Add.calls x21000_3 x21001_3 x21002_3 ((rd_T31 l0 x7_3).f4.f0) ((rd_T31 l0 x7_3).f4.f1) ((rd_T31 l0 x7_3).f4.f2) t24 t25 t26 _ A241.out).mono ?_
                rintro e w244 ⟨rfl, hb⟩
                refine ⟨_, rfl, ?_⟩
                have n0_ := Aside0.mk (blk_below (g := gb20) (o := .cells #[.int .i64 x21000_3, .int .i64 x21001_3, .int .i64 x21002_3] 27 (0, 0)) (by (with_reducible repeat (first|refine blk_drewN ?_ _|refine blk_drew ?_|refine blk_alloc ?_ _));exact BK20.out) hb)
                have n1_ := Aside0.mk (below_step (by repeat (first|(with_reducible first|exact HB.out|apply below_alloc|apply pw_below_drewN|apply below_drew1|refine below_set ?_ GE20.out)|exact HB.out)) hb)
                clear BK20
                clear HB
                have BK20 := n0_
                have HB := n1_
                clear n0_ n1_
                (try clear hb)
                (try clear hb2)
                (try clear hk)
                (try clear hi)
                refine hK.out _ _ ⟨(blk_cell BK20.out 0).trans rfl, (blk_cell BK20.out 1).trans rfl, (blk_cell BK20.out 2).trans rfl, ((HB.out.cell (World.block_lt_of_cell? w _ hw23_0)).trans hw23_0), ((HB.out.cell (World.block_lt_of_cell? w _ hw23_1)).trans hw23_1), ((HB.out.cell (World.block_lt_of_cell? w _ hw23_2)).trans hw23_2), ((HB.out.cell (World.block_lt_of_cell? w _ hw23_3)).trans hw23_3), ((HB.out.cell (World.block_lt_of_cell? w _ hw23_4)).trans hw23_4), ((HB.out.cell (World.block_lt_of_cell? w _ hw23_5)).trans hw23_5), ((HB.out.cell (World.block_lt_of_cell? w _ hw23_6)).trans hw23_6), ((HB.out.cell (World.block_lt_of_cell? w _ hw23_7)).trans hw23_7), ((HB.out.cell (World.block_lt_of_cell? w _ hw23_8)).trans hw23_8), ((HB.out.cell (World.block_lt_of_cell? w _ hw23_9)).trans hw23_9), ((HB.out.cell (World.block_lt_of_cell? w _ hw23_10)).trans hw23_10), ((HB.out.cell (World.block_lt_of_cell? w _ hw23_11)).trans hw23_11)⟩ (fun hHeld => ?_)
                clear hK K
                refine norm_ (a' := ?_) ?_ ?_
                rotate_left
                ·show Act.put _ (some 122) _ = _
                 simp only [Act.put, List.setIfInBounds_toArray, List.set_cons_zero, List.set_cons_succ, i64_w, i32_w]
                 rfl
                refine last_ (i := 7) (N := none) #[true, true, true, true, true, true, true, true] rfl rfl (one_of HT_.out (by kernel_rfl)) (by decide) (fun K hK => ?_)
                have hs245 : w244.cell? ⟨gb20, 0, none⟩ = some (.int .i64 x21000_3) := (blk_cell BK20.out 0).trans rfl
                have hfs245 := blk_frozen BK20.out 0
                have hs246 : w244.cell? ⟨gb20, 1, none⟩ = some (.int .i64 x21001_3) := (blk_cell BK20.out 1).trans rfl
                have hfs246 := blk_frozen BK20.out 1
                have hs247 : w244.cell? ⟨gb20, 2, none⟩ = some (.int .i64 x21002_3) := (blk_cell BK20.out 2).trans rfl
                have hfs247 := blk_frozen BK20.out 2
                refine skip_ (w1 := ?_) (by rfl) rfl ?_ ?_
                rotate_left
                ·go_simp
                 rfl
                refine hK.out _ _ ?_
                clear hK K
                refine done_ (done_of HT_.out (by kernel_rfl)) ?_
                try go_wp2
                go_roundg k3
                case measure => have := HK1.out; have := HK2.out; have := HK3.out; omega
                case rel => exact ⟨(wrap64 (x7_3 + 1)), (t24), (t25), (t26), (by first|rfl|(simp;done)|(simp [*];done)), H', ⟨by have := HK1.out;have := HK2.out;have := HK3.out;omega⟩, ⟨by (with_reducible repeat (first|refine blk_drewN ?_ _|refine blk_drew ?_|refine blk_alloc ?_ _));refine blk_put (cs := #[.int .i64 t24, .int .i64 t25, .int .i64 x21002_3]) ?_ 2 _ rfl;(with_reducible repeat (first|refine blk_drewN ?_ _|refine blk_drew ?_|refine blk_alloc ?_ _));refine blk_put (cs := #[.int .i64 t24, .int .i64 x21001_3, .int .i64 x21002_3]) ?_ 1 _ rfl;(with_reducible repeat (first|refine blk_drewN ?_ _|refine blk_drew ?_|refine blk_alloc ?_ _));refine blk_put (cs := #[.int .i64 x21000_3, .int .i64 x21001_3, .int .i64 x21002_3]) ?_ 0 _ rfl;(with_reducible repeat (first|refine blk_drewN ?_ _|refine blk_drew ?_|refine blk_alloc ?_ _));exact BK20.out⟩, ⟨by repeat (first|(with_reducible first|exact HB.out|apply below_alloc|apply pw_below_drewN|apply below_drew1|refine below_set ?_ GE20.out)|exact HB.out)⟩⟩
               ·rw [if_neg c240] at H
                have c240b0 : (((rd_T31 l0 x7_3).f1).toList == ((rd_T31 l0 x5_2).f0).toList) = false := beq_eq_false_iff_ne.mpr c240
                have c240b1 : (((rd_T31 l0 x7_3).f1).toList != ((rd_T31 l0 x5_2).f0).toList) = true := bne_iff_ne.mpr c240
                have H' := Aside0.mk H
                clear H
                try go_wp2
                have n0_ := Aside0.mk (blk_drew BK20.out)
                have n1_ := Aside0.mk (below_drew1 HB.out)
                clear BK20
                clear HB
                have BK20 := n0_
                have HB := n1_
                clear n0_ n1_
                have p21 : 0 ≤ (x7_3 : Int) := of_decide_eq_true (by first|(with_reducible assumption)|assumption)
                have q21 : x7_3 < (l0.length : Int) := of_decide_eq_true (by first|(with_reducible assumption)|assumption)
                obtain ⟨ad21, e21, hx21_0, hx21_1, hx21_2, hx21_3, hx21_4, hx21_5, hx21_6, hx21_7, hx21_8, hx21_9, hx21_10, hx21_11⟩ := at_T31 HR0.out x7_3 p21 q21
                have hw21_11 := hx21_11
                have hw21_10 := hx21_10
                have hw21_9 := hx21_9
                have hw21_8 := hx21_8
                have hw21_7 := hx21_7
                have hw21_6 := hx21_6
                have hw21_5 := hx21_5
                have hw21_4 := hx21_4
                have hw21_3 := hx21_3
                have hw21_2 := hx21_2
                have hw21_1 := hx21_1
                have hw21_0 := hx21_0
                obtain rfl : ad19 = ad21 := (by injection e21)
                replace hx21_0 := (HB.out.cell (World.block_lt_of_cell? w _ hx21_0)).trans hx21_0
                replace hx21_1 := (HB.out.cell (World.block_lt_of_cell? w _ hx21_1)).trans hx21_1
                replace hx21_2 := (HB.out.cell (World.block_lt_of_cell? w _ hx21_2)).trans hx21_2
                replace hx21_3 := (HB.out.cell (World.block_lt_of_cell? w _ hx21_3)).trans hx21_3
                replace hx21_4 := (HB.out.cell (World.block_lt_of_cell? w _ hx21_4)).trans hx21_4
                replace hx21_5 := (HB.out.cell (World.block_lt_of_cell? w _ hx21_5)).trans hx21_5
                replace hx21_6 := (HB.out.cell (World.block_lt_of_cell? w _ hx21_6)).trans hx21_6
                replace hx21_7 := (HB.out.cell (World.block_lt_of_cell? w _ hx21_7)).trans hx21_7
                replace hx21_8 := (HB.out.cell (World.block_lt_of_cell? w _ hx21_8)).trans hx21_8
                replace hx21_9 := (HB.out.cell (World.block_lt_of_cell? w _ hx21_9)).trans hx21_9
                replace hx21_10 := (HB.out.cell (World.block_lt_of_cell? w _ hx21_10)).trans hx21_10
                replace hx21_11 := (HB.out.cell (World.block_lt_of_cell? w _ hx21_11)).trans hx21_11
                replace p21 := eq_true p21
                replace q21 := eq_true q21
                have p22 : 0 ≤ (x5_2 : Int) := of_decide_eq_true (by first|(with_reducible assumption)|assumption)
                have q22 : x5_2 < (l0.length : Int) := of_decide_eq_true (by first|(with_reducible assumption)|assumption)
                obtain ⟨ad22, e22, hx22_0, hx22_1, hx22_2, hx22_3, hx22_4, hx22_5, hx22_6, hx22_7, hx22_8, hx22_9, hx22_10, hx22_11⟩ := at_T31 HR0.out x5_2 p22 q22
                have hw22_11 := hx22_11
                have hw22_10 := hx22_10
                have hw22_9 := hx22_9
                have hw22_8 := hx22_8
                have hw22_7 := hx22_7
                have hw22_6 := hx22_6
                have hw22_5 := hx22_5
                have hw22_4 := hx22_4
                have hw22_3 := hx22_3
                have hw22_2 := hx22_2
                have hw22_1 := hx22_1
                have hw22_0 := hx22_0
                obtain rfl : ad19 = ad22 := (by injection e22)
                replace hx22_0 := (HB.out.cell (World.block_lt_of_cell? w _ hx22_0)).trans hx22_0
                replace hx22_1 := (HB.out.cell (World.block_lt_of_cell? w _ hx22_1)).trans hx22_1
                replace hx22_2 := (HB.out.cell (World.block_lt_of_cell? w _ hx22_2)).trans hx22_2
                replace hx22_3 := (HB.out.cell (World.block_lt_of_cell? w _ hx22_3)).trans hx22_3
                replace hx22_4 := (HB.out.cell (World.block_lt_of_cell? w _ hx22_4)).trans hx22_4
                replace hx22_5 := (HB.out.cell (World.block_lt_of_cell? w _ hx22_5)).trans hx22_5
                replace hx22_6 := (HB.out.cell (World.block_lt_of_cell? w _ hx22_6)).trans hx22_6
                replace hx22_7 := (HB.out.cell (World.block_lt_of_cell? w _ hx22_7)).trans hx22_7
                replace hx22_8 := (HB.out.cell (World.block_lt_of_cell? w _ hx22_8)).trans hx22_8
                replace hx22_9 := (HB.out.cell (World.block_lt_of_cell? w _ hx22_9)).trans hx22_9
                replace hx22_10 := (HB.out.cell (World.block_lt_of_cell? w _ hx22_10)).trans hx22_10
                replace hx22_11 := (HB.out.cell (World.block_lt_of_cell? w _ hx22_11)).trans hx22_11
                replace p22 := eq_true p22
                replace q22 := eq_true q22
                refine start_ (n := 11) (S := fun w' => w'.cell? (ad19.add ((x7_3).toNat * 12)) = some (.string ((rd_T31 l0 x7_3).f0)) ∧ w'.cell? ⟨(ad19.add ((x7_3).toNat * 12)).block, (ad19.add ((x7_3).toNat * 12)).off + 1, none⟩ = some (.string ((rd_T31 l0 x7_3).f1)) ∧ w'.cell? ⟨(ad19.add ((x7_3).toNat * 12)).block, (ad19.add ((x7_3).toNat * 12)).off + 2, none⟩ = some (.int .i64 ((rd_T31 l0 x7_3).f2.f0)) ∧ w'.cell? ⟨(ad19.add ((x7_3).toNat * 12)).block, (ad19.add ((x7_3).toNat * 12)).off + 3, none⟩ = some (.int .i64 ((rd_T31 l0 x7_3).f2.f1)) ∧ w'.cell? ⟨(ad19.add ((x7_3).toNat * 12)).block, (ad19.add ((x7_3).toNat * 12)).off + 4, none⟩ = some (.int .i64 ((rd_T31 l0 x7_3).f2.f2)) ∧ w'.cell? ⟨(ad19.add ((x7_3).toNat * 12)).block, (ad19.add ((x7_3).toNat * 12)).off + 5, none⟩ = some (.int .i64 ((rd_T31 l0 x7_3).f3.f0)) ∧ w'.cell? ⟨(ad19.add ((x7_3).toNat * 12)).block, (ad19.add ((x7_3).toNat * 12)).off + 6, none⟩ = some (.int .i64 ((rd_T31 l0 x7_3).f3.f1)) ∧ w'.cell? ⟨(ad19.add ((x7_3).toNat * 12)).block, (ad19.add ((x7_3).toNat * 12)).off + 7, none⟩ = some (.int .i64 ((rd_T31 l0 x7_3).f3.f2)) ∧ w'.cell? ⟨(ad19.add ((x7_3).toNat * 12)).block, (ad19.add ((x7_3).toNat * 12)).off + 8, none⟩ = some (.int .i64 ((rd_T31 l0 x7_3).f4.f0)) ∧ w'.cell? ⟨(ad19.add ((x7_3).toNat * 12)).block, (ad19.add ((x7_3).toNat * 12)).off + 9, none⟩ = some (.int .i64 ((rd_T31 l0 x7_3).f4.f1)) ∧ w'.cell? ⟨(ad19.add ((x7_3).toNat * 12)).block, (ad19.add ((x7_3).toNat * 12)).off + 10, none⟩ = some (.int .i64 ((rd_T31 l0 x7_3).f4.f2)) ∧ w'.cell? ⟨(ad19.add ((x7_3).toNat * 12)).block, (ad19.add ((x7_3).toNat * 12)).off + 11, none⟩ = some (.int .i64 ((rd_T31 l0 x7_3).f5)) ∧ w'.cell? (ad19.add ((x5_2).toNat * 12)) = some (.string ((rd_T31 l0 x5_2).f0)) ∧ w'.cell? ⟨(ad19.add ((x5_2).toNat * 12)).block, (ad19.add ((x5_2).toNat * 12)).off + 1, none⟩ = some (.string ((rd_T31 l0 x5_2).f1)) ∧ w'.cell? ⟨(ad19.add ((x5_2).toNat * 12)).block, (ad19.add ((x5_2).toNat * 12)).off + 2, none⟩ = some (.int .i64 ((rd_T31 l0 x5_2).f2.f0)) ∧ w'.cell? ⟨(ad19.add ((x5_2).toNat * 12)).block, (ad19.add ((x5_2).toNat * 12)).off + 3, none⟩ = some (.int .i64 ((rd_T31 l0 x5_2).f2.f1)) ∧ w'.cell? ⟨(ad19.add ((x5_2).toNat * 12)).block, (ad19.add ((x5_2).toNat * 12)).off + 4, none⟩ = some (.int .i64 ((rd_T31 l0 x5_2).f2.f2)) ∧ w'.cell? ⟨(ad19.add ((x5_2).toNat * 12)).block, (ad19.add ((x5_2).toNat * 12)).off + 5, none⟩ = some (.int .i64 ((rd_T31 l0 x5_2).f3.f0)) ∧ w'.cell? ⟨(ad19.add ((x5_2).toNat * 12)).block, (ad19.add ((x5_2).toNat * 12)).off + 6, none⟩ = some (.int .i64 ((rd_T31 l0 x5_2).f3.f1)) ∧ w'.cell? ⟨(ad19.add ((x5_2).toNat * 12)).block, (ad19.add ((x5_2).toNat * 12)).off + 7, none⟩ = some (.int .i64 ((rd_T31 l0 x5_2).f3.f2)) ∧ w'.cell? ⟨(ad19.add ((x5_2).toNat * 12)).block, (ad19.add ((x5_2).toNat * 12)).off + 8, none⟩ = some (.int .i64 ((rd_T31 l0 x5_2).f4.f0)) ∧ w'.cell? ⟨(ad19.add ((x5_2).toNat * 12)).block, (ad19.add ((x5_2).toNat * 12)).off + 9, none⟩ = some (.int .i64 ((rd_T31 l0 x5_2).f4.f1)) ∧ w'.cell? ⟨(ad19.add ((x5_2).toNat * 12)).block, (ad19.add ((x5_2).toNat * 12)).off + 10, none⟩ = some (.int .i64 ((rd_T31 l0 x5_2).f4.f2)) ∧ w'.cell? ⟨(ad19.add ((x5_2).toNat * 12)).block, (ad19.add ((x5_2).toNat * 12)).off + 11, none⟩ = some (.int .i64 ((rd_T31 l0 x5_2).f5))) (ds := []) #[false, false, false, false, false, false, false, false, false, false, false] (by kernel_rfl) rfl rfl ⟨((HB.out.cell (World.block_lt_of_cell? w _ hw21_0)).trans hw21_0), ((HB.out.cell (World.block_lt_of_cell? w _ hw21_1)).trans hw21_1), ((HB.out.cell (World.block_lt_of_cell? w _ hw21_2)).trans hw21_2), ((HB.out.cell (World.block_lt_of_cell? w _ hw21_3)).trans hw21_3), ((HB.out.cell (World.block_lt_of_cell? w _ hw21_4)).trans hw21_4), ((HB.out.cell (World.block_lt_of_cell? w _ hw21_5)).trans hw21_5), ((HB.out.cell (World.block_lt_of_cell? w _ hw21_6)).trans hw21_6), ((HB.out.cell (World.block_lt_of_cell? w _ hw21_7)).trans hw21_7), ((HB.out.cell (World.block_lt_of_cell? w _ hw21_8)).trans hw21_8), ((HB.out.cell (World.block_lt_of_cell? w _ hw21_9)).trans hw21_9), ((HB.out.cell (World.block_lt_of_cell? w _ hw21_10)).trans hw21_10), ((HB.out.cell (World.block_lt_of_cell? w _ hw21_11)).trans hw21_11), ((HB.out.cell (World.block_lt_of_cell? w _ hw22_0)).trans hw22_0), ((HB.out.cell (World.block_lt_of_cell? w _ hw22_1)).trans hw22_1), ((HB.out.cell (World.block_lt_of_cell? w _ hw22_2)).trans hw22_2), ((HB.out.cell (World.block_lt_of_cell? w _ hw22_3)).trans hw22_3), ((HB.out.cell (World.block_lt_of_cell? w _ hw22_4)).trans hw22_4), ((HB.out.cell (World.block_lt_of_cell? w _ hw22_5)).trans hw22_5), ((HB.out.cell (World.block_lt_of_cell? w _ hw22_6)).trans hw22_6), ((HB.out.cell (World.block_lt_of_cell? w _ hw22_7)).trans hw22_7), ((HB.out.cell (World.block_lt_of_cell? w _ hw22_8)).trans hw22_8), ((HB.out.cell (World.block_lt_of_cell? w _ hw22_9)).trans hw22_9), ((HB.out.cell (World.block_lt_of_cell? w _ hw22_10)).trans hw22_10), ((HB.out.cell (World.block_lt_of_cell? w _ hw22_11)).trans hw22_11)⟩ (fun hHeld => ?_); refine with_tabW r10_Right.tab16 r10_Right.bits16 (fun HT_ HW_ => ?_)
                generalize wr.drew = w248 at BK20 HB hx21_0 hx21_1 hx21_10 hx21_11 hx21_2 hx21_3 hx21_4 hx21_5 hx21_6 hx21_7 hx21_8 hx21_9 hx22_0 hx22_1 hx22_10 hx22_11 hx22_2 hx22_3 hx22_4 hx22_5 hx22_6 hx22_7 hx22_8 hx22_9 hHeld ⊢
                refine pure_ (i := 0) (N := some 105) (v := ?_) (a' := ?_) #[true, false, false, false, false, false, false, false, false, false, false] rfl rfl (any_of HT_.out (by kernel_rfl)) (fun _ _ _ h => h) (Or.inl ⟨by rfl, ?_⟩) ?_ ?_
                rotate_left
                ·intro w'
                 go_simp
                 with_reducible rfl
                rotate_left
                ·simp only [Act.put, List.setIfInBounds_toArray, List.set_cons_zero, List.set_cons_succ, i64_w, i32_w]
                 rfl
                refine pure_ (i := 1) (N := some 106) (v := ?_) (a' := ?_) #[true, true, false, false, false, false, false, false, false, false, false] rfl rfl (any_of HT_.out (by kernel_rfl)) (fun _ _ _ h => h) (Or.inl ⟨by rfl, ?_⟩) ?_ ?_
                rotate_left
                ·intro w'
                 go_simp
                 with_reducible rfl
                rotate_left
                ·simp only [Act.put, List.setIfInBounds_toArray, List.set_cons_zero, List.set_cons_succ, i64_w, i32_w]
                 rfl
                refine pure_ (i := 2) (N := some 107) (v := ?_) (a' := ?_) #[true, true, true, false, false, false, false, false, false, false, false] rfl rfl (any_of HT_.out (by kernel_rfl)) (fun _ _ _ h => h) (Or.inl ⟨by rfl, ?_⟩) ?_ ?_
                rotate_left
                ·intro w'
                 go_simp
                 with_reducible rfl
                rotate_left
                ·simp only [Act.put, List.setIfInBounds_toArray, List.set_cons_zero, List.set_cons_succ, i64_w, i32_w]
                 rfl
                refine pure_ (i := 3) (N := some 108) (v := ?_) (a' := ?_) #[true, true, true, true, false, false, false, false, false, false, false] rfl rfl (any_of HT_.out (by kernel_rfl)) (fun _ _ _ h => h) (Or.inl ⟨by rfl, ?_⟩) ?_ ?_
                rotate_left
                ·intro w'
                 go_simp
                 with_reducible rfl
                rotate_left
                ·simp only [Act.put, List.setIfInBounds_toArray, List.set_cons_zero, List.set_cons_succ, i64_w, i32_w]
                 rfl
                refine pure_ (i := 5) (N := some 110) (v := ?_) (a' := ?_) #[true, true, true, true, false, true, false, false, false, false, false] rfl rfl (any_of HT_.out (by kernel_rfl)) (fun _ _ _ h => h) (Or.inl ⟨by rfl, ?_⟩) ?_ ?_
                rotate_left
                ·intro w'
                 go_simp
                 with_reducible rfl
                rotate_left
                ·simp only [Act.put, List.setIfInBounds_toArray, List.set_cons_zero, List.set_cons_succ, i64_w, i32_w]
                 rfl
                refine pure_ (i := 6) (N := some 111) (v := ?_) (a' := ?_) #[true, true, true, true, false, true, true, false, false, false, false] rfl rfl (any_of HT_.out (by kernel_rfl)) (fun _ _ _ h => h) (Or.inl ⟨by rfl, ?_⟩) ?_ ?_
                rotate_left
                ·intro w'
                 go_simp
                 with_reducible rfl
                rotate_left
                ·simp only [Act.put, List.setIfInBounds_toArray, List.set_cons_zero, List.set_cons_succ, i64_w, i32_w]
                 rfl
                refine pure_ (i := 7) (N := some 112) (v := ?_) (a' := ?_) #[true, true, true, true, false, true, true, true, false, false, false] rfl rfl (any_of HT_.out (by kernel_rfl)) (fun _ _ _ h => h) (Or.inl ⟨by rfl, ?_⟩) ?_ ?_
                rotate_left
                ·intro w'
                 go_simp
                 with_reducible rfl
                rotate_left
                ·simp only [Act.put, List.setIfInBounds_toArray, List.set_cons_zero, List.set_cons_succ, i64_w, i32_w]
                 rfl
                refine pure_ (i := 8) (N := some 113) (v := ?_) (a' := ?_) #[true, true, true, true, false, true, true, true, true, false, false] rfl rfl (any_of HT_.out (by kernel_rfl)) (fun _ _ _ h => h) (Or.inl ⟨by rfl, ?_⟩) ?_ ?_
                rotate_left
                ·intro w'
                 go_simp
                 with_reducible rfl
                rotate_left
                ·simp only [Act.put, List.setIfInBounds_toArray, List.set_cons_zero, List.set_cons_succ, i64_w, i32_w]
                 rfl
                refine take_ (i := 4) (N := some 109) (v := ?_) (a' := ?_) #[true, true, true, true, true, true, true, true, true, false, false] rfl rfl (take_ofW HT_.out HW_.out (by kernel_rfl)) (fun _ _ _ h => h) (Or.inl ⟨by rfl, ?_⟩) hHeld ?_ ?_
                rotate_left
                ·rintro w' ⟨s0, s1, s2, s3, s4, s5, s6, s7, s8, s9, s10, s11, s12, s13, s14, s15, s16, s17, s18, s19, s20, s21, s22, s23⟩
                 go_simp
                 with_reducible rfl
                rotate_left
                ·simp only [Act.put, List.setIfInBounds_toArray, List.set_cons_zero, List.set_cons_succ, i64_w, i32_w]
                 rfl
                refine take_ (i := 9) (N := some 114) (v := ?_) (a' := ?_) #[true, true, true, true, true, true, true, true, true, true, false] rfl rfl (take_ofW HT_.out HW_.out (by kernel_rfl)) (fun _ _ _ h => h) (Or.inl ⟨by rfl, ?_⟩) hHeld ?_ ?_
                rotate_left
                ·rintro w' ⟨s0, s1, s2, s3, s4, s5, s6, s7, s8, s9, s10, s11, s12, s13, s14, s15, s16, s17, s18, s19, s20, s21, s22, s23⟩
                 go_simp
                 with_reducible rfl
                rotate_left
                ·simp only [Act.put, List.setIfInBounds_toArray, List.set_cons_zero, List.set_cons_succ, i64_w, i32_w]
                 rfl
                refine pure_ (i := 10) (N := some 115) (v := ?_) (a' := ?_) #[true, true, true, true, true, true, true, true, true, true, true] rfl rfl (any_of HT_.out (by kernel_rfl)) (fun _ _ _ h => h) (Or.inl ⟨by rfl, ?_⟩) ?_ ?_
                rotate_left
                ·intro w'
                 go_simp
                 with_reducible rfl
                rotate_left
                ·simp only [Act.put, List.setIfInBounds_toArray, List.set_cons_zero, List.set_cons_succ, i64_w, i32_w]
                 rfl
                refine done_ (done_of HT_.out (by kernel_rfl)) ?_
                try go_wp2
                go_roundg k3
                case measure => have := HK1.out; have := HK2.out; have := HK3.out; omega
                case rel => exact ⟨(wrap64 (x7_3 + 1)), (x21000_3), (x21001_3), (x21002_3), (by first|rfl|(simp;done)|(simp [*];done)), H', ⟨by have := HK1.out;have := HK2.out;have := HK3.out;omega⟩, ⟨by (with_reducible repeat (first|refine blk_drewN ?_ _|refine blk_drew ?_|refine blk_alloc ?_ _));exact BK20.out⟩, ⟨by repeat (first|(with_reducible first|exact HB.out|apply below_alloc|apply pw_below_drewN|apply below_drew1|refine below_set ?_ GE20.out)|exact HB.out)⟩⟩
              ·rw [if_neg c239] at H
               exact absurd H (by simp)
             ·rw [if_neg c238] at H
              exact absurd H (by simp)
            ·rw [if_neg c237] at H
             exact absurd H (by simp)
           ·rw [if_neg c236] at H
            have c236b0 : decide (x7_3 < (l0.length : Int)) = false := decide_eq_false c236
            clear c236
            by_cases c249 : 0 ≤ x5_2
            ·rw [if_pos c249] at H
             have c249b0 : decide (0 ≤ x5_2) = true := decide_eq_true c249
             clear c249
             by_cases c250 : x5_2 < (l0.length : Int)
             ·rw [if_pos c250] at H
              have c250b0 : decide (x5_2 < (l0.length : Int)) = true := decide_eq_true c250
              clear c250
              by_cases c251 : (!(x21000_3 == ((rd_T31 l0 x5_2).f4.f0)) || (!(x21001_3 == ((rd_T31 l0 x5_2).f4.f1)) || (!(x21002_3 == ((rd_T31 l0 x5_2).f4.f2))))) = true
              ·rw [if_pos c251] at H
               have c251b0 : (!(x21000_3 == ((rd_T31 l0 x5_2).f4.f0)) || (!(x21001_3 == ((rd_T31 l0 x5_2).f4.f1)) || (!(x21002_3 == ((rd_T31 l0 x5_2).f4.f2))))) = true := c251
               clear c251
               obtain rfl := Option.some.inj H
               try go_wp2
               have n0_ := Aside0.mk (blk_drew BK20.out)
               have n1_ := Aside0.mk (below_drew1 HB.out)
               clear BK20
               clear HB
               have BK20 := n0_
               have HB := n1_
               clear n0_ n1_
               have p27 : 0 ≤ (x5_2 : Int) := of_decide_eq_true (by first|(with_reducible assumption)|assumption)
               have q27 : x5_2 < (l0.length : Int) := of_decide_eq_true (by first|(with_reducible assumption)|assumption)
               obtain ⟨ad27, e27, hx27_0, hx27_1, hx27_2, hx27_3, hx27_4, hx27_5, hx27_6, hx27_7, hx27_8, hx27_9, hx27_10, hx27_11⟩ := at_T31 HR0.out x5_2 p27 q27
               have hw27_11 := hx27_11
               have hw27_10 := hx27_10
               have hw27_9 := hx27_9
               have hw27_8 := hx27_8
               have hw27_7 := hx27_7
               have hw27_6 := hx27_6
               have hw27_5 := hx27_5
               have hw27_4 := hx27_4
               have hw27_3 := hx27_3
               have hw27_2 := hx27_2
               have hw27_1 := hx27_1
               have hw27_0 := hx27_0
               obtain rfl : ad19 = ad27 := (by injection e27)
               replace hx27_0 := (HB.out.cell (World.block_lt_of_cell? w _ hx27_0)).trans hx27_0
               replace hx27_1 := (HB.out.cell (World.block_lt_of_cell? w _ hx27_1)).trans hx27_1
               replace hx27_2 := (HB.out.cell (World.block_lt_of_cell? w _ hx27_2)).trans hx27_2
               replace hx27_3 := (HB.out.cell (World.block_lt_of_cell? w _ hx27_3)).trans hx27_3
               replace hx27_4 := (HB.out.cell (World.block_lt_of_cell? w _ hx27_4)).trans hx27_4
               replace hx27_5 := (HB.out.cell (World.block_lt_of_cell? w _ hx27_5)).trans hx27_5
               replace hx27_6 := (HB.out.cell (World.block_lt_of_cell? w _ hx27_6)).trans hx27_6
               replace hx27_7 := (HB.out.cell (World.block_lt_of_cell? w _ hx27_7)).trans hx27_7
               replace hx27_8 := (HB.out.cell (World.block_lt_of_cell? w _ hx27_8)).trans hx27_8
               replace hx27_9 := (HB.out.cell (World.block_lt_of_cell? w _ hx27_9)).trans hx27_9
               replace hx27_10 := (HB.out.cell (World.block_lt_of_cell? w _ hx27_10)).trans hx27_10
               replace hx27_11 := (HB.out.cell (World.block_lt_of_cell? w _ hx27_11)).trans hx27_11
               replace p27 := eq_true p27
               replace q27 := eq_true q27
               refine start_ (n := 20) (S := fun w' => w'.cell? ⟨gb20, 0, none⟩ = some (.int .i64 x21000_3) ∧ w'.cell? ⟨gb20, 1, none⟩ = some (.int .i64 x21001_3) ∧ w'.cell? ⟨gb20, 2, none⟩ = some (.int .i64 x21002_3) ∧ w'.cell? (ad19.add ((x5_2).toNat * 12)) = some (.string ((rd_T31 l0 x5_2).f0)) ∧ w'.cell? ⟨(ad19.add ((x5_2).toNat * 12)).block, (ad19.add ((x5_2).toNat * 12)).off + 1, none⟩ = some (.string ((rd_T31 l0 x5_2).f1)) ∧ w'.cell? ⟨(ad19.add ((x5_2).toNat * 12)).block, (ad19.add ((x5_2).toNat * 12)).off + 2, none⟩ = some (.int .i64 ((rd_T31 l0 x5_2).f2.f0)) ∧ w'.cell? ⟨(ad19.add ((x5_2).toNat * 12)).block, (ad19.add ((x5_2).toNat * 12)).off + 3, none⟩ = some (.int .i64 ((rd_T31 l0 x5_2).f2.f1)) ∧ w'.cell? ⟨(ad19.add ((x5_2).toNat * 12)).block, (ad19.add ((x5_2).toNat * 12)).off + 4, none⟩ = some (.int .i64 ((rd_T31 l0 x5_2).f2.f2)) ∧ w'.cell? ⟨(ad19.add ((x5_2).toNat * 12)).block, (ad19.add ((x5_2).toNat * 12)).off + 5, none⟩ = some (.int .i64 ((rd_T31 l0 x5_2).f3.f0)) ∧ w'.cell? ⟨(ad19.add ((x5_2).toNat * 12)).block, (ad19.add ((x5_2).toNat * 12)).off + 6, none⟩ = some (.int .i64 ((rd_T31 l0 x5_2).f3.f1)) ∧ w'.cell? ⟨(ad19.add ((x5_2).toNat * 12)).block, (ad19.add ((x5_2).toNat * 12)).off + 7, none⟩ = some (.int .i64 ((rd_T31 l0 x5_2).f3.f2)) ∧ w'.cell? ⟨(ad19.add ((x5_2).toNat * 12)).block, (ad19.add ((x5_2).toNat * 12)).off + 8, none⟩ = some (.int .i64 ((rd_T31 l0 x5_2).f4.f0)) ∧ w'.cell? ⟨(ad19.add ((x5_2).toNat * 12)).block, (ad19.add ((x5_2).toNat * 12)).off + 9, none⟩ = some (.int .i64 ((rd_T31 l0 x5_2).f4.f1)) ∧ w'.cell? ⟨(ad19.add ((x5_2).toNat * 12)).block, (ad19.add ((x5_2).toNat * 12)).off + 10, none⟩ = some (.int .i64 ((rd_T31 l0 x5_2).f4.f2)) ∧ w'.cell? ⟨(ad19.add ((x5_2).toNat * 12)).block, (ad19.add ((x5_2).toNat * 12)).off + 11, none⟩ = some (.int .i64 ((rd_T31 l0 x5_2).f5))) (ds := []) #[false, false, false, false, false, false, false, false, false, false, false, false, false, false, false, false, false, false, false, false] (by kernel_rfl) rfl rfl ⟨(blk_cell BK20.out 0).trans rfl, (blk_cell BK20.out 1).trans rfl, (blk_cell BK20.out 2).trans rfl, ((HB.out.cell (World.block_lt_of_cell? w _ hw27_0)).trans hw27_0), ((HB.out.cell (World.block_lt_of_cell? w _ hw27_1)).trans hw27_1), ((HB.out.cell (World.block_lt_of_cell? w _ hw27_2)).trans hw27_2), ((HB.out.cell (World.block_lt_of_cell? w _ hw27_3)).trans hw27_3), ((HB.out.cell (World.block_lt_of_cell? w _ hw27_4)).trans hw27_4), ((HB.out.cell (World.block_lt_of_cell? w _ hw27_5)).trans hw27_5), ((HB.out.cell (World.block_lt_of_cell? w _ hw27_6)).trans hw27_6), ((HB.out.cell (World.block_lt_of_cell? w _ hw27_7)).trans hw27_7), ((HB.out.cell (World.block_lt_of_cell? w _ hw27_8)).trans hw27_8), ((HB.out.cell (World.block_lt_of_cell? w _ hw27_9)).trans hw27_9), ((HB.out.cell (World.block_lt_of_cell? w _ hw27_10)).trans hw27_10), ((HB.out.cell (World.block_lt_of_cell? w _ hw27_11)).trans hw27_11)⟩ (fun hHeld => ?_); refine with_tabW r10_Right.tab18 r10_Right.bits18 (fun HT_ HW_ => ?_)
               generalize wr.drew = w252 at BK20 HB hx27_0 hx27_1 hx27_10 hx27_11 hx27_2 hx27_3 hx27_4 hx27_5 hx27_6 hx27_7 hx27_8 hx27_9 hHeld ⊢
               refine pure_ (i := 1) (N := some 124) (v := ?_) (a' := ?_) #[false, true, false, false, false, false, false, false, false, false, false, false, false, false, false, false, false, false, false, false] rfl rfl (any_of HT_.out (by kernel_rfl)) (fun _ _ _ h => h) (Or.inl ⟨by rfl, ?_⟩) ?_ ?_
               rotate_left
               ·intro w'
                go_simp
                with_reducible rfl
               rotate_left
               ·simp only [Act.put, List.setIfInBounds_toArray, List.set_cons_zero, List.set_cons_succ, i64_w, i32_w]
                rfl
               refine pure_ (i := 2) (N := some 125) (v := ?_) (a' := ?_) #[false, true, true, false, false, false, false, false, false, false, false, false, false, false, false, false, false, false, false, false] rfl rfl (any_of HT_.out (by kernel_rfl)) (fun _ _ _ h => h) (Or.inl ⟨by rfl, ?_⟩) ?_ ?_
               rotate_left
               ·intro w'
                go_simp
                with_reducible rfl
               rotate_left
               ·simp only [Act.put, List.setIfInBounds_toArray, List.set_cons_zero, List.set_cons_succ, i64_w, i32_w]
                rfl
               refine pure_ (i := 3) (N := some 126) (v := ?_) (a' := ?_) #[false, true, true, true, false, false, false, false, false, false, false, false, false, false, false, false, false, false, false, false] rfl rfl (any_of HT_.out (by kernel_rfl)) (fun _ _ _ h => h) (Or.inl ⟨by rfl, ?_⟩) ?_ ?_
               rotate_left
               ·intro w'
                go_simp
                with_reducible rfl
               rotate_left
               ·simp only [Act.put, List.setIfInBounds_toArray, List.set_cons_zero, List.set_cons_succ, i64_w, i32_w]
                rfl
               refine pure_ (i := 4) (N := some 127) (v := ?_) (a' := ?_) #[false, true, true, true, true, false, false, false, false, false, false, false, false, false, false, false, false, false, false, false] rfl rfl (any_of HT_.out (by kernel_rfl)) (fun _ _ _ h => h) (Or.inl ⟨by rfl, ?_⟩) ?_ ?_
               rotate_left
               ·intro w'
                go_simp
                with_reducible rfl
               rotate_left
               ·simp only [Act.put, List.setIfInBounds_toArray, List.set_cons_zero, List.set_cons_succ, i64_w, i32_w]
                rfl
               refine take_ (i := 0) (N := some 123) (v := ?_) (a' := ?_) #[true, true, true, true, true, false, false, false, false, false, false, false, false, false, false, false, false, false, false, false] rfl rfl (take_ofW HT_.out HW_.out (by kernel_rfl)) (fun _ _ _ h => h) (Or.inl ⟨by rfl, ?_⟩) hHeld ?_ ?_
               rotate_left
               ·rintro w' ⟨s0, s1, s2, s3, s4, s5, s6, s7, s8, s9, s10, s11, s12, s13, s14⟩
                go_simp
                with_reducible rfl
               rotate_left
               ·simp only [Act.put, List.setIfInBounds_toArray, List.set_cons_zero, List.set_cons_succ, i64_w, i32_w]
                rfl
               refine take_ (i := 5) (N := some 128) (v := ?_) (a' := ?_) #[true, true, true, true, true, true, false, false, false, false, false, false, false, false, false, false, false, false, false, false] rfl rfl (take_ofW HT_.out HW_.out (by kernel_rfl)) (fun _ _ _ h => h) (Or.inl ⟨by rfl, ?_⟩) hHeld ?_ ?_
               rotate_left
               ·rintro w' ⟨s0, s1, s2, s3, s4, s5, s6, s7, s8, s9, s10, s11, s12, s13, s14⟩
                go_simp
                with_reducible rfl
               rotate_left
               ·simp only [Act.put, List.setIfInBounds_toArray, List.set_cons_zero, List.set_cons_succ, i64_w, i32_w]
                rfl
               refine pure_ (i := 6) (N := some 129) (v := ?_) (a' := ?_) #[true, true, true, true, true, true, true, false, false, false, false, false, false, false, false, false, false, false, false, false] rfl rfl (any_of HT_.out (by kernel_rfl)) (fun _ _ _ h => h) (Or.inl ⟨by rfl, ?_⟩) ?_ ?_
               rotate_left
               ·intro w'
                go_simp
                with_reducible rfl
               rotate_left
               ·simp only [Act.put, List.setIfInBounds_toArray, List.set_cons_zero, List.set_cons_succ, i64_w, i32_w]
                rfl
               refine pure_ (i := 7) (N := some 130) (v := ?_) (a' := ?_) #[true, true, true, true, true, true, true, true, false, false, false, false, false, false, false, false, false, false, false, false] rfl rfl (any_of HT_.out (by kernel_rfl)) (fun _ _ _ h => h) (Or.inl ⟨by rfl, ?_⟩) ?_ ?_
               rotate_left
               ·intro w'
                go_simp
                with_reducible rfl
               rotate_left
               ·simp only [Act.put, List.setIfInBounds_toArray, List.set_cons_zero, List.set_cons_succ, i64_w, i32_w]
                rfl
               refine pure_ (i := 8) (N := some 131) (v := undef) (a' := ?_) #[true, true, true, true, true, true, true, true, true, false, false, false, false, false, false, false, false, false, false, false] rfl rfl (any_of HT_.out (by kernel_rfl)) (fun _ _ _ h => h) (Or.inr ⟨by rfl, rfl⟩) ?_ ?_
               rotate_left
               ·simp only [Act.put, List.setIfInBounds_toArray, List.set_cons_zero, List.set_cons_succ, i64_w, i32_w]
                rfl
               refine pure_ (i := 9) (N := some 132) (v := undef) (a' := ?_) #[true, true, true, true, true, true, true, true, true, true, false, false, false, false, false, false, false, false, false, false] rfl rfl (any_of HT_.out (by kernel_rfl)) (fun _ _ _ h => h) (Or.inr ⟨by rfl, rfl⟩) ?_ ?_
               rotate_left
               ·simp only [Act.put, List.setIfInBounds_toArray, List.set_cons_zero, List.set_cons_succ, i64_w, i32_w]
                rfl
               refine pure_ (i := 10) (N := some 133) (v := undef) (a' := ?_) #[true, true, true, true, true, true, true, true, true, true, true, false, false, false, false, false, false, false, false, false] rfl rfl (any_of HT_.out (by kernel_rfl)) (fun _ _ _ h => h) (Or.inr ⟨by rfl, rfl⟩) ?_ ?_
               rotate_left
               ·simp only [Act.put, List.setIfInBounds_toArray, List.set_cons_zero, List.set_cons_succ, i64_w, i32_w]
                rfl
               refine pure_ (i := 11) (N := some 134) (v := undef) (a' := ?_) #[true, true, true, true, true, true, true, true, true, true, true, true, false, false, false, false, false, false, false, false] rfl rfl (any_of HT_.out (by kernel_rfl)) (fun _ _ _ h => h) (Or.inr ⟨by rfl, rfl⟩) ?_ ?_
               rotate_left
               ·simp only [Act.put, List.setIfInBounds_toArray, List.set_cons_zero, List.set_cons_succ, i64_w, i32_w]
                rfl
               refine pure_ (i := 12) (N := some 135) (v := undef) (a' := ?_) #[true, true, true, true, true, true, true, true, true, true, true, true, true, false, false, false, false, false, false, false] rfl rfl (any_of HT_.out (by kernel_rfl)) (fun _ _ _ h => h) (Or.inr ⟨by rfl, rfl⟩) ?_ ?_
               rotate_left
               ·simp only [Act.put, List.setIfInBounds_toArray, List.set_cons_zero, List.set_cons_succ, i64_w, i32_w]
                rfl
               refine pure_ (i := 13) (N := some 136) (v := undef) (a' := ?_) #[true, true, true, true, true, true, true, true, true, true, true, true, true, true, false, false, false, false, false, false] rfl rfl (any_of HT_.out (by kernel_rfl)) (fun _ _ _ h => h) (Or.inr ⟨by rfl, rfl⟩) ?_ ?_
               rotate_left
               ·simp only [Act.put, List.setIfInBounds_toArray, List.set_cons_zero, List.set_cons_succ, i64_w, i32_w]
                rfl
               refine pure_ (i := 14) (N := some 137) (v := undef) (a' := ?_) #[true, true, true, true, true, true, true, true, true, true, true, true, true, true, true, false, false, false, false, false] rfl rfl (any_of HT_.out (by kernel_rfl)) (fun _ _ _ h => h) (Or.inr ⟨by rfl, rfl⟩) ?_ ?_
               rotate_left
               ·simp only [Act.put, List.setIfInBounds_toArray, List.set_cons_zero, List.set_cons_succ, i64_w, i32_w]
                rfl
               refine pure_ (i := 15) (N := some 138) (v := undef) (a' := ?_) #[true, true, true, true, true, true, true, true, true, true, true, true, true, true, true, true, false, false, false, false] rfl rfl (any_of HT_.out (by kernel_rfl)) (fun _ _ _ h => h) (Or.inr ⟨by rfl, rfl⟩) ?_ ?_
               rotate_left
               ·simp only [Act.put, List.setIfInBounds_toArray, List.set_cons_zero, List.set_cons_succ, i64_w, i32_w]
                rfl
               refine pure_ (i := 16) (N := some 139) (v := undef) (a' := ?_) #[true, true, true, true, true, true, true, true, true, true, true, true, true, true, true, true, true, false, false, false] rfl rfl (any_of HT_.out (by kernel_rfl)) (fun _ _ _ h => h) (Or.inr ⟨by rfl, rfl⟩) ?_ ?_
               rotate_left
               ·simp only [Act.put, List.setIfInBounds_toArray, List.set_cons_zero, List.set_cons_succ, i64_w, i32_w]
                rfl
               refine pure_ (i := 17) (N := some 140) (v := undef) (a' := ?_) #[true, true, true, true, true, true, true, true, true, true, true, true, true, true, true, true, true, true, false, false] rfl rfl (any_of HT_.out (by kernel_rfl)) (fun _ _ _ h => h) (Or.inr ⟨by rfl, rfl⟩) ?_ ?_
               rotate_left
               ·simp only [Act.put, List.setIfInBounds_toArray, List.set_cons_zero, List.set_cons_succ, i64_w, i32_w]
                rfl
               refine pure_ (i := 18) (N := some 141) (v := undef) (a' := ?_) #[true, true, true, true, true, true, true, true, true, true, true, true, true, true, true, true, true, true, true, false] rfl rfl (any_of HT_.out (by kernel_rfl)) (fun _ _ _ h => h) (Or.inr ⟨by rfl, rfl⟩) ?_ ?_
               rotate_left
               ·simp only [Act.put, List.setIfInBounds_toArray, List.set_cons_zero, List.set_cons_succ, i64_w, i32_w]
                rfl
               refine pure_ (i := 19) (N := some 142) (v := ?_) (a' := ?_) #[true, true, true, true, true, true, true, true, true, true, true, true, true, true, true, true, true, true, true, true] rfl rfl (any_of HT_.out (by kernel_rfl)) (fun _ _ _ h => h) (Or.inl ⟨by rfl, ?_⟩) ?_ ?_
               rotate_left
               ·intro w'
                go_simp
                with_reducible rfl
               rotate_left
               ·simp only [Act.put, List.setIfInBounds_toArray, List.set_cons_zero, List.set_cons_succ, i64_w, i32_w]
                rfl
               refine done_ (done_of HT_.out (by kernel_rfl)) ?_
               try go_wp2
               go_ret
               exact ⟨by first|rfl|(simp [errW_none, errW_some] <;> rfl)|(simp [*, errW_none, errW_some] <;> rfl), by repeat (first|(with_reducible first|exact HB.out|apply below_alloc|apply pw_below_drewN|apply below_drew1|refine below_set ?_ GE20.out)|exact HB.out)⟩
              ·rw [if_neg c251] at H
               have c251b0 : (!(x21000_3 == ((rd_T31 l0 x5_2).f4.f0)) || (!(x21001_3 == ((rd_T31 l0 x5_2).f4.f1)) || (!(x21002_3 == ((rd_T31 l0 x5_2).f4.f2))))) = false := by simpa using c251
               clear c251
               replace H := Option.bind_eq_some_iff.mp H
               obtain ⟨t29, A2530, H⟩ := H
               replace H : (if (t29.length : Int) > (l0.length : Int) then (some false) else (r10_Right.l1 k3 l0 (wrap64 (x5_2 + 1)))) = some r := H
               have A253 := Aside0.mk A2530
               clear A2530
               by_cases c254 : (t29.length : Int) > (l0.length : Int)
               ·rw [if_pos c254] at H
                have c254b0 : decide ((l0.length : Int) < (t29.length : Int)) = true := decide_eq_true c254
                have c254b1 : decide (l0.length < t29.length) = true := decide_eq_true (Int.ofNat_lt.mp c254)
                clear c254
                obtain rfl := Option.some.inj H
                try go_wp2
                have n0_ := Aside0.mk (blk_drew BK20.out)
                have n1_ := Aside0.mk (below_drew1 HB.out)
                clear BK20
                clear HB
                have BK20 := n0_
                have HB := n1_
                clear n0_ n1_
                have p27 : 0 ≤ (x5_2 : Int) := of_decide_eq_true (by first|(with_reducible assumption)|assumption)
                have q27 : x5_2 < (l0.length : Int) := of_decide_eq_true (by first|(with_reducible assumption)|assumption)
                obtain ⟨ad27, e27, hx27_0, hx27_1, hx27_2, hx27_3, hx27_4, hx27_5, hx27_6, hx27_7, hx27_8, hx27_9, hx27_10, hx27_11⟩ := at_T31 HR0.out x5_2 p27 q27
                have hw27_11 := hx27_11
                have hw27_10 := hx27_10
                have hw27_9 := hx27_9
                have hw27_8 := hx27_8
                have hw27_7 := hx27_7
                have hw27_6 := hx27_6
                have hw27_5 := hx27_5
                have hw27_4 := hx27_4
                have hw27_3 := hx27_3
                have hw27_2 := hx27_2
                have hw27_1 := hx27_1
                have hw27_0 := hx27_0
                obtain rfl : ad19 = ad27 := (by injection e27)
                replace hx27_0 := (HB.out.cell (World.block_lt_of_cell? w _ hx27_0)).trans hx27_0
                replace hx27_1 := (HB.out.cell (World.block_lt_of_cell? w _ hx27_1)).trans hx27_1
                replace hx27_2 := (HB.out.cell (World.block_lt_of_cell? w _ hx27_2)).trans hx27_2
                replace hx27_3 := (HB.out.cell (World.block_lt_of_cell? w _ hx27_3)).trans hx27_3
                replace hx27_4 := (HB.out.cell (World.block_lt_of_cell? w _ hx27_4)).trans hx27_4
                replace hx27_5 := (HB.out.cell (World.block_lt_of_cell? w _ hx27_5)).trans hx27_5
                replace hx27_6 := (HB.out.cell (World.block_lt_of_cell? w _ hx27_6)).trans hx27_6
                replace hx27_7 := (HB.out.cell (World.block_lt_of_cell? w _ hx27_7)).trans hx27_7
                replace hx27_8 := (HB.out.cell (World.block_lt_of_cell? w _ hx27_8)).trans hx27_8
                replace hx27_9 := (HB.out.cell (World.block_lt_of_cell? w _ hx27_9)).trans hx27_9
                replace hx27_10 := (HB.out.cell (World.block_lt_of_cell? w _ hx27_10)).trans hx27_10
                replace hx27_11 := (HB.out.cell (World.block_lt_of_cell? w _ hx27_11)).trans hx27_11
                replace p27 := eq_true p27
                replace q27 := eq_true q27
                have p28 : 0 ≤ (x5_2 : Int) := of_decide_eq_true (by first|(with_reducible assumption)|assumption)
                have q28 : x5_2 < (l0.length : Int) := of_decide_eq_true (by first|(with_reducible assumption)|assumption)
                obtain ⟨ad28, e28, hx28_0, hx28_1, hx28_2, hx28_3, hx28_4, hx28_5, hx28_6, hx28_7, hx28_8, hx28_9, hx28_10, hx28_11⟩ := at_T31 HR0.out x5_2 p28 q28
                have hw28_11 := hx28_11
                have hw28_10 := hx28_10
                have hw28_9 := hx28_9
                have hw28_8 := hx28_8
                have hw28_7 := hx28_7
                have hw28_6 := hx28_6
                have hw28_5 := hx28_5
                have hw28_4 := hx28_4
                have hw28_3 := hx28_3
                have hw28_2 := hx28_2
                have hw28_1 := hx28_1
                have hw28_0 := hx28_0
                obtain rfl : ad19 = ad28 := (by injection e28)
                replace hx28_0 := (HB.out.cell (World.block_lt_of_cell? w _ hx28_0)).trans hx28_0
                replace hx28_1 := (HB.out.cell (World.block_lt_of_cell? w _ hx28_1)).trans hx28_1
                replace hx28_2 := (HB.out.cell (World.block_lt_of_cell? w _ hx28_2)).trans hx28_2
                replace hx28_3 := (HB.out.cell (World.block_lt_of_cell? w _ hx28_3)).trans hx28_3
                replace hx28_4 := (HB.out.cell (World.block_lt_of_cell? w _ hx28_4)).trans hx28_4
                replace hx28_5 := (HB.out.cell (World.block_lt_of_cell? w _ hx28_5)).trans hx28_5
                replace hx28_6 := (HB.out.cell (World.block_lt_of_cell? w _ hx28_6)).trans hx28_6
                replace hx28_7 := (HB.out.cell (World.block_lt_of_cell? w _ hx28_7)).trans hx28_7
                replace hx28_8 := (HB.out.cell (World.block_lt_of_cell? w _ hx28_8)).trans hx28_8
                replace hx28_9 := (HB.out.cell (World.block_lt_of_cell? w _ hx28_9)).trans hx28_9
                replace hx28_10 := (HB.out.cell (World.block_lt_of_cell? w _ hx28_10)).trans hx28_10
                replace hx28_11 := (HB.out.cell (World.block_lt_of_cell? w _ hx28_11)).trans hx28_11
                replace p28 := eq_true p28
                replace q28 := eq_true q28
                refine start_ (n := 20) (S := fun w' => w'.cell? ⟨gb20, 0, none⟩ = some (.int .i64 x21000_3) ∧ w'.cell? ⟨gb20, 1, none⟩ = some (.int .i64 x21001_3) ∧ w'.cell? ⟨gb20, 2, none⟩ = some (.int .i64 x21002_3) ∧ w'.cell? (ad19.add ((x5_2).toNat * 12)) = some (.string ((rd_T31 l0 x5_2).f0)) ∧ w'.cell? ⟨(ad19.add ((x5_2).toNat * 12)).block, (ad19.add ((x5_2).toNat * 12)).off + 1, none⟩ = some (.string ((rd_T31 l0 x5_2).f1)) ∧ w'.cell? ⟨(ad19.add ((x5_2).toNat * 12)).block, (ad19.add ((x5_2).toNat * 12)).off + 2, none⟩ = some (.int .i64 ((rd_T31 l0 x5_2).f2.f0)) ∧ w'.cell? ⟨(ad19.add ((x5_2).toNat * 12)).block, (ad19.add ((x5_2).toNat * 12)).off + 3, none⟩ = some (.int .i64 ((rd_T31 l0 x5_2).f2.f1)) ∧ w'.cell? ⟨(ad19.add ((x5_2).toNat * 12)).block, (ad19.add ((x5_2).toNat * 12)).off + 4, none⟩ = some (.int .i64 ((rd_T31 l0 x5_2).f2.f2)) ∧ w'.cell? ⟨(ad19.add ((x5_2).toNat * 12)).block, (ad19.add ((x5_2).toNat * 12)).off + 5, none⟩ = some (.int .i64 ((rd_T31 l0 x5_2).f3.f0)) ∧ w'.cell? ⟨(ad19.add ((x5_2).toNat * 12)).block, (ad19.add ((x5_2).toNat * 12)).off + 6, none⟩ = some (.int .i64 ((rd_T31 l0 x5_2).f3.f1)) ∧ w'.cell? ⟨(ad19.add ((x5_2).toNat * 12)).block, (ad19.add ((x5_2).toNat * 12)).off + 7, none⟩ = some (.int .i64 ((rd_T31 l0 x5_2).f3.f2)) ∧ w'.cell? ⟨(ad19.add ((x5_2).toNat * 12)).block, (ad19.add ((x5_2).toNat * 12)).off + 8, none⟩ = some (.int .i64 ((rd_T31 l0 x5_2).f4.f0)) ∧ w'.cell? ⟨(ad19.add ((x5_2).toNat * 12)).block, (ad19.add ((x5_2).toNat * 12)).off + 9, none⟩ = some (.int .i64 ((rd_T31 l0 x5_2).f4.f1)) ∧ w'.cell? ⟨(ad19.add ((x5_2).toNat * 12)).block, (ad19.add ((x5_2).toNat * 12)).off + 10, none⟩ = some (.int .i64 ((rd_T31 l0 x5_2).f4.f2)) ∧ w'.cell? ⟨(ad19.add ((x5_2).toNat * 12)).block, (ad19.add ((x5_2).toNat * 12)).off + 11, none⟩ = some (.int .i64 ((rd_T31 l0 x5_2).f5)) ∧ w'.cell? (ad19.add ((x5_2).toNat * 12)) = some (.string ((rd_T31 l0 x5_2).f0)) ∧ w'.cell? ⟨(ad19.add ((x5_2).toNat * 12)).block, (ad19.add ((x5_2).toNat * 12)).off + 1, none⟩ = some (.string ((rd_T31 l0 x5_2).f1)) ∧ w'.cell? ⟨(ad19.add ((x5_2).toNat * 12)).block, (ad19.add ((x5_2).toNat * 12)).off + 2, none⟩ = some (.int .i64 ((rd_T31 l0 x5_2).f2.f0)) ∧ w'.cell? ⟨(ad19.add ((x5_2).toNat * 12)).block, (ad19.add ((x5_2).toNat * 12)).off + 3, none⟩ = some (.int .i64 ((rd_T31 l0 x5_2).f2.f1)) ∧ w'.cell? ⟨(ad19.add ((x5_2).toNat * 12)).block, (ad19.add ((x5_2).toNat * 12)).off + 4, none⟩ = some (.int .i64 ((rd_T31 l0 x5_2).f2.f2)) ∧ w'.cell? ⟨(ad19.add ((x5_2).toNat * 12)).block, (ad19.add ((x5_2).toNat * 12)).off + 5, none⟩ = some (.int .i64 ((rd_T31 l0 x5_2).f3.f0)) ∧ w'.cell? ⟨(ad19.add ((x5_2).toNat * 12)).block, (ad19.add ((x5_2).toNat * 12)).off + 6, none⟩ = some (.int .i64 ((rd_T31 l0 x5_2).f3.f1)) ∧ w'.cell? ⟨(ad19.add ((x5_2).toNat * 12)).block, (ad19.add ((x5_2).toNat * 12)).off + 7, none⟩ = some (.int .i64 ((rd_T31 l0 x5_2).f3.f2)) ∧ w'.cell? ⟨(ad19.add ((x5_2).toNat * 12)).block, (ad19.add ((x5_2).toNat * 12)).off + 8, none⟩ = some (.int .i64 ((rd_T31 l0 x5_2).f4.f0)) ∧ w'.cell? ⟨(ad19.add ((x5_2).toNat * 12)).block, (ad19.add ((x5_2).toNat * 12)).off + 9, none⟩ = some (.int .i64 ((rd_T31 l0 x5_2).f4.f1)) ∧ w'.cell? ⟨(ad19.add ((x5_2).toNat * 12)).block, (ad19.add ((x5_2).toNat * 12)).off + 10, none⟩ = some (.int .i64 ((rd_T31 l0 x5_2).f4.f2)) ∧ w'.cell? ⟨(ad19.add ((x5_2).toNat * 12)).block, (ad19.add ((x5_2).toNat * 12)).off + 11, none⟩ = some (.int .i64 ((rd_T31 l0 x5_2).f5))) (ds := []) #[false, false, false, false, false, false, false, false, false, false, false, false, false, false, false, false, false, false, false, false] (by kernel_rfl) rfl rfl ⟨(blk_cell BK20.out 0).trans rfl, (blk_cell BK20.out 1).trans rfl, (blk_cell BK20.out 2).trans rfl, ((HB.out.cell (World.block_lt_of_cell? w _ hw27_0)).trans hw27_0), ((HB.out.cell (World.block_lt_of_cell? w _ hw27_1)).trans hw27_1), ((HB.out.cell (World.block_lt_of_cell? w _ hw27_2)).trans hw27_2), ((HB.out.cell (World.block_lt_of_cell? w _ hw27_3)).trans hw27_3), ((HB.out.cell (World.block_lt_of_cell? w _ hw27_4)).trans hw27_4), ((HB.out.cell (World.block_lt_of_cell? w _ hw27_5)).trans hw27_5), ((HB.out.cell (World.block_lt_of_cell? w _ hw27_6)).trans hw27_6), ((HB.out.cell (World.block_lt_of_cell? w _ hw27_7)).trans hw27_7), ((HB.out.cell (World.block_lt_of_cell? w _ hw27_8)).trans hw27_8), ((HB.out.cell (World.block_lt_of_cell? w _ hw27_9)).trans hw27_9), ((HB.out.cell (World.block_lt_of_cell? w _ hw27_10)).trans hw27_10), ((HB.out.cell (World.block_lt_of_cell? w _ hw27_11)).trans hw27_11), ((HB.out.cell (World.block_lt_of_cell? w _ hw28_0)).trans hw28_0), ((HB.out.cell (World.block_lt_of_cell? w _ hw28_1)).trans hw28_1), ((HB.out.cell (World.block_lt_of_cell? w _ hw28_2)).trans hw28_2), ((HB.out.cell (World.block_lt_of_cell? w _ hw28_3)).trans hw28_3), ((HB.out.cell (World.block_lt_of_cell? w _ hw28_4)).trans hw28_4), ((HB.out.cell (World.block_lt_of_cell? w _ hw28_5)).trans hw28_5), ((HB.out.cell (World.block_lt_of_cell? w _ hw28_6)).trans hw28_6), ((HB.out.cell (World.block_lt_of_cell? w _ hw28_7)).trans hw28_7), ((HB.out.cell (World.block_lt_of_cell? w _ hw28_8)).trans hw28_8), ((HB.out.cell (World.block_lt_of_cell? w _ hw28_9)).trans hw28_9), ((HB.out.cell (World.block_lt_of_cell? w _ hw28_10)).trans hw28_10), ((HB.out.cell (World.block_lt_of_cell? w _ hw28_11)).trans hw28_11)⟩ (fun hHeld => ?_); refine with_tabW r10_Right.tab18 r10_Right.bits18 (fun HT_ HW_ => ?_)
                generalize wr.drew = w255 at BK20 HB hx27_0 hx27_1 hx27_10 hx27_11 hx27_2 hx27_3 hx27_4 hx27_5 hx27_6 hx27_7 hx27_8 hx27_9 hx28_0 hx28_1 hx28_10 hx28_11 hx28_2 hx28_3 hx28_4 hx28_5 hx28_6 hx28_7 hx28_8 hx28_9 hHeld ⊢
                refine pure_ (i := 1) (N := some 124) (v := ?_) (a' := ?_) #[false, true, false, false, false, false, false, false, false, false, false, false, false, false, false, false, false, false, false, false] rfl rfl (any_of HT_.out (by kernel_rfl)) (fun _ _ _ h => h) (Or.inl ⟨by rfl, ?_⟩) ?_ ?_
                rotate_left
                ·intro w'
                 go_simp
                 with_reducible rfl
                rotate_left
                ·simp only [Act.put, List.setIfInBounds_toArray, List.set_cons_zero, List.set_cons_succ, i64_w, i32_w]
                 rfl
                refine pure_ (i := 2) (N := some 125) (v := ?_) (a' := ?_) #[false, true, true, false, false, false, false, false, false, false, false, false, false, false, false, false, false, false, false, false] rfl rfl (any_of HT_.out (by kernel_rfl)) (fun _ _ _ h => h) (Or.inl ⟨by rfl, ?_⟩) ?_ ?_
                rotate_left
                ·intro w'
                 go_simp
                 with_reducible rfl
                rotate_left
                ·simp only [Act.put, List.setIfInBounds_toArray, List.set_cons_zero, List.set_cons_succ, i64_w, i32_w]
                 rfl
                refine pure_ (i := 3) (N := some 126) (v := ?_) (a' := ?_) #[false, true, true, true, false, false, false, false, false, false, false, false, false, false, false, false, false, false, false, false] rfl rfl (any_of HT_.out (by kernel_rfl)) (fun _ _ _ h => h) (Or.inl ⟨by rfl, ?_⟩) ?_ ?_
                rotate_left
                ·intro w'
                 go_simp
                 with_reducible rfl
                rotate_left
                ·simp only [Act.put, List.setIfInBounds_toArray, List.set_cons_zero, List.set_cons_succ, i64_w, i32_w]
                 rfl
                refine pure_ (i := 4) (N := some 127) (v := ?_) (a' := ?_) #[false, true, true, true, true, false, false, false, false, false, false, false, false, false, false, false, false, false, false, false] rfl rfl (any_of HT_.out (by kernel_rfl)) (fun _ _ _ h => h) (Or.inl ⟨by rfl, ?_⟩) ?_ ?_
                rotate_left
                ·intro w'
                 go_simp
                 with_reducible rfl
                rotate_left
                ·simp only [Act.put, List.setIfInBounds_toArray, List.set_cons_zero, List.set_cons_succ, i64_w, i32_w]
                 rfl
                refine take_ (i := 0) (N := some 123) (v := ?_) (a' := ?_) #[true, true, true, true, true, false, false, false, false, false, false, false, false, false, false, false, false, false, false, false] rfl rfl (take_ofW HT_.out HW_.out (by kernel_rfl)) (fun _ _ _ h => h) (Or.inl ⟨by rfl, ?_⟩) hHeld ?_ ?_
                rotate_left
                ·rintro w' ⟨s0, s1, s2, s3, s4, s5, s6, s7, s8, s9, s10, s11, s12, s13, s14, s15, s16, s17, s18, s19, s20, s21, s22, s23, s24, s25, s26⟩
                 go_simp
                 with_reducible rfl
                rotate_left
                ·simp only [Act.put, List.setIfInBounds_toArray, List.set_cons_zero, List.set_cons_succ, i64_w, i32_w]
                 rfl
                refine take_ (i := 5) (N := some 128) (v := ?_) (a' := ?_) #[true, true, true, true, true, true, false, false, false, false, false, false, false, false, false, false, false, false, false, false] rfl rfl (take_ofW HT_.out HW_.out (by kernel_rfl)) (fun _ _ _ h => h) (Or.inl ⟨by rfl, ?_⟩) hHeld ?_ ?_
                rotate_left
                ·rintro w' ⟨s0, s1, s2, s3, s4, s5, s6, s7, s8, s9, s10, s11, s12, s13, s14, s15, s16, s17, s18, s19, s20, s21, s22, s23, s24, s25, s26⟩
                 go_simp
                 with_reducible rfl
                rotate_left
                ·simp only [Act.put, List.setIfInBounds_toArray, List.set_cons_zero, List.set_cons_succ, i64_w, i32_w]
                 rfl
                refine pure_ (i := 6) (N := some 129) (v := ?_) (a' := ?_) #[true, true, true, true, true, true, true, false, false, false, false, false, false, false, false, false, false, false, false, false] rfl rfl (any_of HT_.out (by kernel_rfl)) (fun _ _ _ h => h) (Or.inl ⟨by rfl, ?_⟩) ?_ ?_
                rotate_left
                ·intro w'
                 go_simp
                 with_reducible rfl
                rotate_left
                ·simp only [Act.put, List.setIfInBounds_toArray, List.set_cons_zero, List.set_cons_succ, i64_w, i32_w]
                 rfl
                refine pure_ (i := 7) (N := some 130) (v := ?_) (a' := ?_) #[true, true, true, true, true, true, true, true, false, false, false, false, false, false, false, false, false, false, false, false] rfl rfl (any_of HT_.out (by kernel_rfl)) (fun _ _ _ h => h) (Or.inl ⟨by rfl, ?_⟩) ?_ ?_
                rotate_left
                ·intro w'
                 go_simp
                 with_reducible rfl
                rotate_left
                ·simp only [Act.put, List.setIfInBounds_toArray, List.set_cons_zero, List.set_cons_succ, i64_w, i32_w]
                 rfl
                refine pure_ (i := 8) (N := some 131) (v := ?_) (a' := ?_) #[true, true, true, true, true, true, true, true, true, false, false, false, false, false, false, false, false, false, false, false] rfl rfl (any_of HT_.out (by kernel_rfl)) (fun _ _ _ h => h) (Or.inl ⟨by rfl, ?_⟩) ?_ ?_
                rotate_left
                ·intro w'
                 go_simp
                 with_reducible rfl
                rotate_left
                ·simp only [Act.put, List.setIfInBounds_toArray, List.set_cons_zero, List.set_cons_succ, i64_w, i32_w]
                 rfl
                refine pure_ (i := 9) (N := some 132) (v := ?_) (a' := ?_) #[true, true, true, true, true, true, true, true, true, true, false, false, false, false, false, false, false, false, false, false] rfl rfl (any_of HT_.out (by kernel_rfl)) (fun _ _ _ h => h) (Or.inl ⟨by rfl, ?_⟩) ?_ ?_
                rotate_left
                ·intro w'
                 go_simp
                 with_reducible rfl
                rotate_left
                ·simp only [Act.put, List.setIfInBounds_toArray, List.set_cons_zero, List.set_cons_succ, i64_w, i32_w]
                 rfl
                refine pure_ (i := 10) (N := some 133) (v := ?_) (a' := ?_) #[true, true, true, true, true, true, true, true, true, true, true, false, false, false, false, false, false, false, false, false] rfl rfl (any_of HT_.out (by kernel_rfl)) (fun _ _ _ h => h) (Or.inl ⟨by rfl, ?_⟩) ?_ ?_
                rotate_left
                ·intro w'
                 go_simp
                 with_reducible rfl
                rotate_left
                ·simp only [Act.put, List.setIfInBounds_toArray, List.set_cons_zero, List.set_cons_succ, i64_w, i32_w]
                 rfl
                refine pure_ (i := 11) (N := some 134) (v := ?_) (a' := ?_) #[true, true, true, true, true, true, true, true, true, true, true, true, false, false, false, false, false, false, false, false] rfl rfl (any_of HT_.out (by kernel_rfl)) (fun _ _ _ h => h) (Or.inl ⟨by rfl, ?_⟩) ?_ ?_
                rotate_left
                ·intro w'
                 go_simp
                 with_reducible rfl
                rotate_left
                ·simp only [Act.put, List.setIfInBounds_toArray, List.set_cons_zero, List.set_cons_succ, i64_w, i32_w]
                 rfl
                refine pure_ (i := 12) (N := some 135) (v := ?_) (a' := ?_) #[true, true, true, true, true, true, true, true, true, true, true, true, true, false, false, false, false, false, false, false] rfl rfl (any_of HT_.out (by kernel_rfl)) (fun _ _ _ h => h) (Or.inl ⟨by rfl, ?_⟩) ?_ ?_
                rotate_left
                ·intro w'
                 go_simp
                 with_reducible rfl
                rotate_left
                ·simp only [Act.put, List.setIfInBounds_toArray, List.set_cons_zero, List.set_cons_succ, i64_w, i32_w]
                 rfl
                refine pure_ (i := 16) (N := some 139) (v := ?_) (a' := ?_) #[true, true, true, true, true, true, true, true, true, true, true, true, true, false, false, false, true, false, false, false] rfl rfl (any_of HT_.out (by kernel_rfl)) (fun _ _ _ h => h) (Or.inl ⟨by rfl, ?_⟩) ?_ ?_
                rotate_left
                ·intro w'
                 go_simp
                 with_reducible rfl
                rotate_left
                ·simp only [Act.put, List.setIfInBounds_toArray, List.set_cons_zero, List.set_cons_succ, i64_w, i32_w]
                 rfl
                refine pure_ (i := 17) (N := some 140) (v := ?_) (a' := ?_) #[true, true, true, true, true, true, true, true, true, true, true, true, true, false, false, false, true, true, false, false] rfl rfl (any_of HT_.out (by kernel_rfl)) (fun _ _ _ h => h) (Or.inl ⟨by rfl, ?_⟩) ?_ ?_
                rotate_left
                ·intro w'
                 go_simp
                 with_reducible rfl
                rotate_left
                ·simp only [Act.put, List.setIfInBounds_toArray, List.set_cons_zero, List.set_cons_succ, i64_w, i32_w]
                 rfl
                refine take_ (i := 13) (N := some 136) (v := ?_) (a' := ?_) #[true, true, true, true, true, true, true, true, true, true, true, true, true, true, false, false, true, true, false, false] rfl rfl (take_ofW HT_.out HW_.out (by kernel_rfl)) (fun _ _ _ h => h) (Or.inl ⟨by rfl, ?_⟩) hHeld ?_ ?_
                rotate_left
                ·rintro w' ⟨s0, s1, s2, s3, s4, s5, s6, s7, s8, s9, s10, s11, s12, s13, s14, s15, s16, s17, s18, s19, s20, s21, s22, s23, s24, s25, s26⟩
                 go_simp
                 with_reducible rfl
                rotate_left
                ·simp only [Act.put, List.setIfInBounds_toArray, List.set_cons_zero, List.set_cons_succ, i64_w, i32_w]
                 rfl
                refine one_ (i := 14) (N := some 137) #[true, true, true, true, true, true, true, true, true, true, true, true, true, true, true, false, true, true, false, false] rfl rfl (one_of HT_.out (by kernel_rfl)) (by decide) (fun K hK => ?_)
                refine goes_ Try.func106 (by kernel_rfl) rfl #[.slice (some ad19) l0.length c0, .string ((rd_T31 l0 x5_2).f0)] (by rfl) rfl rfl (by (try simp only [List.map_toArray, List.map_cons, List.map_nil]); first | done | rfl | (simp only [List.length_drop, List.length_take]; rfl)) ?_
                with_reducible refine (r10_Up.calls k3 _ _ l0 ((rd_T31 l0 x5_2).f0) t29 _ ?side1 ?side2 A253.out).mono ?_
                (case side1 => repeat (first|exact (Kd.C_below HR0.out HB.out)|(with_reducible refine Kd.C_alloc ?_ _)|(with_reducible refine Kd.C_drewN ?_ _)|(with_reducible refine Kd.C_drew ?_)))
                (case side2 => exact HC0.out)
                rintro e w256 ⟨v30, rfl, ho0, hb⟩
                refine ⟨_, rfl, ?_⟩
                have n0_ := Aside0.mk (Kd.R_lower ho0 (below_size (by repeat (first|(with_reducible first|exact HB.out|apply below_alloc|apply pw_below_drewN|apply below_drew1|refine below_set ?_ GE20.out)|exact HB.out))))
                have n1_ := Aside0.mk (blk_below (g := gb20) (o := .cells #[.int .i64 x21000_3, .int .i64 x21001_3, .int .i64 x21002_3] 27 (0, 0)) (by (with_reducible repeat (first|refine blk_drewN ?_ _|refine blk_drew ?_|refine blk_alloc ?_ _));exact BK20.out) hb)
                have n2_ := Aside0.mk (below_step (by repeat (first|(with_reducible first|exact HB.out|apply below_alloc|apply pw_below_drewN|apply below_drew1|refine below_set ?_ GE20.out)|exact HB.out)) hb)
                clear BK20
                clear HB
                have HO31 := n0_
                have BK20 := n1_
                have HB := n2_
                clear n0_ n1_ n2_
                (try clear hb)
                (try clear hb2)
                (try clear hk)
                (try clear hi)
                (try clear ho0)
                obtain ⟨Ao257, co257, eo257⟩ := Kd.R_slice HO31.out
                (first | subst eo257 | (injection eo257 with f1_ f2_ f3_; have f4_ := f1_.symm; have f5_ := f3_.symm; clear f1_ f2_ f3_; subst f4_; subst f5_))
                refine hK.out _ _ ⟨(blk_cell BK20.out 0).trans rfl, (blk_cell BK20.out 1).trans rfl, (blk_cell BK20.out 2).trans rfl, ((HB.out.cell (World.block_lt_of_cell? w _ hw27_0)).trans hw27_0), ((HB.out.cell (World.block_lt_of_cell? w _ hw27_1)).trans hw27_1), ((HB.out.cell (World.block_lt_of_cell? w _ hw27_2)).trans hw27_2), ((HB.out.cell (World.block_lt_of_cell? w _ hw27_3)).trans hw27_3), ((HB.out.cell (World.block_lt_of_cell? w _ hw27_4)).trans hw27_4), ((HB.out.cell (World.block_lt_of_cell? w _ hw27_5)).trans hw27_5), ((HB.out.cell (World.block_lt_of_cell? w _ hw27_6)).trans hw27_6), ((HB.out.cell (World.block_lt_of_cell? w _ hw27_7)).trans hw27_7), ((HB.out.cell (World.block_lt_of_cell? w _ hw27_8)).trans hw27_8), ((HB.out.cell (World.block_lt_of_cell? w _ hw27_9)).trans hw27_9), ((HB.out.cell (World.block_lt_of_cell? w _ hw27_10)).trans hw27_10), ((HB.out.cell (World.block_lt_of_cell? w _ hw27_11)).trans hw27_11), ((HB.out.cell (World.block_lt_of_cell? w _ hw28_0)).trans hw28_0), ((HB.out.cell (World.block_lt_of_cell? w _ hw28_1)).trans hw28_1), ((HB.out.cell (World.block_lt_of_cell? w _ hw28_2)).trans hw28_2), ((HB.out.cell (World.block_lt_of_cell? w _ hw28_3)).trans hw28_3), ((HB.out.cell (World.block_lt_of_cell? w _ hw28_4)).trans hw28_4), ((HB.out.cell (World.block_lt_of_cell? w _ hw28_5)).trans hw28_5), ((HB.out.cell (World.block_lt_of_cell? w _ hw28_6)).trans hw28_6), ((HB.out.cell (World.block_lt_of_cell? w _ hw28_7)).trans hw28_7), ((HB.out.cell (World.block_lt_of_cell? w _ hw28_8)).trans hw28_8), ((HB.out.cell (World.block_lt_of_cell? w _ hw28_9)).trans hw28_9), ((HB.out.cell (World.block_lt_of_cell? w _ hw28_10)).trans hw28_10), ((HB.out.cell (World.block_lt_of_cell? w _ hw28_11)).trans hw28_11)⟩ (fun hHeld => ?_)
                clear hK K
                refine norm_ (a' := ?_) ?_ ?_
                rotate_left
                ·show Act.put _ (some 137) _ = _
                 simp only [Act.put, List.setIfInBounds_toArray, List.set_cons_zero, List.set_cons_succ, i64_w, i32_w]
                 rfl
                refine pure_ (i := 15) (N := some 138) (v := ?_) (a' := ?_) #[true, true, true, true, true, true, true, true, true, true, true, true, true, true, true, true, true, true, false, false] rfl rfl (any_of HT_.out (by kernel_rfl)) (fun _ _ _ h => h) (Or.inl ⟨by rfl, ?_⟩) ?_ ?_
                rotate_left
                ·intro w'
                 go_simp
                 with_reducible rfl
                rotate_left
                ·simp only [Act.put, List.setIfInBounds_toArray, List.set_cons_zero, List.set_cons_succ, i64_w, i32_w]
                 rfl
                refine pure_ (i := 18) (N := some 141) (v := ?_) (a' := ?_) #[true, true, true, true, true, true, true, true, true, true, true, true, true, true, true, true, true, true, true, false] rfl rfl (any_of HT_.out (by kernel_rfl)) (fun _ _ _ h => h) (Or.inl ⟨by rfl, ?_⟩) ?_ ?_
                rotate_left
                ·intro w'
                 go_simp
                 with_reducible rfl
                rotate_left
                ·simp only [Act.put, List.setIfInBounds_toArray, List.set_cons_zero, List.set_cons_succ, i64_w, i32_w]
                 rfl
                refine pure_ (i := 19) (N := some 142) (v := ?_) (a' := ?_) #[true, true, true, true, true, true, true, true, true, true, true, true, true, true, true, true, true, true, true, true] rfl rfl (any_of HT_.out (by kernel_rfl)) (fun _ _ _ h => h) (Or.inl ⟨by rfl, ?_⟩) ?_ ?_
                rotate_left
                ·intro w'
                 go_simp
                 with_reducible rfl
                rotate_left
                ·simp only [Act.put, List.setIfInBounds_toArray, List.set_cons_zero, List.set_cons_succ, i64_w, i32_w]
                 rfl
                refine done_ (done_of HT_.out (by kernel_rfl)) ?_
                try go_wp2
                go_ret
                exact ⟨by first|rfl|(simp [errW_none, errW_some] <;> rfl)|(simp [*, errW_none, errW_some] <;> rfl), by repeat (first|(with_reducible first|exact HB.out|apply below_alloc|apply pw_below_drewN|apply below_drew1|refine below_set ?_ GE20.out)|exact HB.out)⟩
               ·rw [if_neg c254] at H
                have c254b0 : decide ((l0.length : Int) < (t29.length : Int)) = false := decide_eq_false c254
                have c254b1 : decide (l0.length < t29.length) = false := decide_eq_false (fun h => c254 (Int.ofNat_lt.mpr h))
                clear c254
                have H' := Aside0.mk H
                clear H
                try go_wp2
                have n0_ := Aside0.mk (blk_drew BK20.out)
                have n1_ := Aside0.mk (below_drew1 HB.out)
                clear BK20
                clear HB
                have BK20 := n0_
                have HB := n1_
                clear n0_ n1_
                have p27 : 0 ≤ (x5_2 : Int) := of_decide_eq_true (by first|(with_reducible assumption)|assumption)
                have q27 : x5_2 < (l0.length : Int) := of_decide_eq_true (by first|(with_reducible assumption)|assumption)
                obtain ⟨ad27, e27, hx27_0, hx27_1, hx27_2, hx27_3, hx27_4, hx27_5, hx27_6, hx27_7, hx27_8, hx27_9, hx27_10, hx27_11⟩ := at_T31 HR0.out x5_2 p27 q27
                have hw27_11 := hx27_11
                have hw27_10 := hx27_10
                have hw27_9 := hx27_9
                have hw27_8 := hx27_8
                have hw27_7 := hx27_7
                have hw27_6 := hx27_6
                have hw27_5 := hx27_5
                have hw27_4 := hx27_4
                have hw27_3 := hx27_3
                have hw27_2 := hx27_2
                have hw27_1 := hx27_1
                have hw27_0 := hx27_0
                obtain rfl : ad19 = ad27 := (by injection e27)
                replace hx27_0 := (HB.out.cell (World.block_lt_of_cell? w _ hx27_0)).trans hx27_0
                replace hx27_1 := (HB.out.cell (World.block_lt_of_cell? w _ hx27_1)).trans hx27_1
                replace hx27_2 := (HB.out.cell (World.block_lt_of_cell? w _ hx27_2)).trans hx27_2
                replace hx27_3 := (HB.out.cell (World.block_lt_of_cell? w _ hx27_3)).trans hx27_3
                replace hx27_4 := (HB.out.cell (World.block_lt_of_cell? w _ hx27_4)).trans hx27_4
                replace hx27_5 := (HB.out.cell (World.block_lt_of_cell? w _ hx27_5)).trans hx27_5
                replace hx27_6 := (HB.out.cell (World.block_lt_of_cell? w _ hx27_6)).trans hx27_6
                replace hx27_7 := (HB.out.cell (World.block_lt_of_cell? w _ hx27_7)).trans hx27_7
                replace hx27_8 := (HB.out.cell (World.block_lt_of_cell? w _ hx27_8)).trans hx27_8
                replace hx27_9 := (HB.out.cell (World.block_lt_of_cell? w _ hx27_9)).trans hx27_9
                replace hx27_10 := (HB.out.cell (World.block_lt_of_cell? w _ hx27_10)).trans hx27_10
                replace hx27_11 := (HB.out.cell (World.block_lt_of_cell? w _ hx27_11)).trans hx27_11
                replace p27 := eq_true p27
                replace q27 := eq_true q27
                have p28 : 0 ≤ (x5_2 : Int) := of_decide_eq_true (by first|(with_reducible assumption)|assumption)
                have q28 : x5_2 < (l0.length : Int) := of_decide_eq_true (by first|(with_reducible assumption)|assumption)
                obtain ⟨ad28, e28, hx28_0, hx28_1, hx28_2, hx28_3, hx28_4, hx28_5, hx28_6, hx28_7, hx28_8, hx28_9, hx28_10, hx28_11⟩ := at_T31 HR0.out x5_2 p28 q28
                have hw28_11 := hx28_11
                have hw28_10 := hx28_10
                have hw28_9 := hx28_9
                have hw28_8 := hx28_8
                have hw28_7 := hx28_7
                have hw28_6 := hx28_6
                have hw28_5 := hx28_5
                have hw28_4 := hx28_4
                have hw28_3 := hx28_3
                have hw28_2 := hx28_2
                have hw28_1 := hx28_1
                have hw28_0 := hx28_0
                obtain rfl : ad19 = ad28 := (by injection e28)
                replace hx28_0 := (HB.out.cell (World.block_lt_of_cell? w _ hx28_0)).trans hx28_0
                replace hx28_1 := (HB.out.cell (World.block_lt_of_cell? w _ hx28_1)).trans hx28_1
                replace hx28_2 := (HB.out.cell (World.block_lt_of_cell? w _ hx28_2)).trans hx28_2
                replace hx28_3 := (HB.out.cell (World.block_lt_of_cell? w _ hx28_3)).trans hx28_3
                replace hx28_4 := (HB.out.cell (World.block_lt_of_cell? w _ hx28_4)).trans hx28_4
                replace hx28_5 := (HB.out.cell (World.block_lt_of_cell? w _ hx28_5)).trans hx28_5
                replace hx28_6 := (HB.out.cell (World.block_lt_of_cell? w _ hx28_6)).trans hx28_6
                replace hx28_7 := (HB.out.cell (World.block_lt_of_cell? w _ hx28_7)).trans hx28_7
                replace hx28_8 := (HB.out.cell (World.block_lt_of_cell? w _ hx28_8)).trans hx28_8
                replace hx28_9 := (HB.out.cell (World.block_lt_of_cell? w _ hx28_9)).trans hx28_9
                replace hx28_10 := (HB.out.cell (World.block_lt_of_cell? w _ hx28_10)).trans hx28_10
                replace hx28_11 := (HB.out.cell (World.block_lt_of_cell? w _ hx28_11)).trans hx28_11
                replace p28 := eq_true p28
                replace q28 := eq_true q28
                refine start_ (n := 20) (S := fun w' => w'.cell? ⟨gb20, 0, none⟩ = some (.int .i64 x21000_3) ∧ w'.cell? ⟨gb20, 1, none⟩ = some (.int .i64 x21001_3) ∧ w'.cell? ⟨gb20, 2, none⟩ = some (.int .i64 x21002_3) ∧ w'.cell? (ad19.add ((x5_2).toNat * 12)) = some (.string ((rd_T31 l0 x5_2).f0)) ∧ w'.cell? ⟨(ad19.add ((x5_2).toNat * 12)).block, (ad19.add ((x5_2).toNat * 12)).off + 1, none⟩ = some (.string ((rd_T31 l0 x5_2).f1)) ∧ w'.cell? ⟨(ad19.add ((x5_2).toNat * 12)).block, (ad19.add ((x5_2).toNat * 12)).off + 2, none⟩ = some (.int .i64 ((rd_T31 l0 x5_2).f2.f0)) ∧ w'.cell? ⟨(ad19.add ((x5_2).toNat * 12)).block, (ad19.add ((x5_2).toNat * 12)).off + 3, none⟩ = some (.int .i64 ((rd_T31 l0 x5_2).f2.f1)) ∧ w'.cell? ⟨(ad19.add ((x5_2).toNat * 12)).block, (ad19.add ((x5_2).toNat * 12)).off + 4, none⟩ = some (.int .i64 ((rd_T31 l0 x5_2).f2.f2)) ∧ w'.cell? ⟨(ad19.add ((x5_2).toNat * 12)).block, (ad19.add ((x5_2).toNat * 12)).off + 5, none⟩ = some (.int .i64 ((rd_T31 l0 x5_2).f3.f0)) ∧ w'.cell? ⟨(ad19.add ((x5_2).toNat * 12)).block, (ad19.add ((x5_2).toNat * 12)).off + 6, none⟩ = some (.int .i64 ((rd_T31 l0 x5_2).f3.f1)) ∧ w'.cell? ⟨(ad19.add ((x5_2).toNat * 12)).block, (ad19.add ((x5_2).toNat * 12)).off + 7, none⟩ = some (.int .i64 ((rd_T31 l0 x5_2).f3.f2)) ∧ w'.cell? ⟨(ad19.add ((x5_2).toNat * 12)).block, (ad19.add ((x5_2).toNat * 12)).off + 8, none⟩ = some (.int .i64 ((rd_T31 l0 x5_2).f4.f0)) ∧ w'.cell? ⟨(ad19.add ((x5_2).toNat * 12)).block, (ad19.add ((x5_2).toNat * 12)).off + 9, none⟩ = some (.int .i64 ((rd_T31 l0 x5_2).f4.f1)) ∧ w'.cell? ⟨(ad19.add ((x5_2).toNat * 12)).block, (ad19.add ((x5_2).toNat * 12)).off + 10, none⟩ = some (.int .i64 ((rd_T31 l0 x5_2).f4.f2)) ∧ w'.cell? ⟨(ad19.add ((x5_2).toNat * 12)).block, (ad19.add ((x5_2).toNat * 12)).off + 11, none⟩ = some (.int .i64 ((rd_T31 l0 x5_2).f5)) ∧ w'.cell? (ad19.add ((x5_2).toNat * 12)) = some (.string ((rd_T31 l0 x5_2).f0)) ∧ w'.cell? ⟨(ad19.add ((x5_2).toNat * 12)).block, (ad19.add ((x5_2).toNat * 12)).off + 1, none⟩ = some (.string ((rd_T31 l0 x5_2).f1)) ∧ w'.cell? ⟨(ad19.add ((x5_2).toNat * 12)).block, (ad19.add ((x5_2).toNat * 12)).off + 2, none⟩ = some (.int .i64 ((rd_T31 l0 x5_2).f2.f0)) ∧ w'.cell? ⟨(ad19.add ((x5_2).toNat * 12)).block, (ad19.add ((x5_2).toNat * 12)).off + 3, none⟩ = some (.int .i64 ((rd_T31 l0 x5_2).f2.f1)) ∧ w'.cell? ⟨(ad19.add ((x5_2).toNat * 12)).block, (ad19.add ((x5_2).toNat * 12)).off + 4, none⟩ = some (.int .i64 ((rd_T31 l0 x5_2).f2.f2)) ∧ w'.cell? ⟨(ad19.add ((x5_2).toNat * 12)).block, (ad19.add ((x5_2).toNat * 12)).off + 5, none⟩ = some (.int .i64 ((rd_T31 l0 x5_2).f3.f0)) ∧ w'.cell? ⟨(ad19.add ((x5_2).toNat * 12)).block, (ad19.add ((x5_2).toNat * 12)).off + 6, none⟩ = some (.int .i64 ((rd_T31 l0 x5_2).f3.f1)) ∧ w'.cell? ⟨(ad19.add ((x5_2).toNat * 12)).block, (ad19.add ((x5_2).toNat * 12)).off + 7, none⟩ = some (.int .i64 ((rd_T31 l0 x5_2).f3.f2)) ∧ w'.cell? ⟨(ad19.add ((x5_2).toNat * 12)).block, (ad19.add ((x5_2).toNat * 12)).off + 8, none⟩ = some (.int .i64 ((rd_T31 l0 x5_2).f4.f0)) ∧ w'.cell? ⟨(ad19.add ((x5_2).toNat * 12)).block, (ad19.add ((x5_2).toNat * 12)).off + 9, none⟩ = some (.int .i64 ((rd_T31 l0 x5_2).f4.f1)) ∧ w'.cell? ⟨(ad19.add ((x5_2).toNat * 12)).block, (ad19.add ((x5_2).toNat * 12)).off + 10, none⟩ = some (.int .i64 ((rd_T31 l0 x5_2).f4.f2)) ∧ w'.cell? ⟨(ad19.add ((x5_2).toNat * 12)).block, (ad19.add ((x5_2).toNat * 12)).off + 11, none⟩ = some (.int .i64 ((rd_T31 l0 x5_2).f5))) (ds := []) #[false, false, false, false, false, false, false, false, false, false, false, false, false, false, false, false, false, false, false, false] (by kernel_rfl) rfl rfl ⟨(blk_cell BK20.out 0).trans rfl, (blk_cell BK20.out 1).trans rfl, (blk_cell BK20.out 2).trans rfl, ((HB.out.cell (World.block_lt_of_cell? w _ hw27_0)).trans hw27_0), ((HB.out.cell (World.block_lt_of_cell? w _ hw27_1)).trans hw27_1), ((HB.out.cell (World.block_lt_of_cell? w _ hw27_2)).trans hw27_2), ((HB.out.cell (World.block_lt_of_cell? w _ hw27_3)).trans hw27_3), ((HB.out.cell (World.block_lt_of_cell? w _ hw27_4)).trans hw27_4), ((HB.out.cell (World.block_lt_of_cell? w _ hw27_5)).trans hw27_5), ((HB.out.cell (World.block_lt_of_cell? w _ hw27_6)).trans hw27_6), ((HB.out.cell (World.block_lt_of_cell? w _ hw27_7)).trans hw27_7), ((HB.out.cell (World.block_lt_of_cell? w _ hw27_8)).trans hw27_8), ((HB.out.cell (World.block_lt_of_cell? w _ hw27_9)).trans hw27_9), ((HB.out.cell (World.block_lt_of_cell? w _ hw27_10)).trans hw27_10), ((HB.out.cell (World.block_lt_of_cell? w _ hw27_11)).trans hw27_11), ((HB.out.cell (World.block_lt_of_cell? w _ hw28_0)).trans hw28_0), ((HB.out.cell (World.block_lt_of_cell? w _ hw28_1)).trans hw28_1), ((HB.out.cell (World.block_lt_of_cell? w _ hw28_2)).trans hw28_2), ((HB.out.cell (World.block_lt_of_cell? w _ hw28_3)).trans hw28_3), ((HB.out.cell (World.block_lt_of_cell? w _ hw28_4)).trans hw28_4), ((HB.out.cell (World.block_lt_of_cell? w _ hw28_5)).trans hw28_5), ((HB.out.cell (World.block_lt_of_cell? w _ hw28_6)).trans hw28_6), ((HB.out.cell (World.block_lt_of_cell? w _ hw28_7)).trans hw28_7), ((HB.out.cell (World.block_lt_of_cell? w _ hw28_8)).trans hw28_8), ((HB.out.cell (World.block_lt_of_cell? w _ hw28_9)).trans hw28_9), ((HB.out.cell (World.block_lt_of_cell? w _ hw28_10)).trans hw28_10), ((HB.out.cell (World.block_lt_of_cell? w _ hw28_11)).trans hw28_11)⟩ (fun hHeld => ?_); refine with_tabW r10_Right.tab18 r10_Right.bits18 (fun HT_ HW_ => ?_)
                generalize wr.drew = w258 at BK20 HB hx27_0 hx27_1 hx27_10 hx27_11 hx27_2 hx27_3 hx27_4 hx27_5 hx27_6 hx27_7 hx27_8 hx27_9 hx28_0 hx28_1 hx28_10 hx28_11 hx28_2 hx28_3 hx28_4 hx28_5 hx28_6 hx28_7 hx28_8 hx28_9 hHeld ⊢
                refine pure_ (i := 1) (N := some 124) (v := ?_) (a' := ?_) #[false, true, false, false, false, false, false, false, false, false, false, false, false, false, false, false, false, false, false, false] rfl rfl (any_of HT_.out (by kernel_rfl)) (fun _ _ _ h => h) (Or.inl ⟨by rfl, ?_⟩) ?_ ?_
                rotate_left
                ·intro w'
                 go_simp
                 with_reducible rfl
                rotate_left
                ·simp only [Act.put, List.setIfInBounds_toArray, List.set_cons_zero, List.set_cons_succ, i64_w, i32_w]
                 rfl
                refine pure_ (i := 2) (N := some 125) (v := ?_) (a' := ?_) #[false, true, true, false, false, false, false, false, false, false, false, false, false, false, false, false, false, false, false, false] rfl rfl (any_of HT_.out (by kernel_rfl)) (fun _ _ _ h => h) (Or.inl ⟨by rfl, ?_⟩) ?_ ?_
                rotate_left
                ·intro w'
                 go_simp
                 with_reducible rfl
                rotate_left
                ·simp only [Act.put, List.setIfInBounds_toArray, List.set_cons_zero, List.set_cons_succ, i64_w, i32_w]
                 rfl
                refine pure_ (i := 3) (N := some 126) (v := ?_) (a' := ?_) #[false, true, true, true, false, false, false, false, false, false, false, false, false, false, false, false, false, false, false, false] rfl rfl (any_of HT_.out (by kernel_rfl)) (fun _ _ _ h => h) (Or.inl ⟨by rfl, ?_⟩) ?_ ?_
                rotate_left
                ·intro w'
                 go_simp
                 with_reducible rfl
                rotate_left
                ·simp only [Act.put, List.setIfInBounds_toArray, List.set_cons_zero, List.set_cons_succ, i64_w, i32_w]
                 rfl
                refine pure_ (i := 4) (N := some 127) (v := ?_) (a' := ?_) #[false, true, true, true, true, false, false, false, false, false, false, false, false, false, false, false, false, false, false, false] rfl rfl (any_of HT_.out (by kernel_rfl)) (fun _ _ _ h => h) (Or.inl ⟨by rfl, ?_⟩) ?_ ?_
                rotate_left
                ·intro w'
                 go_simp
                 with_reducible rfl
                rotate_left
                ·simp only [Act.put, List.setIfInBounds_toArray, List.set_cons_zero, List.set_cons_succ, i64_w, i32_w]
                 rfl
                refine take_ (i := 0) (N := some 123) (v := ?_) (a' := ?_) #[true, true, true, true, true, false, false, false, false, false, false, false, false, false, false, false, false, false, false, false] rfl rfl (take_ofW HT_.out HW_.out (by kernel_rfl)) (fun _ _ _ h => h) (Or.inl ⟨by rfl, ?_⟩) hHeld ?_ ?_
                rotate_left
                ·rintro w' ⟨s0, s1, s2, s3, s4, s5, s6, s7, s8, s9, s10, s11, s12, s13, s14, s15, s16, s17, s18, s19, s20, s21, s22, s23, s24, s25, s26⟩
                 go_simp
                 with_reducible rfl
                rotate_left
                ·simp only [Act.put, List.setIfInBounds_toArray, List.set_cons_zero, List.set_cons_succ, i64_w, i32_w]
                 rfl
                refine take_ (i := 5) (N := some 128) (v := ?_) (a' := ?_) #[true, true, true, true, true, true, false, false, false, false, false, false, false, false, false, false, false, false, false, false] rfl rfl (take_ofW HT_.out HW_.out (by kernel_rfl)) (fun _ _ _ h => h) (Or.inl ⟨by rfl, ?_⟩) hHeld ?_ ?_
                rotate_left
                ·rintro w' ⟨s0, s1, s2, s3, s4, s5, s6, s7, s8, s9, s10, s11, s12, s13, s14, s15, s16, s17, s18, s19, s20, s21, s22, s23, s24, s25, s26⟩
                 go_simp
                 with_reducible rfl
                rotate_left
                ·simp only [Act.put, List.setIfInBounds_toArray, List.set_cons_zero, List.set_cons_succ, i64_w, i32_w]
                 rfl
                refine pure_ (i := 6) (N := some 129) (v := ?_) (a' := ?_) #[true, true, true, true, true, true, true, false, false, false, false, false, false, false, false, false, false, false, false, false] rfl rfl (any_of HT_.out (by kernel_rfl)) (fun _ _ _ h => h) (Or.inl ⟨by rfl, ?_⟩) ?_ ?_
                rotate_left
                ·intro w'
                 go_simp
                 with_reducible rfl
                rotate_left
                ·simp only [Act.put, List.setIfInBounds_toArray, List.set_cons_zero, List.set_cons_succ, i64_w, i32_w]
                 rfl
                refine pure_ (i := 7) (N := some 130) (v := ?_) (a' := ?_) #[true, true, true, true, true, true, true, true, false, false, false, false, false, false, false, false, false, false, false, false] rfl rfl (any_of HT_.out (by kernel_rfl)) (fun _ _ _ h => h) (Or.inl ⟨by rfl, ?_⟩) ?_ ?_
                rotate_left
                ·intro w'
                 go_simp
                 with_reducible rfl
                rotate_left
                ·simp only [Act.put, List.setIfInBounds_toArray, List.set_cons_zero, List.set_cons_succ, i64_w, i32_w]
                 rfl
                refine pure_ (i := 8) (N := some 131) (v := ?_) (a' := ?_) #[true, true, true, true, true, true, true, true, true, false, false, false, false, false, false, false, false, false, false, false] rfl rfl (any_of HT_.out (by kernel_rfl)) (fun _ _ _ h => h) (Or.inl ⟨by rfl, ?_⟩) ?_ ?_
                rotate_left
                ·intro w'
                 go_simp
                 with_reducible rfl
                rotate_left
                ·simp only [Act.put, List.setIfInBounds_toArray, List.set_cons_zero, List.set_cons_succ, i64_w, i32_w]
                 rfl
                refine pure_ (i := 9) (N := some 132) (v := ?_) (a' := ?_) #[true, true, true, true, true, true, true, true, true, true, false, false, false, false, false, false, false, false, false, false] rfl rfl (any_of HT_.out (by kernel_rfl)) (fun _ _ _ h => h) (Or.inl ⟨by rfl, ?_⟩) ?_ ?_
                rotate_left
                ·intro w'
                 go_simp
                 with_reducible rfl
                rotate_left
                ·simp only [Act.put, List.setIfInBounds_toArray, List.set_cons_zero, List.set_cons_succ, i64_w, i32_w]
                 rfl
                refine pure_ (i := 10) (N := some 133) (v := ?_) (a' := ?_) #[true, true, true, true, true, true, true, true, true, true, true, false, false, false, false, false, false, false, false, false] rfl rfl (any_of HT_.out (by kernel_rfl)) (fun _ _ _ h => h) (Or.inl ⟨by rfl, ?_⟩) ?_ ?_
                rotate_left
                ·intro w'
                 go_simp
                 with_reducible rfl
                rotate_left
                ·simp only [Act.put, List.setIfInBounds_toArray, List.set_cons_zero, List.set_cons_succ, i64_w, i32_w]
                 rfl
                refine pure_ (i := 11) (N := some 134) (v := ?_) (a' := ?_) #[true, true, true, true, true, true, true, true, true, true, true, true, false, false, false, false, false, false, false, false] rfl rfl (any_of HT_.out (by kernel_rfl)) (fun _ _ _ h => h) (Or.inl ⟨by rfl, ?_⟩) ?_ ?_
                rotate_left
                ·intro w'
                 go_simp
                 with_reducible rfl
                rotate_left
                ·simp only [Act.put, List.setIfInBounds_toArray, List.set_cons_zero, List.set_cons_succ, i64_w, i32_w]
                 rfl
                refine pure_ (i := 12) (N := some 135) (v := ?_) (a' := ?_) #[true, true, true, true, true, true, true, true, true, true, true, true, true, false, false, false, false, false, false, false] rfl rfl (any_of HT_.out (by kernel_rfl)) (fun _ _ _ h => h) (Or.inl ⟨by rfl, ?_⟩) ?_ ?_
                rotate_left
                ·intro w'
                 go_simp
                 with_reducible rfl
                rotate_left
                ·simp only [Act.put, List.setIfInBounds_toArray, List.set_cons_zero, List.set_cons_succ, i64_w, i32_w]
                 rfl
                refine pure_ (i := 16) (N := some 139) (v := ?_) (a' := ?_) #[true, true, true, true, true, true, true, true, true, true, true, true, true, false, false, false, true, false, false, false] rfl rfl (any_of HT_.out (by kernel_rfl)) (fun _ _ _ h => h) (Or.inl ⟨by rfl, ?_⟩) ?_ ?_
                rotate_left
                ·intro w'
                 go_simp
                 with_reducible rfl
                rotate_left
                ·simp only [Act.put, List.setIfInBounds_toArray, List.set_cons_zero, List.set_cons_succ, i64_w, i32_w]
                 rfl
                refine pure_ (i := 17) (N := some 140) (v := ?_) (a' := ?_) #[true, true, true, true, true, true, true, true, true, true, true, true, true, false, false, false, true, true, false, false] rfl rfl (any_of HT_.out (by kernel_rfl)) (fun _ _ _ h => h) (Or.inl ⟨by rfl, ?_⟩) ?_ ?_
                rotate_left
                ·intro w'
                 go_simp
                 with_reducible rfl
                rotate_left
                ·simp only [Act.put, List.setIfInBounds_toArray, List.set_cons_zero, List.set_cons_succ, i64_w, i32_w]
                 rfl
                refine take_ (i := 13) (N := some 136) (v := ?_) (a' := ?_) #[true, true, true, true, true, true, true, true, true, true, true, true, true, true, false, false, true, true, false, false] rfl rfl (take_ofW HT_.out HW_.out (by kernel_rfl)) (fun _ _ _ h => h) (Or.inl ⟨by rfl, ?_⟩) hHeld ?_ ?_
                rotate_left
                ·rintro w' ⟨s0, s1, s2, s3, s4, s5, s6, s7, s8, s9, s10, s11, s12, s13, s14, s15, s16, s17, s18, s19, s20, s21, s22, s23, s24, s25, s26⟩
                 go_simp
                 with_reducible rfl
                rotate_left
                ·simp only [Act.put, List.setIfInBounds_toArray, List.set_cons_zero, List.set_cons_succ, i64_w, i32_w]
                 rfl
                refine one_ (i := 14) (N := some 137) #[true, true, true, true, true, true, true, true, true, true, true, true, true, true, true, false, true, true, false, false] rfl rfl (one_of HT_.out (by kernel_rfl)) (by decide) (fun K hK => ?_)
                refine goes_ Try.func106 (by kernel_rfl) rfl #[.slice (some ad19) l0.length c0, .string ((rd_T31 l0 x5_2).f0)] (by rfl) rfl rfl (by (try simp only [List.map_toArray, List.map_cons, List.map_nil]); first | done | rfl | (simp only [List.length_drop, List.length_take]; rfl)) ?_
                with_reducible refine (r10_Up.calls k3 _ _ l0 ((rd_T31 l0 x5_2).f0) t29 _ ?side1 ?side2 A253.out).mono ?_
                (case side1 => repeat (first|exact (Kd.C_below HR0.out HB.out)|(with_reducible refine Kd.C_alloc ?_ _)|(with_reducible refine Kd.C_drewN ?_ _)|(with_reducible refine Kd.C_drew ?_)))
                (case side2 => exact HC0.out)
                rintro e w259 ⟨v30, rfl, ho0, hb⟩
                refine ⟨_, rfl, ?_⟩
                have n0_ := Aside0.mk (Kd.R_lower ho0 (below_size (by repeat (first|(with_reducible first|exact HB.out|apply below_alloc|apply pw_below_drewN|apply below_drew1|refine below_set ?_ GE20.out)|exact HB.out))))
                have n1_ := Aside0.mk (blk_below (g := gb20) (o := .cells #[.int .i64 x21000_3, .int .i64 x21001_3, .int .i64 x21002_3] 27 (0, 0)) (by (with_reducible repeat (first|refine blk_drewN ?_ _|refine blk_drew ?_|refine blk_alloc ?_ _));exact BK20.out) hb)
                have n2_ := Aside0.mk (below_step (by repeat (first|(with_reducible first|exact HB.out|apply below_alloc|apply pw_below_drewN|apply below_drew1|refine below_set ?_ GE20.out)|exact HB.out)) hb)
                clear BK20
                clear HB
                have HO31 := n0_
                have BK20 := n1_
                have HB := n2_
                clear n0_ n1_ n2_
                (try clear hb)
                (try clear hb2)
                (try clear hk)
                (try clear hi)
                (try clear ho0)
                obtain ⟨Ao260, co260, eo260⟩ := Kd.R_slice HO31.out
                (first | subst eo260 | (injection eo260 with f1_ f2_ f3_; have f4_ := f1_.symm; have f5_ := f3_.symm; clear f1_ f2_ f3_; subst f4_; subst f5_))
                refine hK.out _ _ ⟨(blk_cell BK20.out 0).trans rfl, (blk_cell BK20.out 1).trans rfl, (blk_cell BK20.out 2).trans rfl, ((HB.out.cell (World.block_lt_of_cell? w _ hw27_0)).trans hw27_0), ((HB.out.cell (World.block_lt_of_cell? w _ hw27_1)).trans hw27_1), ((HB.out.cell (World.block_lt_of_cell? w _ hw27_2)).trans hw27_2), ((HB.out.cell (World.block_lt_of_cell? w _ hw27_3)).trans hw27_3), ((HB.out.cell (World.block_lt_of_cell? w _ hw27_4)).trans hw27_4), ((HB.out.cell (World.block_lt_of_cell? w _ hw27_5)).trans hw27_5), ((HB.out.cell (World.block_lt_of_cell? w _ hw27_6)).trans hw27_6), ((HB.out.cell (World.block_lt_of_cell? w _ hw27_7)).trans hw27_7), ((HB.out.cell (World.block_lt_of_cell? w _ hw27_8)).trans hw27_8), ((HB.out.cell (World.block_lt_of_cell? w _ hw27_9)).trans hw27_9), ((HB.out.cell (World.block_lt_of_cell? w _ hw27_10)).trans hw27_10), ((HB.out.cell (World.block_lt_of_cell? w _ hw27_11)).trans hw27_11), ((HB.out.cell (World.block_lt_of_cell? w _ hw28_0)).trans hw28_0), ((HB.out.cell (World.block_lt_of_cell? w _ hw28_1)).trans hw28_1), ((HB.out.cell (World.block_lt_of_cell? w _ hw28_2)).trans hw28_2), ((HB.out.cell (World.block_lt_of_cell? w _ hw28_3)).trans hw28_3), ((HB.out.cell (World.block_lt_of_cell? w _ hw28_4)).trans hw28_4), ((HB.out.cell (World.block_lt_of_cell? w _ hw28_5)).trans hw28_5), ((HB.out.cell (World.block_lt_of_cell? w _ hw28_6)).trans hw28_6), ((HB.out.cell (World.block_lt_of_cell? w _ hw28_7)).trans hw28_7), ((HB.out.cell (World.block_lt_of_cell? w _ hw28_8)).trans hw28_8), ((HB.out.cell (World.block_lt_of_cell? w _ hw28_9)).trans hw28_9), ((HB.out.cell (World.block_lt_of_cell? w _ hw28_10)).trans hw28_10), ((HB.out.cell (World.block_lt_of_cell? w _ hw28_11)).trans hw28_11)⟩ (fun hHeld => ?_)
                clear hK K
                refine norm_ (a' := ?_) ?_ ?_
                rotate_left
                ·show Act.put _ (some 137) _ = _
                 simp only [Act.put, List.setIfInBounds_toArray, List.set_cons_zero, List.set_cons_succ, i64_w, i32_w]
                 rfl
                refine pure_ (i := 15) (N := some 138) (v := ?_) (a' := ?_) #[true, true, true, true, true, true, true, true, true, true, true, true, true, true, true, true, true, true, false, false] rfl rfl (any_of HT_.out (by kernel_rfl)) (fun _ _ _ h => h) (Or.inl ⟨by rfl, ?_⟩) ?_ ?_
                rotate_left
                ·intro w'
                 go_simp
                 with_reducible rfl
                rotate_left
                ·simp only [Act.put, List.setIfInBounds_toArray, List.set_cons_zero, List.set_cons_succ, i64_w, i32_w]
                 rfl
                refine pure_ (i := 18) (N := some 141) (v := ?_) (a' := ?_) #[true, true, true, true, true, true, true, true, true, true, true, true, true, true, true, true, true, true, true, false] rfl rfl (any_of HT_.out (by kernel_rfl)) (fun _ _ _ h => h) (Or.inl ⟨by rfl, ?_⟩) ?_ ?_
                rotate_left
                ·intro w'
                 go_simp
                 with_reducible rfl
                rotate_left
                ·simp only [Act.put, List.setIfInBounds_toArray, List.set_cons_zero, List.set_cons_succ, i64_w, i32_w]
                 rfl
                refine pure_ (i := 19) (N := some 142) (v := ?_) (a' := ?_) #[true, true, true, true, true, true, true, true, true, true, true, true, true, true, true, true, true, true, true, true] rfl rfl (any_of HT_.out (by kernel_rfl)) (fun _ _ _ h => h) (Or.inl ⟨by rfl, ?_⟩) ?_ ?_
                rotate_left
                ·intro w'
                 go_simp
                 with_reducible rfl
                rotate_left
                ·simp only [Act.put, List.setIfInBounds_toArray, List.set_cons_zero, List.set_cons_succ, i64_w, i32_w]
                 rfl
                refine done_ (done_of HT_.out (by kernel_rfl)) ?_
                try go_wp2
                go_roundg k3
                case measure => have := HK1.out; have := HK2.out; have := HK3.out; omega
                case rel => exact ⟨(wrap64 (x5_2 + 1)), (by first|rfl|(simp;done)|(simp [*];done)), H', ⟨by have := HK1.out;have := HK2.out;have := HK3.out;omega⟩, ⟨by repeat (first|(with_reducible first|exact HB.out|apply below_alloc|apply pw_below_drewN|apply below_drew1|refine below_set ?_ GE20.out)|exact HB.out)⟩⟩
             ·rw [if_neg c250] at H
              exact absurd H (by simp)
            ·rw [if_neg c249] at H
             exact absurd H (by simp)
        ·rw [if_neg c233] at H
         exact absurd H (by simp)
       ·rw [if_neg c232] at H
        have c232b0 : decide (x5_2 < (l0.length : Int)) = false := decide_eq_false c232
        clear c232
        obtain rfl := Option.some.inj H
        go_wp2
        go_ret
        exact ⟨by first|rfl|(simp [errW_none, errW_some] <;> rfl)|(simp [*, errW_none, errW_some] <;> rfl), by repeat (first|(with_reducible first|exact HB.out|apply below_alloc|apply pw_below_drewN|apply below_drew1)|exact HB.out)⟩
end Go.Proofs.Ytcgefpklljclgaa.Print

namespace Go.Proofs.Ytcgefpklljclgaa.Print
open Go.RowKit Go.Proofs.YtcgefpklljclgaaW.PrintWords Go.Proofs.YtcgefpklljclgaaW.PrintLast Go.Proofs.YtcgefpklljclgaaW.PrintMore
attribute [local go_sem] max2_int min2_int max_two min_two max_three min_three max_four min_four   -- for this text's walks alone
set_option linter.unusedVariables false
set_option linter.unusedSimpArgs false
/-! ### room_looker_tight: function 122 -/
def room_looker_tight.f (l0_0 : List (S31)) (a0_1 : Int) (a0_2 : Int) (a0_3 : Int) (a1_0 : ByteArray) (a1_1 : ByteArray) (a1_2 : Int) (a1_3 : Int) (a1_4 : Int) (a1_5 : Int) (a1_6 : Int) (a1_7 : Int) (a1_8 : Int) (a1_9 : Int) (a1_10 : Int) (a1_11 : Int) : Option (Bool) := (room_free.f a1_0 a1_1 a1_2 a1_3 a1_4 a1_5 a1_6 a1_7 a1_8 a1_9 a1_10 a1_11).bind fun bt3 => (if bt3.1 = a0_1 then (some true) else (if bt3.2.1 = a0_2 then (some true) else (some (bt3.2.2 == a0_3))))
set_option maxHeartbeats 8000000 in
set_option maxRecDepth 100000 in
theorem room_looker_tight.calls (A0_0 : Option Addr) (c0_0 : Nat) (l0_0 : List (S31)) (a0_1 : Int) (a0_2 : Int) (a0_3 : Int) (a1_0 : ByteArray) (a1_1 : ByteArray) (a1_2 : Int) (a1_3 : Int) (a1_4 : Int) (a1_5 : Int) (a1_6 : Int) (a1_7 : Int) (a1_8 : Int) (a1_9 : Int) (a1_10 : Int) (a1_11 : Int) (r : Bool) (w : World) (hr0_0 : Kd.C k31 w A0_0 l0_0.length l0_0) (hc0_0 : l0_0.length ≤ c0_0) (h : room_looker_tight.f l0_0 a0_1 a0_2 a0_3 a1_0 a1_1 a1_2 a1_3 a1_4 a1_5 a1_6 a1_7 a1_8 a1_9 a1_10 a1_11 = some r) :
  Calls Try.prog 122 #[.agg #[.slice A0_0 l0_0.length c0_0, .int .i64 a0_1, .int .i64 a0_2, .int .i64 a0_3], .agg #[.string a1_0, .string a1_1, .int .i64 a1_2, .int .i64 a1_3, .int .i64 a1_4, .int .i64 a1_5, .int .i64 a1_6, .int .i64 a1_7, .int .i64 a1_8, .int .i64 a1_9, .int .i64 a1_10, .int .i64 a1_11]] w fun e w' => e = .returned (.bool r) ∧ Below w.heap.size w w' := by
 have hu127 := Try.underlying127
 have hu31 := Try.underlying31
 have hu27 := Try.underlying27
 have HR0_0 := Aside0.mk hr0_0
 have HC0_0 := Aside0.mk hc0_0
 clear hr0_0 hc0_0
 have HB := Aside0.mk (Below.refl w.heap.size w)
 have H : ((room_free.f a1_0 a1_1 a1_2 a1_3 a1_4 a1_5 a1_6 a1_7 a1_8 a1_9 a1_10 a1_11).bind fun bt3 => (if bt3.1 = a0_1 then (some true) else (if bt3.2.1 = a0_2 then (some true) else (some (bt3.2.2 == a0_3))))) = some r := h
 clear h
 replace H := Option.bind_eq_some_iff.mp H
 obtain ⟨⟨t3, t4, t5⟩, A30, H⟩ := H
 replace H : (if t3 = a0_1 then (some true) else (if t4 = a0_2 then (some true) else (some (t5 == a0_3)))) = some r := H
 have A3 := Aside0.mk A30
 clear A30
 by_cases c4 : t3 = a0_1
 ·rw [if_pos c4] at H
  have c4b0 : (t3 == a0_1) = true := beq_iff_eq.mpr c4
  have c4b1 : (t3 != a0_1) = false := bne_eq_false_iff_eq.mpr c4
  clear c4
  obtain rfl := Option.some.inj H
  go_enter Try.func122, Try.ntmps122
  go_wp2_with (first|((with_reducible refine gate_dst (N := 2) rfl ?_);refine box_event ?hg (N := 2) ?hd (cs := #[.slice A0_0 l0_0.length c0_0, .int .i64 a0_1, .int .i64 a0_2, .int .i64 a0_3]) (t := 127) ?hr ?_;(case hd => rfl);(case hg => rfl);(case hr => first|(go_simp;done)|(go_simp;rfl));intro gb1 hg w5 hbox hb;have n0_ := Aside0.mk (below_step (by repeat (first|(with_reducible first|exact HB.out|apply below_alloc|apply pw_below_drewN|apply below_drew1)|exact HB.out)) hb);have n1_ := Aside0.mk (hbox);have n2_ := Aside0.mk ((by rw [hg];exact (below_size (by repeat (first|(with_reducible first|exact HB.out|apply below_alloc|apply pw_below_drewN|apply below_drew1)|exact HB.out))) : w.heap.size ≤ gb1));have n3_ := Aside0.mk ((by rw [hg];exact (below_size (by repeat (first|(with_reducible first|exact HB.out|apply below_alloc|apply pw_below_drewN|apply below_drew1)|exact HB.out))) : w.heap.size ≤ gb1));clear HB;have HB := n0_;have BK1 := n1_;have GW1 := n2_;have GE1 := n3_;clear n0_ n1_ n2_ n3_;clear hb hbox hg)|((with_reducible refine gate_dst (N := 3) rfl ?_);refine box_event ?hg (N := 3) ?hd (cs := #[.string a1_0, .string a1_1, .int .i64 a1_2, .int .i64 a1_3, .int .i64 a1_4, .int .i64 a1_5, .int .i64 a1_6, .int .i64 a1_7, .int .i64 a1_8, .int .i64 a1_9, .int .i64 a1_10, .int .i64 a1_11]) (t := 31) ?hr ?_;(case hd => rfl);(case hg => rfl);(case hr => first|(go_simp;done)|(go_simp;rfl));intro gb2 hg w6 hbox hb;have n0_ := Aside0.mk (blk_below (g := gb1) (o := .cells #[.slice A0_0 l0_0.length c0_0, .int .i64 a0_1, .int .i64 a0_2, .int .i64 a0_3] 127 (0, 0)) (by (with_reducible repeat (first|refine blk_drewN ?_ _|refine blk_drew ?_|refine blk_alloc ?_ _));exact BK1.out) hb);have n1_ := Aside0.mk (below_step (by repeat (first|(with_reducible first|exact HB.out|apply below_alloc|apply pw_below_drewN|apply below_drew1|refine below_set ?_ GE1.out)|exact HB.out)) hb);have n2_ := Aside0.mk (hbox);have n3_ := Aside0.mk ((by rw [hg];exact (below_size (by repeat (first|(with_reducible first|exact HB.out|apply below_alloc|apply pw_below_drewN|apply below_drew1|refine below_set ?_ GE1.out)|exact HB.out))) : w.heap.size ≤ gb2));have n4_ := Aside0.mk ((by rw [hg];exact (below_size (by repeat (first|(with_reducible first|exact HB.out|apply below_alloc|apply pw_below_drewN|apply below_drew1|refine below_set ?_ GE1.out)|exact HB.out))) : w.heap.size ≤ gb2));have n5_ := Aside0.mk ((by rw [hg];exact Nat.ne_of_lt (blk_lt (g := gb1) (o := .cells #[.slice A0_0 l0_0.length c0_0, .int .i64 a0_1, .int .i64 a0_2, .int .i64 a0_3] 127 (0, 0)) (by (with_reducible repeat (first|refine blk_drewN ?_ _|refine blk_drew ?_|refine blk_alloc ?_ _));exact BK1.out)) : gb1 ≠ gb2));have n6_ := Aside0.mk ((by rw [hg];exact Nat.ne_of_gt (blk_lt (g := gb1) (o := .cells #[.slice A0_0 l0_0.length c0_0, .int .i64 a0_1, .int .i64 a0_2, .int .i64 a0_3] 127 (0, 0)) (by (with_reducible repeat (first|refine blk_drewN ?_ _|refine blk_drew ?_|refine blk_alloc ?_ _));exact BK1.out)) : gb2 ≠ gb1));clear BK1;clear HB;have BK1 := n0_;have HB := n1_;have BK2 := n2_;have GW2 := n3_;have GE2 := n4_;have NB1_2 := n5_;have NB2_1 := n6_;clear n0_ n1_ n2_ n3_ n4_ n5_ n6_;clear hb hbox hg;have hnb7 := NB2_1.out;have hnc7 := NB1_2.out;have hcz8_0 : w6.cell? ⟨gb2, 0, none⟩ = some (.string a1_0) := (blk_cell BK2.out 0).trans rfl;have hcz8_1 : w6.cell? ⟨gb2, 1, none⟩ = some (.string a1_1) := (blk_cell BK2.out 1).trans rfl;have hcz8_2 : w6.cell? ⟨gb2, 2, none⟩ = some (.int .i64 a1_2) := (blk_cell BK2.out 2).trans rfl;have hcz8_3 : w6.cell? ⟨gb2, 3, none⟩ = some (.int .i64 a1_3) := (blk_cell BK2.out 3).trans rfl;have hcz8_4 : w6.cell? ⟨gb2, 4, none⟩ = some (.int .i64 a1_4) := (blk_cell BK2.out 4).trans rfl;have hcz8_5 : w6.cell? ⟨gb2, 5, none⟩ = some (.int .i64 a1_5) := (blk_cell BK2.out 5).trans rfl;have hcz8_6 : w6.cell? ⟨gb2, 6, none⟩ = some (.int .i64 a1_6) := (blk_cell BK2.out 6).trans rfl;have hcz8_7 : w6.cell? ⟨gb2, 7, none⟩ = some (.int .i64 a1_7) := (blk_cell BK2.out 7).trans rfl;have hcz8_8 : w6.cell? ⟨gb2, 8, none⟩ = some (.int .i64 a1_8) := (blk_cell BK2.out 8).trans rfl;have hcz8_9 : w6.cell? ⟨gb2, 9, none⟩ = some (.int .i64 a1_9) := (blk_cell BK2.out 9).trans rfl;have hcz8_10 : w6.cell? ⟨gb2, 10, none⟩ = some (.int .i64 a1_10) := (blk_cell BK2.out 10).trans rfl;have hcz8_11 : w6.cell? ⟨gb2, 11, none⟩ = some (.int .i64 a1_11) := (blk_cell BK2.out 11).trans rfl;have hfz8_0 := blk_frozen BK2.out 0;have hfz8_1 := blk_frozen BK2.out 1;have hfz8_2 := blk_frozen BK2.out 2;have hfz8_3 := blk_frozen BK2.out 3;have hfz8_4 := blk_frozen BK2.out 4;have hfz8_5 := blk_frozen BK2.out 5;have hfz8_6 := blk_frozen BK2.out 6;have hfz8_7 := blk_frozen BK2.out 7;have hfz8_8 := blk_frozen BK2.out 8;have hfz8_9 := blk_frozen BK2.out 9;have hfz8_10 := blk_frozen BK2.out 10;have hfz8_11 := blk_frozen BK2.out 11)|((with_reducible refine gate_callee (f := 158) rfl ?_);refine goesL_ (some 7) rfl rfl Try.func158 (by kernel_rfl) rfl #[.agg #[.string a1_0, .string a1_1, .int .i64 a1_2, .int .i64 a1_3, .int .i64 a1_4, .int .i64 a1_5, .int .i64 a1_6, .int .i64 a1_7, .int .i64 a1_8, .int .i64 a1_9, .int .i64 a1_10, .int .i64 a1_11]] rfl (by (try simp only [List.map_toArray, List.map_cons, List.map_nil]);first|done|rfl|(simp only [List.length_drop, List.length_take];rfl)) ?_;(with_reducible refine (room_free.calls a1_0 a1_1 a1_2 a1_3 a1_4 a1_5 a1_6 a1_7 a1_8 a1_9 a1_10 a1_11 t3 t4 t5 _ A3.out).mono ?_);rintro e w9 ⟨rfl, hb⟩;refine ⟨_, rfl, ?_⟩;have n0_ := Aside0.mk (blk_below (g := gb1) (o := .cells #[.slice A0_0 l0_0.length c0_0, .int .i64 a0_1, .int .i64 a0_2, .int .i64 a0_3] 127 (0, 0)) (by (with_reducible repeat (first|refine blk_drewN ?_ _|refine blk_drew ?_|refine blk_alloc ?_ _));exact BK1.out) hb);have n1_ := Aside0.mk (blk_below (g := gb2) (o := .cells #[.string a1_0, .string a1_1, .int .i64 a1_2, .int .i64 a1_3, .int .i64 a1_4, .int .i64 a1_5, .int .i64 a1_6, .int .i64 a1_7, .int .i64 a1_8, .int .i64 a1_9, .int .i64 a1_10, .int .i64 a1_11] 31 (0, 0)) (by (with_reducible repeat (first|refine blk_drewN ?_ _|refine blk_drew ?_|refine blk_alloc ?_ _));exact BK2.out) hb);have n2_ := Aside0.mk (below_step (by repeat (first|(with_reducible first|exact HB.out|apply below_alloc|apply pw_below_drewN|apply below_drew1|refine below_set ?_ GE1.out|refine below_set ?_ GE2.out)|exact HB.out)) hb);clear BK1;clear BK2;clear HB;have BK1 := n0_;have BK2 := n1_;have HB := n2_;clear n0_ n1_ n2_;(try clear hb);(try clear hb2);(try clear hk);(try clear hi))|((with_reducible refine gate_dst (N := 5) rfl ?_);refine box_event ?hg (N := 5) ?hd (cs := #[.int .i64 0, .int .i64 0, .int .i64 0]) (t := 27) ?hr ?_;(case hd => rfl);(case hg => rfl);(case hr => first|(go_simp;done)|(go_simp;rfl));intro gb6 hg w10 hbox hb;have n0_ := Aside0.mk (blk_below (g := gb1) (o := .cells #[.slice A0_0 l0_0.length c0_0, .int .i64 a0_1, .int .i64 a0_2, .int .i64 a0_3] 127 (0, 0)) (by (with_reducible repeat (first|refine blk_drewN ?_ _|refine blk_drew ?_|refine blk_alloc ?_ _));exact BK1.out) hb);have n1_ := Aside0.mk (blk_below (g := gb2) (o := .cells #[.string a1_0, .string a1_1, .int .i64 a1_2, .int .i64 a1_3, .int .i64 a1_4, .int .i64 a1_5, .int .i64 a1_6, .int .i64 a1_7, .int .i64 a1_8, .int .i64 a1_9, .int .i64 a1_10, .int .i64 a1_11] 31 (0, 0)) (by (with_reducible repeat (first|refine blk_drewN ?_ _|refine blk_drew ?_|refine blk_alloc ?_ _));exact BK2.out) hb);have n2_ := Aside0.mk (below_step (by repeat (first|(with_reducible first|exact HB.out|apply below_alloc|apply pw_below_drewN|apply below_drew1|refine below_set ?_ GE1.out|refine below_set ?_ GE2.out)|exact HB.out)) hb);have n3_ := Aside0.mk (hbox);have n4_ := Aside0.mk ((by rw [hg];exact (below_size (by repeat (first|(with_reducible first|exact HB.out|apply below_alloc|apply pw_below_drewN|apply below_drew1|refine below_set ?_ GE1.out|refine below_set ?_ GE2.out)|exact HB.out))) : w.heap.size ≤ gb6));have n5_ := Aside0.mk ((by rw [hg];exact (below_size (by repeat (first|(with_reducible first|exact HB.out|apply below_alloc|apply pw_below_drewN|apply below_drew1|refine below_set ?_ GE1.out|refine below_set ?_ GE2.out)|exact HB.out))) : w.heap.size ≤ gb6));have n6_ := Aside0.mk ((by rw [hg];exact Nat.ne_of_lt (blk_lt (g := gb1) (o := .cells #[.slice A0_0 l0_0.length c0_0, .int .i64 a0_1, .int .i64 a0_2, .int .i64 a0_3] 127 (0, 0)) (by (with_reducible repeat (first|refine blk_drewN ?_ _|refine blk_drew ?_|refine blk_alloc ?_ _));exact BK1.out)) : gb1 ≠ gb6));have n7_ := Aside0.mk ((by rw [hg];exact Nat.ne_of_gt (blk_lt (g := gb1) (o := .cells #[.slice A0_0 l0_0.length c0_0, .int .i64 a0_1, .int .i64 a0_2, .int .i64 a0_3] 127 (0, 0)) (by (with_reducible repeat (first|refine blk_drewN ?_ _|refine blk_drew ?_|refine blk_alloc ?_ _));exact BK1.out)) : gb6 ≠ gb1));have n8_ := Aside0.mk ((by rw [hg];exact Nat.ne_of_lt (blk_lt (g := gb2) (o := .cells #[.string a1_0, .string a1_1, .int .i64 a1_2, .int .i64 a1_3, .int .i64 a1_4, .int .i64 a1_5, .int .i64 a1_6, .int .i64 a1_7, .int .i64 a1_8, .int .i64 a1_9, .int .i64 a1_10, .int .i64 a1_11] 31 (0, 0)) (by (with_reducible repeat (first|refine blk_drewN ?_ _|refine blk_drew ?_|refine blk_alloc ?_ _));exact BK2.out)) : gb2 ≠ gb6));have n9_ := Aside0.mk ((by rw [hg];exact Nat.ne_of_gt (blk_lt (g := gb2) (o := .cells #[.string a1_0, .string a1_1, .int .i64 a1_2, .int .i64 a1_3, .int .i64 a1_4, .int .i64 a1_5, .int .i64 a1_6, .int .i64 a1_7, .int .i64 a1_8, .int .i64 a1_9, .int .i64 a1_10, .int .i64 a1_11] 31 (0, 0)) (by (with_reducible repeat (first|refine blk_drewN ?_ _|refine blk_drew ?_|refine blk_alloc ?_ _));exact BK2.out)) : gb6 ≠ gb2));clear BK1;clear BK2;clear HB;have BK1 := n0_;have BK2 := n1_;have HB := n2_;have BK6 := n3_;have GW6 := n4_;have GE6 := n5_;have NB1_6 := n6_;have NB6_1 := n7_;have NB2_6 := n8_;have NB6_2 := n9_;clear n0_ n1_ n2_ n3_ n4_ n5_ n6_ n7_ n8_ n9_;clear hb hbox hg;have hnb11 := NB6_1.out;have hnc11 := NB1_6.out;have hnb12 := NB6_2.out;have hnc12 := NB2_6.out;have hcz13_0 : w10.cell? ⟨gb6, 0, none⟩ = some (.int .i64 0) := (blk_cell BK6.out 0).trans rfl;have hcz13_1 : w10.cell? ⟨gb6, 1, none⟩ = some (.int .i64 0) := (blk_cell BK6.out 1).trans rfl;have hcz13_2 : w10.cell? ⟨gb6, 2, none⟩ = some (.int .i64 0) := (blk_cell BK6.out 2).trans rfl;have hfz13_0 := blk_frozen BK6.out 0;have hfz13_1 := blk_frozen BK6.out 1;have hfz13_2 := blk_frozen BK6.out 2;have hcz14_0 : w10.cell? ⟨gb1, 0, none⟩ = some (.slice A0_0 l0_0.length c0_0) := (blk_cell BK1.out 0).trans rfl;have hcz14_1 : w10.cell? ⟨gb1, 1, none⟩ = some (.int .i64 a0_1) := (blk_cell BK1.out 1).trans rfl;have hcz14_2 : w10.cell? ⟨gb1, 2, none⟩ = some (.int .i64 a0_2) := (blk_cell BK1.out 2).trans rfl;have hcz14_3 : w10.cell? ⟨gb1, 3, none⟩ = some (.int .i64 a0_3) := (blk_cell BK1.out 3).trans rfl;have hfz14_0 := blk_frozen BK1.out 0;have hfz14_1 := blk_frozen BK1.out 1;have hfz14_2 := blk_frozen BK1.out 2;have hfz14_3 := blk_frozen BK1.out 3))
  go_ret
  exact ⟨by first|rfl|(simp [errW_none, errW_some] <;> rfl)|(simp [*, errW_none, errW_some] <;> rfl), by repeat (first|(with_reducible first|exact HB.out|apply below_alloc|apply pw_below_drewN|apply below_drew1|refine below_set ?_ GE1.out|refine below_set ?_ GE2.out|refine below_set ?_ GE6.out)|exact HB.out)⟩
 ·rw [if_neg c4] at H
  have c4b0 : (t3 == a0_1) = false := beq_eq_false_iff_ne.mpr c4
  have c4b1 : (t3 != a0_1) = true := bne_iff_ne.mpr c4
  by_cases c15 : t4 = a0_2
  ·rw [if_pos c15] at H
   have c15b0 : (t4 == a0_2) = true := beq_iff_eq.mpr c15
   have c15b1 : (t4 != a0_2) = false := bne_eq_false_iff_eq.mpr c15
   clear c15
   obtain rfl := Option.some.inj H
   go_enter Try.func122, Try.ntmps122
   go_wp2_with (first|((with_reducible refine gate_dst (N := 2) rfl ?_);refine box_event ?hg (N := 2) ?hd (cs := #[.slice A0_0 l0_0.length c0_0, .int .i64 a0_1, .int .i64 a0_2, .int .i64 a0_3]) (t := 127) ?hr ?_;(case hd => rfl);(case hg => rfl);(case hr => first|(go_simp;done)|(go_simp;rfl));intro gb1 hg w16 hbox hb;have n0_ := Aside0.mk (below_step (by repeat (first|(with_reducible first|exact HB.out|apply below_alloc|apply pw_below_drewN|apply below_drew1)|exact HB.out)) hb);have n1_ := Aside0.mk (hbox);have n2_ := Aside0.mk ((by rw [hg];exact (below_size (by repeat (first|(with_reducible first|exact HB.out|apply below_alloc|apply pw_below_drewN|apply below_drew1)|exact HB.out))) : w.heap.size ≤ gb1));have n3_ := Aside0.mk ((by rw [hg];exact (below_size (by repeat (first|(with_reducible first|exact HB.out|apply below_alloc|apply pw_below_drewN|apply below_drew1)|exact HB.out))) : w.heap.size ≤ gb1));clear HB;have HB := n0_;have BK1 := n1_;have GW1 := n2_;have GE1 := n3_;clear n0_ n1_ n2_ n3_;clear hb hbox hg)|((with_reducible refine gate_dst (N := 3) rfl ?_);refine box_event ?hg (N := 3) ?hd (cs := #[.string a1_0, .string a1_1, .int .i64 a1_2, .int .i64 a1_3, .int .i64 a1_4, .int .i64 a1_5, .int .i64 a1_6, .int .i64 a1_7, .int .i64 a1_8, .int .i64 a1_9, .int .i64 a1_10, .int .i64 a1_11]) (t := 31) ?hr ?_;(case hd => rfl);(case hg => rfl);(case hr => first|(go_simp;done)|(go_simp;rfl));intro gb2 hg w17 hbox hb;have n0_ := Aside0.mk (blk_below (g := gb1) (o := .cells #[.slice A0_0 l0_0.length c0_0, .int .i64 a0_1, .int .i64 a0_2, .int .i64 a0_3] 127 (0, 0)) (by (with_reducible repeat (first|refine blk_drewN ?_ _|refine blk_drew ?_|refine blk_alloc ?_ _));exact BK1.out) hb);have n1_ := Aside0.mk (below_step (by repeat (first|(with_reducible first|exact HB.out|apply below_alloc|apply pw_below_drewN|apply below_drew1|refine below_set ?_ GE1.out)|exact HB.out)) hb);have n2_ := Aside0.mk (hbox);have n3_ := Aside0.mk ((by rw [hg];exact (below_size (by repeat (first|(with_reducible first|exact HB.out|apply below_alloc|apply pw_below_drewN|apply below_drew1|refine below_set ?_ GE1.out)|exact HB.out))) : w.heap.size ≤ gb2));have n4_ := Aside0.mk ((by rw [hg];exact (below_size (by repeat (first|(with_reducible first|exact HB.out|apply below_alloc|apply pw_below_drewN|apply below_drew1|refine below_set ?_ GE1.out)|exact HB.out))) : w.heap.size ≤ gb2));have n5_ := Aside0.mk ((by rw [hg];exact Nat.ne_of_lt (blk_lt (g := gb1) (o := .cells #[.slice A0_0 l0_0.length c0_0, .int .i64 a0_1, .int .i64 a0_2, .int .i64 a0_3] 127 (0, 0)) (by (with_reducible repeat (first|refine blk_drewN ?_ _|refine blk_drew ?_|refine blk_alloc ?_ _));exact BK1.out)) : gb1 ≠ gb2));have n6_ := Aside0.mk ((by rw [hg];exact Nat.ne_of_gt (blk_lt (g := gb1) (o := .cells #[.slice A0_0 l0_0.length c0_0, .int .i64 a0_1, .int .i64 a0_2, .int .i64 a0_3] 127 (0, 0)) (by (with_reducible repeat (first|refine blk_drewN ?_ _|refine blk_drew ?_|refine blk_alloc ?_ _));exact BK1.out)) : gb2 ≠ gb1));clear BK1;clear HB;have BK1 := n0_;have HB := n1_;have BK2 := n2_;have GW2 := n3_;have GE2 := n4_;have NB1_2 := n5_;have NB2_1 := n6_;clear n0_ n1_ n2_ n3_ n4_ n5_ n6_;clear hb hbox hg;have hnb18 := NB2_1.out;have hnc18 := NB1_2.out;have hcz19_0 : w17.cell? ⟨gb2, 0, none⟩ = some (.string a1_0) := (blk_cell BK2.out 0).trans rfl;have hcz19_1 : w17.cell? ⟨gb2, 1, none⟩ = some (.string a1_1) := (blk_cell BK2.out 1).trans rfl;have hcz19_2 : w17.cell? ⟨gb2, 2, none⟩ = some (.int .i64 a1_2) := (blk_cell BK2.out 2).trans rfl;have hcz19_3 : w17.cell? ⟨gb2, 3, none⟩ = some (.int .i64 a1_3) := (blk_cell BK2.out 3).trans rfl;have hcz19_4 : w17.cell? ⟨gb2, 4, none⟩ = some (.int .i64 a1_4) := (blk_cell BK2.out 4).trans rfl;have hcz19_5 : w17.cell? ⟨gb2, 5, none⟩ = some (.int .i64 a1_5) := (blk_cell BK2.out 5).trans rfl;have hcz19_6 : w17.cell? ⟨gb2, 6, none⟩ = some (.int .i64 a1_6) := (blk_cell BK2.out 6).trans rfl;have hcz19_7 : w17.cell? ⟨gb2, 7, none⟩ = some (.int .i64 a1_7) := (blk_cell BK2.out 7).trans rfl;have hcz19_8 : w17.cell? ⟨gb2, 8, none⟩ = some (.int .i64 a1_8) := (blk_cell BK2.out 8).trans rfl;have hcz19_9 : w17.cell? ⟨gb2, 9, none⟩ = some (.int .i64 a1_9) := (blk_cell BK2.out 9).trans rfl;have hcz19_10 : w17.cell? ⟨gb2, 10, none⟩ = some (.int .i64 a1_10) := (blk_cell BK2.out 10).trans rfl;have hcz19_11 : w17.cell? ⟨gb2, 11, none⟩ = some (.int .i64 a1_11) := (blk_cell BK2.out 11).trans rfl;have hfz19_0 := blk_frozen BK2.out 0;have hfz19_1 := blk_frozen BK2.out 1;have hfz19_2 := blk_frozen BK2.out 2;have hfz19_3 := blk_frozen BK2.out 3;have hfz19_4 := blk_frozen BK2.out 4;have hfz19_5 := blk_frozen BK2.out 5;have hfz19_6 := blk_frozen BK2.out 6;have hfz19_7 := blk_frozen BK2.out 7;have hfz19_8 := blk_frozen BK2.out 8;have hfz19_9 := blk_frozen BK2.out 9;have hfz19_10 := blk_frozen BK2.out 10;have hfz19_11 := blk_frozen BK2.out 11)|((with_reducible refine gate_callee (f := 158) rfl ?_);refine goesL_ (some 7) rfl rfl Try.func158 (by kernel_rfl) rfl #[.agg #[.string a1_0, .string a1_1, .int .i64 a1_2, .int .i64 a1_3, .int .i64 a1_4, .int .i64 a1_5, .int .i64 a1_6, .int .i64 a1_7, .int .i64 a1_8, .int .i64 a1_9, .int .i64 a1_10, .int .i64 a1_11]] rfl (by (try simp only [List.map_toArray, List.map_cons, List.map_nil]);first|done|rfl|(simp only [List.length_drop, List.length_take];rfl)) ?_;(with_reducible refine (room_free.calls a1_0 a1_1 a1_2 a1_3 a1_4 a1_5 a1_6 a1_7 a1_8 a1_9 a1_10 a1_11 t3 t4 t5 _ A3.out).mono ?_);rintro e w20 ⟨rfl, hb⟩;refine ⟨_, rfl, ?_⟩;have n0_ := Aside0.mk (blk_below (g := gb1) (o := .cells #[.slice A0_0 l0_0.length c0_0, .int .i64 a0_1, .int .i64 a0_2, .int .i64 a0_3] 127 (0, 0)) (by (with_reducible repeat (first|refine blk_drewN ?_ _|refine blk_drew ?_|refine blk_alloc ?_ _));exact BK1.out) hb);have n1_ := Aside0.mk (blk_below (g := gb2) (o := .cells #[.string a1_0, .string a1_1, .int .i64 a1_2, .int .i64 a1_3, .int .i64 a1_4, .int .i64 a1_5, .int .i64 a1_6, .int .i64 a1_7, .int .i64 a1_8, .int .i64 a1_9, .int .i64 a1_10, .int .i64 a1_11] 31 (0, 0)) (by (with_reducible repeat (first|refine blk_drewN ?_ _|refine blk_drew ?_|refine blk_alloc ?_ _));exact BK2.out) hb);have n2_ := Aside0.mk (below_step (by repeat (first|(with_reducible first|exact HB.out|apply below_alloc|apply pw_below_drewN|apply below_drew1|refine below_set ?_ GE1.out|refine below_set ?_ GE2.out)|exact HB.out)) hb);clear BK1;clear BK2;clear HB;have BK1 := n0_;have BK2 := n1_;have HB := n2_;clear n0_ n1_ n2_;(try clear hb);(try clear hb2);(try clear hk);(try clear hi))|((with_reducible refine gate_dst (N := 5) rfl ?_);refine box_event ?hg (N := 5) ?hd (cs := #[.int .i64 0, .int .i64 0, .int .i64 0]) (t := 27) ?hr ?_;(case hd => rfl);(case hg => rfl);(case hr => first|(go_simp;done)|(go_simp;rfl));intro gb6 hg w21 hbox hb;have n0_ := Aside0.mk (blk_below (g := gb1) (o := .cells #[.slice A0_0 l0_0.length c0_0, .int .i64 a0_1, .int .i64 a0_2, .int .i64 a0_3] 127 (0, 0)) (by (with_reducible repeat (first|refine blk_drewN ?_ _|refine blk_drew ?_|refine blk_alloc ?_ _));exact BK1.out) hb);have n1_ := Aside0.mk (blk_below (g := gb2) (o := .cells #[.string a1_0, .string a1_1, .int .i64 a1_2, .int .i64 a1_3, .int .i64 a1_4, .int .i64 a1_5, .int .i64 a1_6, .int .i64 a1_7, .int .i64 a1_8, .int .i64 a1_9, .int .i64 a1_10, .int .i64 a1_11] 31 (0, 0)) (by (with_reducible repeat (first|refine blk_drewN ?_ _|refine blk_drew ?_|refine blk_alloc ?_ _));exact BK2.out) hb);have n2_ := Aside0.mk (below_step (by repeat (first|(with_reducible first|exact HB.out|apply below_alloc|apply pw_below_drewN|apply below_drew1|refine below_set ?_ GE1.out|refine below_set ?_ GE2.out)|exact HB.out)) hb);have n3_ := Aside0.mk (hbox);have n4_ := Aside0.mk ((by rw [hg];exact (below_size (by repeat (first|(with_reducible first|exact HB.out|apply below_alloc|apply pw_below_drewN|apply below_drew1|refine below_set ?_ GE1.out|refine below_set ?_ GE2.out)|exact HB.out))) : w.heap.size ≤ gb6));have n5_ := Aside0.mk ((by rw [hg];exact (below_size (by repeat (first|(with_reducible first|exact HB.out|apply below_alloc|apply pw_below_drewN|apply below_drew1|refine below_set ?_ GE1.out|refine below_set ?_ GE2.out)|exact HB.out))) : w.heap.size ≤ gb6));have n6_ := Aside0.mk ((by rw [hg];exact Nat.ne_of_lt (blk_lt (g := gb1) (o := .cells #[.slice A0_0 l0_0.length c0_0, .int .i64 a0_1, .int .i64 a0_2, .int .i64 a0_3] 127 (0, 0)) (by (with_reducible repeat (first|refine blk_drewN ?_ _|refine blk_drew ?_|refine blk_alloc ?_ _));exact BK1.out)) : gb1 ≠ gb6));have n7_ := Aside0.mk ((by rw [hg];exact Nat.ne_of_gt (blk_lt (g := gb1) (o := .cells #[.slice A0_0 l0_0.length c0_0, .int .i64 a0_1, .int .i64 a0_2, .int .i64 a0_3] 127 (0, 0)) (by (with_reducible repeat (first|refine blk_drewN ?_ _|refine blk_drew ?_|refine blk_alloc ?_ _));exact BK1.out)) : gb6 ≠ gb1));have n8_ := Aside0.mk ((by rw [hg];exact Nat.ne_of_lt (blk_lt (g := gb2) (o := .cells #[.string a1_0, .string a1_1, .int .i64 a1_2, .int .i64 a1_3, .int .i64 a1_4, .int .i64 a1_5, .int .i64 a1_6, .int .i64 a1_7, .int .i64 a1_8, .int .i64 a1_9, .int .i64 a1_10, .int .i64 a1_11] 31 (0, 0)) (by (with_reducible repeat (first|refine blk_drewN ?_ _|refine blk_drew ?_|refine blk_alloc ?_ _));exact BK2.out)) : gb2 ≠ gb6));have n9_ := Aside0.mk ((by rw [hg];exact Nat.ne_of_gt (blk_lt (g := gb2) (o := .cells #[.string a1_0, .string a1_1, .int .i64 a1_2, .int .i64 a1_3, .int .i64 a1_4, .int .i64 a1_5, .int .i64 a1_6, .int .i64 a1_7, .int .i64 a1_8, .int .i64 a1_9, .int .i64 a1_10, .int .i64 a1_11] 31 (0, 0)) (by (with_reducible repeat (first|refine blk_drewN ?_ _|refine blk_drew ?_|refine blk_alloc ?_ _));exact BK2.out)) : gb6 ≠ gb2));clear BK1;clear BK2;clear HB;have BK1 := n0_;have BK2 := n1_;have HB := n2_;have BK6 := n3_;have GW6 := n4_;have GE6 := n5_;have NB1_6 := n6_;have NB6_1 := n7_;have NB2_6 := n8_;have NB6_2 := n9_;clear n0_ n1_ n2_ n3_ n4_ n5_ n6_ n7_ n8_ n9_;clear hb hbox hg;have hnb22 := NB6_1.out;have hnc22 := NB1_6.out;have hnb23 := NB6_2.out;have hnc23 := NB2_6.out;have hcz24_0 : w21.cell? ⟨gb6, 0, none⟩ = some (.int .i64 0) := (blk_cell BK6.out 0).trans rfl;have hcz24_1 : w21.cell? ⟨gb6, 1, none⟩ = some (.int .i64 0) := (blk_cell BK6.out 1).trans rfl;have hcz24_2 : w21.cell? ⟨gb6, 2, none⟩ = some (.int .i64 0) := (blk_cell BK6.out 2).trans rfl;have hfz24_0 := blk_frozen BK6.out 0;have hfz24_1 := blk_frozen BK6.out 1;have hfz24_2 := blk_frozen BK6.out 2;have hcz25_0 : w21.cell? ⟨gb1, 0, none⟩ = some (.slice A0_0 l0_0.length c0_0) := (blk_cell BK1.out 0).trans rfl;have hcz25_1 : w21.cell? ⟨gb1, 1, none⟩ = some (.int .i64 a0_1) := (blk_cell BK1.out 1).trans rfl;have hcz25_2 : w21.cell? ⟨gb1, 2, none⟩ = some (.int .i64 a0_2) := (blk_cell BK1.out 2).trans rfl;have hcz25_3 : w21.cell? ⟨gb1, 3, none⟩ = some (.int .i64 a0_3) := (blk_cell BK1.out 3).trans rfl;have hfz25_0 := blk_frozen BK1.out 0;have hfz25_1 := blk_frozen BK1.out 1;have hfz25_2 := blk_frozen BK1.out 2;have hfz25_3 := blk_frozen BK1.out 3))
   go_ret
   exact ⟨by first|rfl|(simp [errW_none, errW_some] <;> rfl)|(simp [*, errW_none, errW_some] <;> rfl), by repeat (first|(with_reducible first|exact HB.out|apply below_alloc|apply pw_below_drewN|apply below_drew1|refine below_set ?_ GE1.out|refine below_set ?_ GE2.out|refine below_set ?_ GE6.out)|exact HB.out)⟩
  ·rw [if_neg c15] at H
   have c15b0 : (t4 == a0_2) = false := beq_eq_false_iff_ne.mpr c15
   have c15b1 : (t4 != a0_2) = true := bne_iff_ne.mpr c15
   obtain rfl := Option.some.inj H
   go_enter Try.func122, Try.ntmps122
   go_wp2_with (first|((with_reducible refine gate_dst (N := 2) rfl ?_);refine box_event ?hg (N := 2) ?hd (cs := #[.slice A0_0 l0_0.length c0_0, .int .i64 a0_1, .int .i64 a0_2, .int .i64 a0_3]) (t := 127) ?hr ?_;(case hd => rfl);(case hg => rfl);(case hr => first|(go_simp;done)|(go_simp;rfl));intro gb1 hg w26 hbox hb;have n0_ := Aside0.mk (below_step (by repeat (first|(with_reducible first|exact HB.out|apply below_alloc|apply pw_below_drewN|apply below_drew1)|exact HB.out)) hb);have n1_ := Aside0.mk (hbox);have n2_ := Aside0.mk ((by rw [hg];exact (below_size (by repeat (first|(with_reducible first|exact HB.out|apply below_alloc|apply pw_below_drewN|apply below_drew1)|exact HB.out))) : w.heap.size ≤ gb1));have n3_ := Aside0.mk ((by rw [hg];exact (below_size (by repeat (first|(with_reducible first|exact HB.out|apply below_alloc|apply pw_below_drewN|apply below_drew1)|exact HB.out))) : w.heap.size ≤ gb1));clear HB;have HB := n0_;have BK1 := n1_;have GW1 := n2_;have GE1 := n3_;clear n0_ n1_ n2_ n3_;clear hb hbox hg)|((with_reducible refine gate_dst (N := 3) rfl ?_);refine box_event ?hg (N := 3) ?hd (cs := #[.string a1_0, .string a1_1, .int .i64 a1_2, .int .i64 a1_3, .int .i64 a1_4, .int .i64 a1_5, .int .i64 a1_6, .int .i64 a1_7, .int .i64 a1_8, .int .i64 a1_9, .int .i64 a1_10, .int .i64 a1_11]) (t := 31) ?hr ?_;(case hd => rfl);(case hg => rfl);(case hr => first|(go_simp;done)|(go_simp;rfl));intro gb2 hg w27 hbox hb;have n0_ := Aside0.mk (blk_below (g := gb1) (o := .cells #[.slice A0_0 l0_0.length c0_0, .int .i64 a0_1, .int .i64 a0_2, .int .i64 a0_3] 127 (0, 0)) (by (with_reducible repeat (first|refine blk_drewN ?_ _|refine blk_drew ?_|refine blk_alloc ?_ _));exact BK1.out) hb);have n1_ := Aside0.mk (below_step (by repeat (first|(with_reducible first|exact HB.out|apply below_alloc|apply pw_below_drewN|apply below_drew1|refine below_set ?_ GE1.out)|exact HB.out)) hb);have n2_ := Aside0.mk (hbox);have n3_ := Aside0.mk ((by rw [hg];exact (below_size (by repeat (first|(with_reducible first|exact HB.out|apply below_alloc|apply pw_below_drewN|apply below_drew1|refine below_set ?_ GE1.out)|exact HB.out))) : w.heap.size ≤ gb2));have n4_ := Aside0.mk ((by rw [hg];exact (below_size (by repeat (first|(with_reducible first|exact HB.out|apply below_alloc|apply pw_below_drewN|apply below_drew1|refine below_set ?_ GE1.out)|exact HB.out))) : w.heap.size ≤ gb2));have n5_ := Aside0.mk ((by rw [hg];exact Nat.ne_of_lt (blk_lt (g := gb1) (o := .cells #[.slice A0_0 l0_0.length c0_0, .int .i64 a0_1, .int .i64 a0_2, .int .i64 a0_3] 127 (0, 0)) (by (with_reducible repeat (first|refine blk_drewN ?_ _|refine blk_drew ?_|refine blk_alloc ?_ _));exact BK1.out)) : gb1 ≠ gb2));have n6_ := Aside0.mk ((by rw [hg];exact Nat.ne_of_gt (blk_lt (g := gb1) (o := .cells #[.slice A0_0 l0_0.length c0_0, .int .i64 a0_1, .int .i64 a0_2, .int .i64 a0_3] 127 (0, 0)) (by (with_reducible repeat (first|refine blk_drewN ?_ _|refine blk_drew ?_|refine blk_alloc ?_ _));exact BK1.out)) : gb2 ≠ gb1));clear BK1;clear HB;have BK1 := n0_;have HB := n1_;have BK2 := n2_;have GW2 := n3_;have GE2 := n4_;have NB1_2 := n5_;have NB2_1 := n6_;clear n0_ n1_ n2_ n3_ n4_ n5_ n6_;clear hb hbox hg;have hnb28 := NB2_1.out;have hnc28 := NB1_2.out;have hcz29_0 : w27.cell? ⟨gb2, 0, none⟩ = some (.string a1_0) := (blk_cell BK2.out 0).trans rfl;have hcz29_1 : w27.cell? ⟨gb2, 1, none⟩ = some (.string a1_1) := (blk_cell BK2.out 1).trans rfl;have hcz29_2 : w27.cell? ⟨gb2, 2, none⟩ = some (.int .i64 a1_2) := (blk_cell BK2.out 2).trans rfl;have hcz29_3 : w27.cell? ⟨gb2, 3, none⟩ = some (.int .i64 a1_3) := (blk_cell BK2.out 3).trans rfl;have hcz29_4 : w27.cell? ⟨gb2, 4, none⟩ = some (.int .i64 a1_4) := (blk_cell BK2.out 4).trans rfl;have hcz29_5 : w27.cell? ⟨gb2, 5, none⟩ = some (.int .i64 a1_5) := (blk_cell BK2.out 5).trans rfl;have hcz29_6 : w27.cell? ⟨gb2, 6, none⟩ = some (.int .i64 a1_6) := (blk_cell BK2.out 6).trans rfl;have hcz29_7 : w27.cell? ⟨gb2, 7, none⟩ = some (.int .i64 a1_7) := (blk_cell BK2.out 7).trans rfl;have hcz29_8 : w27.cell? ⟨gb2, 8, none⟩ = some (.int .i64 a1_8) := (blk_cell BK2.out 8).trans rfl;have hcz29_9 : w27.cell? ⟨gb2, 9, none⟩ = some (.int .i64 a1_9) := (blk_cell BK2.out 9).trans rfl;have hcz29_10 : w27.cell? ⟨gb2, 10, none⟩ = some (.int .i64 a1_10) := (blk_cell BK2.out 10).trans rfl;have hcz29_11 : w27.cell? ⟨gb2, 11, none⟩ = some (.int .i64 a1_11) := (blk_cell BK2.out 11).trans rfl;have hfz29_0 := blk_frozen BK2.out 0;have hfz29_1 := blk_frozen BK2.out 1;have hfz29_2 := blk_frozen BK2.out 2;have hfz29_3 := blk_frozen BK2.out 3;have hfz29_4 := blk_frozen BK2.out 4;have hfz29_5 := blk_frozen BK2.out 5;have hfz29_6 := blk_frozen BK2.out 6;have hfz29_7 := blk_frozen BK2.out 7;have hfz29_8 := blk_frozen BK2.out 8;have hfz29_9 := blk_frozen BK2.out 9;have hfz29_10 := blk_frozen BK2.out 10;have hfz29_11 := blk_frozen BK2.out 11)|((with_reducible refine gate_callee (f := 158) rfl ?_);refine goesL_ (some 7) rfl rfl Try.func158 (by kernel_rfl) rfl #[.agg #[.string a1_0, .string a1_1, .int .i64 a1_2, .int .i64 a1_3, .int .i64 a1_4, .int .i64 a1_5, .int .i64 a1_6, .int .i64 a1_7, .int .i64 a1_8, .int .i64 a1_9, .int .i64 a1_10, .int .i64 a1_11]] rfl (by (try simp only [List.map_toArray, List.map_cons, List.map_nil]);first|done|rfl|(simp only [List.length_drop, List.length_take];rfl)) ?_;(with_reducible refine (room_free.calls a1_0 a1_1 a1_2 a1_3 a1_4 a1_5 a1_6 a1_7 a1_8 a1_9 a1_10 a1_11 t3 t4 t5 _ A3.out).mono ?_);rintro e w30 ⟨rfl, hb⟩;refine ⟨_, rfl, ?_⟩;have n0_ := Aside0.mk (blk_below (g := gb1) (o := .cells #[.slice A0_0 l0_0.length c0_0, .int .i64 a0_1, .int .i64 a0_2, .int .i64 a0_3] 127 (0, 0)) (by (with_reducible repeat (first|refine blk_drewN ?_ _|refine blk_drew ?_|refine blk_alloc ?_ _));exact BK1.out) hb);have n1_ := Aside0.mk (blk_below (g := gb2) (o := .cells #[.string a1_0, .string a1_1, .int .i64 a1_2, .int .i64 a1_3, .int .i64 a1_4, .int .i64 a1_5, .int .i64 a1_6, .int .i64 a1_7, .int .i64 a1_8, .int .i64 a1_9, .int .i64 a1_10, .int .i64 a1_11] 31 (0, 0)) (by (with_reducible repeat (first|refine blk_drewN ?_ _|refine blk_drew ?_|refine blk_alloc ?_ _));exact BK2.out) hb);have n2_ := Aside0.mk (below_step (by repeat (first|(with_reducible first|exact HB.out|apply below_alloc|apply pw_below_drewN|apply below_drew1|refine below_set ?_ GE1.out|refine below_set ?_ GE2.out)|exact HB.out)) hb);clear BK1;clear BK2;clear HB;have BK1 := n0_;have BK2 := n1_;have HB := n2_;clear n0_ n1_ n2_;(try clear hb);(try clear hb2);(try clear hk);(try clear hi))|((with_reducible refine gate_dst (N := 5) rfl ?_);refine box_event ?hg (N := 5) ?hd (cs := #[.int .i64 0, .int .i64 0, .int .i64 0]) (t := 27) ?hr ?_;(case hd => rfl);(case hg => rfl);(case hr => first|(go_simp;done)|(go_simp;rfl));intro gb6 hg w31 hbox hb;have n0_ := Aside0.mk (blk_below (g := gb1) (o := .cells #[.slice A0_0 l0_0.length c0_0, .int .i64 a0_1, .int .i64 a0_2, .int .i64 a0_3] 127 (0, 0)) (by (with_reducible repeat (first|refine blk_drewN ?_ _|refine blk_drew ?_|refine blk_alloc ?_ _));exact BK1.out) hb);have n1_ := Aside0.mk (blk_below (g := gb2) (o := .cells #[.string a1_0, .string a1_1, .int .i64 a1_2, .int .i64 a1_3, .int .i64 a1_4, .int .i64 a1_5, .int .i64 a1_6, .int .i64 a1_7, .int .i64 a1_8, .int .i64 a1_9, .int .i64 a1_10, .int .i64 a1_11] 31 (0, 0)) (by (with_reducible repeat (first|refine blk_drewN ?_ _|refine blk_drew ?_|refine blk_alloc ?_ _));exact BK2.out) hb);have n2_ := Aside0.mk (below_step (by repeat (first|(with_reducible first|exact HB.out|apply below_alloc|apply pw_below_drewN|apply below_drew1|refine below_set ?_ GE1.out|refine below_set ?_ GE2.out)|exact HB.out)) hb);have n3_ := Aside0.mk (hbox);have n4_ := Aside0.mk ((by rw [hg];exact (below_size (by repeat (first|(with_reducible first|exact HB.out|apply below_alloc|apply pw_below_drewN|apply below_drew1|refine below_set ?_ GE1.out|refine below_set ?_ GE2.out)|exact HB.out))) : w.heap.size ≤ gb6));have n5_ := Aside0.mk ((by rw [hg];exact (below_size (by repeat (first|(with_reducible first|exact HB.out|apply below_alloc|apply pw_below_drewN|apply below_drew1|refine below_set ?_ GE1.out|refine below_set ?_ GE2.out)|exact HB.out))) : w.heap.size ≤ gb6));have n6_ := Aside0.mk ((by rw [hg];exact Nat.ne_of_lt (blk_lt (g := gb1) (o := .cells #[.slice A0_0 l0_0.length c0_0, .int .i64 a0_1, .int .i64 a0_2, .int .i64 a0_3] 127 (0, 0)) (by (with_reducible repeat (first|refine blk_drewN ?_ _|refine blk_drew ?_|refine blk_alloc ?_ _));exact BK1.out)) : gb1 ≠ gb6));have n7_ := Aside0.mk ((by rw [hg];exact Nat.ne_of_gt (blk_lt (g := gb1) (o := .cells #[.slice A0_0 l0_0.length c0_0, .int .i64 a0_1, .int .i64 a0_2, .int .i64 a0_3] 127 (0, 0)) (by (with_reducible repeat (first|refine blk_drewN ?_ _|refine blk_drew ?_|refine blk_alloc ?_ _));exact BK1.out)) : gb6 ≠ gb1));have n8_ := Aside0.mk ((by rw [hg];exact Nat.ne_of_lt (blk_lt (g := gb2) (o := .cells #[.string a1_0, .string a1_1, .int .i64 a1_2, .int .i64 a1_3, .int .i64 a1_4, .int .i64 a1_5, .int .i64 a1_6, .int .i64 a1_7, .int .i64 a1_8, .int .i64 a1_9, .int .i64 a1_10, .int .i64 a1_11] 31 (0, 0)) (by (with_reducible repeat (first|refine blk_drewN ?_ _|refine blk_drew ?_|refine blk_alloc ?_ _));exact BK2.out)) : gb2 ≠ gb6));have n9_ := Aside0.mk ((by rw [hg];exact Nat.ne_of_gt (blk_lt (g := gb2) (o := .cells #[.string a1_0, .string a1_1, .int .i64 a1_2, .int .i64 a1_3, .int .i64 a1_4, .int .i64 a1_5, .int .i64 a1_6, .int .i64 a1_7, .int .i64 a1_8, .int .i64 a1_9, .int .i64 a1_10, .int .i64 a1_11] 31 (0, 0)) (by (with_reducible repeat (first|refine blk_drewN ?_ _|refine blk_drew ?_|refine blk_alloc ?_ _));exact BK2.out)) : gb6 ≠ gb2));clear BK1;clear BK2;clear HB;have BK1 := n0_;have BK2 := n1_;have HB := n2_;have BK6 := n3_;have GW6 := n4_;have GE6 := n5_;have NB1_6 := n6_;have NB6_1 := n7_;have NB2_6 := n8_;have NB6_2 := n9_;clear n0_ n1_ n2_ n3_ n4_ n5_ n6_ n7_ n8_ n9_;clear hb hbox hg;have hnb32 := NB6_1.out;have hnc32 := NB1_6.out;have hnb33 := NB6_2.out;have hnc33 := NB2_6.out;have hcz34_0 : w31.cell? ⟨gb6, 0, none⟩ = some (.int .i64 0) := (blk_cell BK6.out 0).trans rfl;have hcz34_1 : w31.cell? ⟨gb6, 1, none⟩ = some (.int .i64 0) := (blk_cell BK6.out 1).trans rfl;have hcz34_2 : w31.cell? ⟨gb6, 2, none⟩ = some (.int .i64 0) := (blk_cell BK6.out 2).trans rfl;have hfz34_0 := blk_frozen BK6.out 0;have hfz34_1 := blk_frozen BK6.out 1;have hfz34_2 := blk_frozen BK6.out 2;have hcz35_0 : w31.cell? ⟨gb1, 0, none⟩ = some (.slice A0_0 l0_0.length c0_0) := (blk_cell BK1.out 0).trans rfl;have hcz35_1 : w31.cell? ⟨gb1, 1, none⟩ = some (.int .i64 a0_1) := (blk_cell BK1.out 1).trans rfl;have hcz35_2 : w31.cell? ⟨gb1, 2, none⟩ = some (.int .i64 a0_2) := (blk_cell BK1.out 2).trans rfl;have hcz35_3 : w31.cell? ⟨gb1, 3, none⟩ = some (.int .i64 a0_3) := (blk_cell BK1.out 3).trans rfl;have hfz35_0 := blk_frozen BK1.out 0;have hfz35_1 := blk_frozen BK1.out 1;have hfz35_2 := blk_frozen BK1.out 2;have hfz35_3 := blk_frozen BK1.out 3))
   go_ret
   exact ⟨by first|rfl|(simp [errW_none, errW_some] <;> rfl)|(simp [*, errW_none, errW_some] <;> rfl), by repeat (first|(with_reducible first|exact HB.out|apply below_alloc|apply pw_below_drewN|apply below_drew1|refine below_set ?_ GE1.out|refine below_set ?_ GE2.out|refine below_set ?_ GE6.out)|exact HB.out)⟩
end Go.Proofs.Ytcgefpklljclgaa.Print
